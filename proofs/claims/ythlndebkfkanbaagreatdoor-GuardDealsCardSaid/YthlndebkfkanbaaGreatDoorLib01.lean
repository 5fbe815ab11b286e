import Derived.Test.YthlndebkfkanbaaGreatDoorLib00
set_option linter.all false
namespace Hud
open Go
section
theorem aN {T:Tab} {i:Nat} {o:AObj} (e:bK T i=some o):T[i]?=some (some o):=by
 unfold bK at e
 split at e
 ·rename_i o' h;injection e with e;subst e;exact h
 ·simp at e
theorem aST {T:Tab} {i:Nat} {o:AObj} (e:bK T i=some o):i<T.length:=by
 have:=aN e
 rcases Nat.lt_or_ge i T.length with h | h
 ·exact h
 ·simp [List.getElem?_eq_none h] at this
section
variable {P:Program} {G:Nat->Option (List AV)} {h:GH} {φ:Nat->Value} {n:Nat} {T:Tab} {w:World} {s:List (Nat×AV)} {a:Act}
def SOk (h:GH) (φ:Nat->Value) (n:Nat) (s:List (Nat×AV)) (a:Act):Prop:=∀ i,Rp h φ n (aK s i) (a.tmps.getD i undef)
theorem bP (hG:GOk G h) (hS:SOk h φ n s a) (x:Operand):Rp h φ n (evO G s x) (a.eval x):=by
 cases x with
 | tmp t=>exact hS t
 | const v=>simp [evO,Act.eval,Rp]
 | global g =>
  simp only [evO,Act.eval]
  split
  ·rename_i cs hg;simp only [Rp];exact ⟨g,0,rfl,hG g cs hg⟩
  ·simp [Rp]
 | func f=>simp only [evO,Act.eval,Rp];exact ⟨#[],rfl,by simp [RpL]⟩
theorem iV (hG:GOk G h) (hS:SOk h φ n s a) {x:Operand} {v:Value} (e:evO G s x=.v v):a.eval x=v:=by
 have:=bP hG hS x
 rw [e] at this
 simpa [Rp] using this
theorem aIu (hG:GOk G h) (hS:SOk h φ n s a) (l:List Operand):RpL h φ n (l.map (evO G s)) (l.map a.eval):=by
 induction l with
 | nil=>simp [RpL]
 | cons x l ih=>simp only [List.map_cons,RpL];exact ⟨_,_,rfl,bP hG hS x,ih⟩
theorem xJ:∀ {x:AV} {u:Value},Rp h φ n x u->(∀ c∈bR x,gM c=true)->RpL h φ n (bR x) u.cells.toList
 | .ag cs,u,e,_=>by
  simp only [Rp] at e
  obtain ⟨us,rfl,h2⟩:=e
  exact h2
 | .v x,u,e,ho=>by
  simp only [Rp] at e
  subst e
  cases u with
  | agg us =>
   simp only [bR,Value.cells]
   exact RpL.mk (by simp) fun i c u hc hu=>by
    simp only [List.getElem?_map] at hc
    rw [hu] at hc
    simp at hc
    subst hc
    simp [Rp]
  | _=>simp [bR,Value.cells,RpL,Rp]
 | .ls k es,u,e,_=>by
  have e':=e
  simp only [Rp,RpD] at e'
  obtain ⟨A,c,rfl,_⟩:=e'
  simp only [bR,Value.cells,RpL]
  exact ⟨_,[],rfl,e,rfl⟩
 | .own i,u,e,_=>by
  have e':=e
  simp only [Rp] at e'
  obtain ⟨_,_,A,l,c,rfl⟩:=e'
  simp only [bR,Value.cells,RpL]
  exact ⟨_,[],rfl,e,rfl⟩
 | .ptr i o,u,e,_=>by
  have e':=e
  simp only [Rp] at e'
  obtain ⟨_,g,_,rfl⟩:=e'
  simp only [bR,Value.cells,RpL]
  exact ⟨_,[],rfl,e,rfl⟩
 | .elt i k j o,u,e,_=>by
  have e':=e
  simp only [Rp] at e'
  obtain ⟨_,g,_,_,_,rfl⟩:=e'
  simp only [bR,Value.cells,RpL]
  exact ⟨_,[],rfl,e,rfl⟩
 | .mp i,u,e,_=>by
  have e':=e
  simp only [Rp] at e'
  obtain ⟨_,_,g,rfl⟩:=e'
  simp only [bR,Value.cells,RpL]
  exact ⟨_,[],rfl,e,rfl⟩
 | .yl i,u,e,_=>by
  have e':=e
  simp only [Rp] at e'
  obtain ⟨_,_,g,rfl⟩:=e'
  simp only [bR,Value.cells,RpL]
  exact ⟨_,[],rfl,e,rfl⟩
 | .vw i k j o,u,e,_=>by
  have e':=e
  simp only [Rp] at e'
  obtain ⟨_,A,c,rfl,_⟩:=e'
  simp only [bR,Value.cells,RpL]
  exact ⟨_,[],rfl,e,rfl⟩
 | .rp cs,u,e,_=>by
  have e':=e
  simp only [Rp] at e'
  obtain ⟨_,_,rfl,_⟩:=e'
  simp only [bR,Value.cells,RpL]
  exact ⟨_,[],rfl,e,rfl⟩
 | .cl f cs,u,e,_=>by
  have e':=e
  simp only [Rp] at e'
  obtain ⟨us,rfl,_⟩:=e'
  simp only [bR,Value.cells,RpL]
  exact ⟨_,[],rfl,e,rfl⟩
 | .bm f kk cs,u,e,_=>by
  have e':=e
  simp only [Rp] at e'
  obtain ⟨us,rfl,_⟩:=e'
  simp only [bR,Value.cells,RpL]
  exact ⟨_,[],rfl,e,rfl⟩
 | .tup cs,u,e,ho=>by simp [bR,gM] at ho
 | .any,u,e,ho=>by simp [bR,gM] at ho
theorem aHT:∀ {x:AV} {u:Value},Rp h φ n x u->gM x=true->u.oneCell'=true
 | .v x,u,e,ho=>by
  simp only [Rp] at e
  subst e
  cases u<;>simp_all [gM,Value.oneCell']
 | .ls k es,u,e,_=>by simp only [Rp,RpD] at e;obtain ⟨A,c,rfl,_⟩:=e;rfl
 | .own i,u,e,_=>by simp only [Rp] at e;obtain ⟨_,_,A,l,c,rfl⟩:=e;rfl
 | .ptr i o,u,e,_=>by simp only [Rp] at e;obtain ⟨_,g,_,rfl⟩:=e;rfl
 | .elt i k j o,u,e,_=>by simp only [Rp] at e;obtain ⟨_,g,_,_,_,rfl⟩:=e;rfl
 | .vw i k j o,u,e,_=>by simp only [Rp] at e;obtain ⟨_,A,c,rfl,_⟩:=e;rfl
 | .mp i,u,e,_=>by simp only [Rp] at e;obtain ⟨_,_,g,rfl⟩:=e;rfl
 | .yl i,u,e,_=>by simp only [Rp] at e;obtain ⟨_,_,g,rfl⟩:=e;rfl
 | .rp cs,u,e,_=>by simp only [Rp] at e;obtain ⟨_,_,rfl,_⟩:=e;rfl
 | .cl f cs,u,e,_=>by simp only [Rp] at e;obtain ⟨us,rfl,_⟩:=e;rfl
 | .bm f kk cs,u,e,_=>by simp only [Rp] at e;obtain ⟨us,rfl,_⟩:=e;rfl
 | .ag cs,u,e,ho=>by simp [gM] at ho
 | .tup cs,u,e,ho=>by simp [gM] at ho
 | .any,u,e,ho=>by simp [gM] at ho
theorem aSU {cs:List AV} {us:List Value} (hr:RpL h φ n cs us) {off:Nat} {x:AV}:∀ {m:Option Nat},aIp cs off m=some x ->
  match m with
  | none=>∃ u,us[off]?=some u/\Rp h φ n x u
  | some k=>off+k<=us.length/\Rp h φ n x (.agg ((us.drop off).take k).toArray)
 | none,e=>by
  simp only [aIp] at e
  exact hr.get e
 | some k,e=>by
  simp only [aIp] at e
  split at e
  ·rename_i hle
   injection e with e
   subst e
   have hl:=hr.length
   exact ⟨by omega,by simp only [Rp];exact ⟨_,rfl,by simpa using (hr.drop off).take k⟩⟩
  ·simp at e
theorem aMr {i:Nat} {cs:List AV} (hI:Inv h φ w T) (hg:bK T i=some (.box cs)) :
  ∃ (g:Nat) (us:Array Value) (E:TypeId),φ i=.pointer (some ⟨g,0,none⟩)/\w.heap[g]?=some (.cells us E (0,0))/\h g=none/\RpL h φ T.length cs us.toList :=
 hI.obj i _ (aN hg)
theorem yT {g:Nat} {us:Array Value} {E:TypeId} {fr:Nat×Nat} (hw:w.heap[g]?=some (.cells us E fr)) (o:Nat):w.cell? ⟨g,o,none⟩=us[o]?:=by
 simp [World.cell?,hw]
theorem aPc {b o:Nat} {u:Value} (hI:Inv h φ w T) (e:mH h b o=some u):w.cell? ⟨b,o,none⟩=some u:=by
 unfold mH at e
 cases hb:h b with
 | none=>simp [hb] at e
 | some cs =>
  obtain ⟨E,fr,hw⟩:=hI.gh b cs hb
  rw [yT hw]
  simpa [hb] using e
theorem aBW {t:TypeId} {m:Option Nat} (e:aCi P t=some m) :
  match m with
  | none=>(isAgg t).run P w=.ok false w/\True
  | some k=>(isAgg t).run P w=.ok true w/\(Go.sizeOf t).run P w=.ok k w:=by
 unfold aCi at e
 split at e
 ·rename_i fs i hu hi
  injection e with e;subst e
  simp [isAgg,run_underlying hu,Go.sizeOf,typeInfo,hi]
 ·rename_i l el i hu hi
  injection e with e;subst e
  simp [isAgg,run_underlying hu,Go.sizeOf,typeInfo,hi]
 ·rename_i d i h1 h2 hu hi
  injection e with e;subst e
  refine ⟨?_,trivial⟩
  simp only [isAgg,Sem.run_bind,run_underlying hu,Result.andThen_ok]
  cases d<;>first | rfl | (exfalso;first | exact h1 _ rfl | exact h2 _ _ rfl)
 ·simp at e
theorem aRb {t:TypeId} {m:Option Nat} (e:aCi P t=some m) {b o:Nat} {us:List Value} (hc:∀ j u,us[j]?=some u->w.cell? ⟨b,o+j,none⟩=some u) :
  match m with
  | none=>∀ u,us[0]?=some u->(loadVar t ⟨b,o,none⟩).run P w=.ok u w
  | some k=>k<=us.length->(loadVar t ⟨b,o,none⟩).run P w=.ok (.agg (us.take k).toArray) w:=by
 have ha:=aBW (w:=w) e
 cases m with
 | none =>
  intro u hu
  have:=hc 0 u hu
  simp only [Nat.add_zero] at this
  simp [loadVar,ha.1,this]
 | some k =>
  intro hk
  have hl:=run_loadCells_list (P:=P) (w:=w) ⟨b,o,none⟩ (us.take k) (fun j v hv=>by
   have:(⟨b,o,none⟩:Addr).add j=⟨b,o+j,none⟩:=by unfold Addr.add;split<;>simp_all
   rw [this]
   refine hc j v ?_
   rw [List.getElem?_take] at hv
   split at hv
   ·exact hv
   ·simp at hv)
  have hlen:(us.take k).length=k:=by simp;omega
  rw [hlen] at hl
  simp [loadVar,ha.1,ha.2,hl]
end
end
section
section
variable {P:Program} {G:Nat->Option (List AV)} {h:GH} {φ:Nat->Value} {T:Tab} {w:World} {s:List (Nat×AV)} {a:Act}
theorem aNR {op:BinOp} {t:TypeId} {x y:Operand} {a b u:Value} (e:aU op a b=some u) :
    (do eqGuard op t x y a b;binOp op t a b:Sem Value).run P w=.ok u w:=by
  unfold aU at e
  split at e
  · rename_i k p k' q
    cases op
    case shl =>
      simp only at e
      split at e
      · simp at e
      · rename_i hq
        injection e with e;subst e
        have:(binOp BinOp.shl t (Value.int k p) (Value.int k' q))=Op.shift BinOp.shl k p k' q:=rfl
        simp [eqGuard,this,Op.shift,hq]
    case shr =>
      simp only at e
      split at e
      · simp at e
      · rename_i hq
        injection e with e;subst e
        have:(binOp BinOp.shr t (Value.int k p) (Value.int k' q))=Op.shift BinOp.shr k p k' q:=rfl
        simp [eqGuard,this,Op.shift,hq]
    all_goals
      simp only at e
      split at e
      · rename_i hk
        subst hk
        first
          | (injection e with e;subst e;simp [eqGuard,binOp,Op.intArith,Op.intDiv,Op.intBits,Op.intCmp];done)
          | (split at e
             · simp at e
             · rename_i hq
               injection e with e;subst e;simp [eqGuard,binOp,Op.intDiv,hq])
          | (simp at e;done)
      · simp at e
  · rename_i p q
    cases op<;>simp only at e<;>(try split at e)<;>(try (simp at e;done))<;>(injection e with e;subst e)<;>(try (simp [eqGuard,binOp,Op.stringOp];done))
    rename_i hle
    unfold maxLen at hle
    simp [eqGuard,binOp,Op.stringOp]
    omega
  · simp at e
theorem aIv {t:TypeId} (ht:P.underlying t=some .bool) {a b:Bool}:(Op.equal t (.bool a) (.bool b)).run P w=.ok (a==b) w:=by
 have key:∀ d,(Op.equalIn (d+1) t (.bool a) (.bool b)).run P w=.ok (a==b) w:=fun d=>by simp [Op.equalIn,run_underlying ht]
 exact key 9999
theorem aYO {op:BinOp} (hop:op=.eql\/op=.neq) {t:TypeId} (ht:P.underlying t=some .bool) {x y:Operand} {a b:Bool} :
  (do eqGuard op t x y (.bool a) (.bool b);binOp op t (.bool a) (.bool b):Sem Value).run P w=.ok (.bool (if op==.neq then !(a==b) else a==b)) w:=by
 rcases hop with rfl | rfl
 ·have e:binOp .eql t (.bool a) (.bool b)=(do pure (.bool (<-Op.equal t (.bool a) (.bool b)))):=rfl
  rw [e]
  simp [eqGuard,aIv ht]
 ·have e:binOp .neq t (.bool a) (.bool b)=(do pure (.bool (!(<-Op.equal t (.bool a) (.bool b))))):=rfl
  rw [e]
  simp [eqGuard,aIv ht]
theorem bAq {op:UnOp} {a u:Value} (e:pun op a=some u):(Op.unary op a).run P w=.ok u w:=by
 unfold pun at e
 split at e
 ·cases op<;>simp only at e<;>(try (simp at e;done))<;>(injection e with e;subst e;simp [Op.unary])
 ·rename_i k p
  cases op<;>simp only at e<;>(try (simp at e;done))<;>(injection e with e;subst e;simp [Op.unary,Op.intArith,Op.intBits])
 ·simp at e
end
end
section
section
variable {P:Program} {w:World}
theorem vA:∀ {ks:List LK} {xs ys:List Value} {b:Bool},eqV ks xs ys=some b->xs.length=ks.length/\ys.length=ks.length
 | [],xs,ys,b,e=>by cases xs<;>cases ys<;>simp_all [eqV]
 | k::ks,xs,ys,b,e=>by
  cases xs with
  | nil=>cases k<;>simp [eqV] at e
  | cons x xs =>
   cases ys with
   | nil=>cases k<;>cases x<;>simp [eqV] at e
   | cons y ys =>
    cases k<;>cases x<;>cases y<;>simp only [eqV] at e<;>(try (simp at e;done))
    case int.int.int k k1 p k2 q =>
     split at e
     ·split at e
      ·rename_i r hr
       have:=vA hr
       simp [this.1,this.2]
      ·simp at e
     ·simp at e
    all_goals
     split at e
     ·rename_i r hr
      have:=vA hr
      simp [this.1,this.2]
     ·simp at e
theorem aDW:∀ {ks ls:List LK} {xs ys:List Value} {b:Bool},eqV (ks++ls) xs ys=some b ->
  ∃ b1 b2,eqV ks (xs.take ks.length) (ys.take ks.length)=some b1/\eqV ls (xs.drop ks.length) (ys.drop ks.length)=some b2/\b=(b1&&b2)
 | [],ls,xs,ys,b,e=>⟨true,b,by simp [eqV],by simpa using e,by simp⟩
 | k::ks,ls,xs,ys,b,e=>by
  cases xs with
  | nil=>cases k<;>simp [eqV] at e
  | cons x xs =>
   cases ys with
   | nil=>cases k<;>cases x<;>simp [eqV] at e
   | cons y ys =>
    simp only [List.cons_append] at e
    cases k<;>cases x<;>cases y<;>simp only [eqV] at e<;>(try (simp at e;done))
    case int.int.int k k1 a k2 c =>
     split at e
     ·rename_i hk
      split at e
      ·rename_i r hr
       injection e with e
       obtain ⟨b1,b2,h1,h2,h3⟩:=aDW hr
       exact ⟨a==c&&b1,b2,by simp [eqV,hk,h1],by simpa using h2,by rw [<-e,h3];simp [Bool.and_assoc]⟩
      ·simp at e
     ·simp at e
    case bool.bool.bool a c =>
     split at e
     ·rename_i r hr
      injection e with e
      obtain ⟨b1,b2,h1,h2,h3⟩:=aDW hr
      exact ⟨a==c&&b1,b2,by simp [eqV,h1],by simpa using h2,by rw [<-e,h3];simp [Bool.and_assoc]⟩
     ·simp at e
    case str.string.string a c =>
     split at e
     ·rename_i r hr
      injection e with e
      obtain ⟨b1,b2,h1,h2,h3⟩:=aDW hr
      exact ⟨a.toList==c.toList&&b1,b2,by simp [eqV,h1],by simpa using h2,by rw [<-e,h3];simp [Bool.and_assoc]⟩
     ·simp at e
abbrev aIw (ag:Bool) (xs:List Value):Value:=fD ag xs
theorem aAT {t:TypeId} {X:Array Value} {off:Nat} {ag:Bool} {n:Nat} (ha:aCi P t=some (bA3 ag n)) (hn:ag=false->n=1) (hl:off+n<=X.size) :
  (part t X off).run P w=.ok (aIw ag ((X.toList.drop off).take n)) w:=by
 cases ag with
 | false =>
  have:=hn rfl
  subst this
  have h0:aCi P t=some none:=ha
  have h:=aBW (w:=w) h0
  have hx:X[off]?=some X[off]:=Array.getElem?_eq_getElem (by omega)
  simp only [part,Sem.run_bind,h.1,Result.andThen_ok,Bool.false_eq_true,if_false,hx,fD]
  simp [List.getElem?_drop,hx]
 | true =>
  have h0:aCi P t=some (some n):=ha
  have h:=aBW (w:=w) h0
  simp only [part,Sem.run_bind,h.1,h.2,Result.andThen_ok,if_true,fD,Sem.run_pure]
  congr 2
  apply Array.toList_inj.1
  simp [Array.toList_extract,List.extract]
theorem aMs {n:Nat} (ih:∀ t ag ks,dS P n t=some (ag,ks)->(ag=false->ks.length=1)/\∀ d,n<=d->∀ xs ys b,eqV ks xs ys=some b->(Op.equalIn d t (aIw ag xs) (aIw ag ys)).run P w=.ok b w)
  {d:Nat} (hd:n<=d) (X Y:Array Value):∀ (fs:List Field) (off:Nat) (ks:List LK) (b:Bool),aD0 P (dS P n) fs off=some ks ->
   eqV ks (X.toList.drop off) (Y.toList.drop off)=some b->off<=X.size->off<=Y.size->(Op.eqFields d X Y fs).run P w=.ok b w
 | [],off,ks,b,hk,he,_,_=>by
  simp only [aD0] at hk
  injection hk with hk
  subst hk
  cases hx:X.toList.drop off<;>cases hy:Y.toList.drop off<;>rw [hx,hy] at he<;>simp [eqV] at he
  subst he
  simp [Op.eqFields]
 | f::fs,off,ks,b,hk,he,hX,hY=>by
  simp only [aD0] at hk
  split at hk
  ·rename_i ag ks1 hg
   split at hk
   ·rename_i hc
    obtain ⟨hname,hoff,hag⟩:=hc
    split at hk
    ·rename_i l hl
     injection hk with hk
     subst hk
     obtain ⟨b1,b2,h1,h2,h3⟩:=aDW he
     have hlen:=vA he
     simp only [List.length_drop,List.length_append,Array.length_toList] at hlen
     obtain ⟨hone,hi⟩:=ih _ _ _ hg
     have hpx:(part f.type X f.offset).run P w=.ok (aIw ag ((X.toList.drop off).take ks1.length)) w:=by
      rw [hoff];exact aAT hag hone (by omega)
     have hpy:(part f.type Y f.offset).run P w=.ok (aIw ag ((Y.toList.drop off).take ks1.length)) w:=by
      rw [hoff];exact aAT hag hone (by omega)
     have hr:=hi d hd _ _ _ h1
     simp only [Op.eqFields,hname,ne_eq,not_false_eq_true,if_true,Sem.run_bind,hpx,hpy,Result.andThen_ok,hr]
     rw [List.drop_drop,List.drop_drop] at h2
     have hrec:=aMs ih hd X Y fs (off+ks1.length) l b2 hl h2 (by omega) (by omega)
     cases b1
     ·simp [h3]
     ·simp [hrec,h3]
    ·simp at hk
   ·simp at hk
  ·simp at hk
theorem aBX:∀ (n:Nat) (t:TypeId) (ag:Bool) (ks:List LK),dS P n t=some (ag,ks) ->
  (ag=false->ks.length=1)/\∀ d,n<=d->∀ xs ys b,eqV ks xs ys=some b->(Op.equalIn d t (aIw ag xs) (aIw ag ys)).run P w=.ok b w
 | 0,_,_,_,e=>by simp [dS] at e
 | n+1,t,ag,ks,e=>by
  have leaf:∀ (k:LK) (xs ys:List Value) (b:Bool),eqV [k] xs ys=some b->∃ x y,xs=[x]/\ys=[y]:=by
   intro k xs ys b hb
   have:=vA hb
   match xs,ys,this with
   | [x],[y],_=>exact ⟨x,y,rfl,rfl⟩
  simp only [dS] at e
  split at e
  ·rename_i k hu
   injection e with e;injection e with e1 e2;subst e1;subst e2
   refine ⟨fun _=>rfl,fun d hd xs ys b hb=>?_⟩
   obtain ⟨d,rfl⟩:∃ d',d=d'+1:=⟨d-1,by omega⟩
   obtain ⟨x,y,rfl,rfl⟩:=leaf _ _ _ _ hb
   cases x<;>cases y<;>simp only [eqV] at hb<;>(try (simp at hb;done))
   split at hb
   ·rename_i hk
    obtain ⟨rfl,rfl⟩:=hk
    injection hb with hb
    subst hb
    simp only [fD,eqV,Bool.and_true,Bool.false_eq_true,if_false,List.getD_cons_zero]
    exact run_equalIn_int w d t _ _ _ _ hu
   ·simp at hb
  ·rename_i hu
   injection e with e;injection e with e1 e2;subst e1;subst e2
   refine ⟨fun _=>rfl,fun d hd xs ys b hb=>?_⟩
   obtain ⟨d,rfl⟩:∃ d',d=d'+1:=⟨d-1,by omega⟩
   obtain ⟨x,y,rfl,rfl⟩:=leaf _ _ _ _ hb
   cases x<;>cases y<;>simp only [eqV] at hb<;>(try (simp at hb;done))
   injection hb with hb
   subst hb
   simp [fD,run_equalIn_bool' w d t _ _ hu]
  ·rename_i hu
   injection e with e;injection e with e1 e2;subst e1;subst e2
   refine ⟨fun _=>rfl,fun d hd xs ys b hb=>?_⟩
   obtain ⟨d,rfl⟩:∃ d',d=d'+1:=⟨d-1,by omega⟩
   obtain ⟨x,y,rfl,rfl⟩:=leaf _ _ _ _ hb
   cases x<;>cases y<;>simp only [eqV] at hb<;>(try (simp at hb;done))
   injection hb with hb
   subst hb
   simp [fD,run_equalIn_string w d t _ _ hu]
  ·rename_i fs hu
   split at e
   ·simp at e
   ·rename_i hs
    split at e
    ·rename_i l hl
     injection e with e;injection e with e1 e2;subst e1;subst e2
     refine ⟨fun h=>by simp at h,fun d hd xs ys b hb=>?_⟩
     obtain ⟨d,rfl⟩:∃ d',d=d'+1:=⟨d-1,by omega⟩
     have hf:P.fieldsOf t=fs:=by simp [Program.fieldsOf,hu]
     have:=run_equalIn_struct (P:=P) w d t xs.toArray ys.toArray (by rw [hf];exact hu) (by simpa using hs)
     simp only [fD,if_true]
     rw [this,hf]
     exact aMs (aBX n) (by omega) xs.toArray ys.toArray fs.toList 0 l b hl (by simpa using hb) (by simp) (by simp)
    ·simp at e
  ·simp at e
end
end
section
theorem bC.sub {h:GH} {cs:List AV} {us:List Value} (a:bC h cs us) (m k:Nat):bC h ((cs.drop m).take k) ((us.drop m).take k) :=
 bC.mk (by simp [a.length]) fun i c u hc hu=>by
  rw [List.getElem?_take] at hc hu
  split at hc
  ·rw [if_pos (by assumption)] at hu
   rw [List.getElem?_drop] at hc hu
   obtain ⟨u',h1,h2⟩:=a.get hc
   rw [h1] at hu
   injection hu with hu
   subst hu
   exact h2
  ·simp at hc
theorem iU.vals {h:GH} {b:Nat}:∀ {cs:List AV} {o:Nat},iU h b cs o->∃ us,bC h cs us/\∀ j u,us[j]?=some u->mH h b (o+j)=some u
 | [],o,_=>⟨[],by simp [bC],fun j u hj=>by simp at hj⟩
 | c::cs,o,e=>by
  simp only [iU] at e
  obtain ⟨⟨u,_,h1,h2⟩,h3⟩:=e
  obtain ⟨us,h4,h5⟩:=h3.vals
  refine ⟨u::us,by simp only [bC];exact ⟨u,us,rfl,h2,h4⟩,fun j x hj=>?_⟩
  cases j with
  | zero=>simp only [List.getElem?_cons_zero,Option.some.injEq] at hj;subst hj;exact h1
  | succ j=>simp only [List.getElem?_cons_succ] at hj;rw [<-h5 j x hj];congr 1;omega
theorem aIx {α:Type} {k:Nat}:∀ {es:List (List α)},(∀ e∈es,e.length=k)->∀ {j:Nat} {e:List α},es[j]?=some e->(es.flatten.drop (j*k)).take k=e
 | [],_,j,e,hj=>by simp at hj
 | d::es,hl,j,e,hj=>by
  have hd:=hl d (by simp)
  cases j with
  | zero=>simp only [List.getElem?_cons_zero,Option.some.injEq] at hj;subst hj;simp [<-hd]
  | succ j =>
   simp only [List.getElem?_cons_succ] at hj
   have:(j+1)*k=d.length+j*k:=by rw [Nat.succ_mul,hd];omega
   rw [List.flatten_cons,this,List.drop_append,List.drop_of_length_le (by omega)]
   simp only [List.nil_append]
   rw [show d.length+j*k-d.length=j*k from by omega]
   exact aIx (fun e he=>hl e (by simp [he])) hj
theorem tH {α:Type} {k:Nat}:∀ {es:List (List α)},(∀ e∈es,e.length=k)->es.flatten.length=es.length*k
 | [],_=>by simp
 | d::es,hl=>by
  rw [List.flatten_cons,List.length_append,tH (fun e he=>hl e (by simp [he])),hl d (by simp),List.length_cons,Nat.succ_mul];omega
section
variable {P:Program} {G:Nat->Option (List AV)} {h:GH} {φ:Nat->Value} {T:Tab} {w:World} {s:List (Nat×AV)} {a:Act}
theorem aW2 {t:TypeId} {m:Option Nat} (ht:aCi P t=some m) {us:List Value} {cs:List AV} {n:Nat} {b o off:Nat} (hr:RpL h φ n cs us) (hc:∀ j u,us[j]?=some u->w.cell? ⟨b,o+j,none⟩=some u)
  {x:AV} (hx:aIp cs off m=some x):∃ v,(loadVar t ⟨b,o+off,none⟩).run P w=.ok v w/\Rp h φ n x v:=by
 have hk:=aSU hr hx
 have hl:=aRb (P:=P) (w:=w) ht (b:=b) (o:=o+off) (us:=us.drop off) (fun j u hj=>by
  rw [List.getElem?_drop] at hj;have:=hc _ _ hj;rw [Nat.add_assoc];exact this)
 cases m with
 | none =>
  obtain ⟨u,h1,h2⟩:=hk
  exact ⟨u,hl u (by rw [List.getElem?_drop];simpa using h1),h2⟩
 | some k =>
  obtain ⟨h1,h2⟩:=hk
  exact ⟨_,hl (by rw [List.length_drop];omega),h2⟩
theorem sZ {i k:Nat} {es:List (List AV)} (hI:Inv h φ w T) (hg:bK T i=some (.arr k es)) :
  (∀ e∈es,e.length=k/\∀ c∈e,aP c=true)/\((∃ A,φ i=.slice A 0 0/\es=[]) \/
   ∃ (g c:Nat) (cur:Array Value) (E:TypeId),φ i=.slice (some ⟨g,0,none⟩) es.length (c+1)/\w.heap[g]?=some (.cells cur E (0,0))/\es.length<=c+1/\c+1<=maxLen/\cur.size=(c+1)*k/\h g=none /\
    bC h es.flatten (cur.toList.take (es.length*k))):=hI.obj i _ (aN hg)
theorem aHU {b:Bool} {c:AV} (hc:okC b c=true):gM c=true:=by
 cases b with
 | false=>exact hc
 | true =>
  cases c<;>simp_all [okC,aP,gM]
  rename_i v
  cases v<;>simp_all [aP,gM]
def RpB (h:GH) (φ:Nat->Value) (n:Nat) (b:Bool) (cs:List AV) (us:List Value):Prop:=if b then bC h cs us else RpL h φ n cs us
theorem RpB.toL {φ:Nat->Value} {n:Nat} {b:Bool} {cs:List AV} {us:List Value} (a:RpB h φ n b cs us):RpL h φ n cs us:=by
 cases b with
 | true=>exact bC.to a
 | false=>exact a
theorem yU {o:Option AObj} {k:Nat} {es:List (List AV)} {b:Bool} (e:mI o=some (k,es,b)):o=some (eR b k es):=by
 cases o with
 | none=>simp [mI] at e
 | some o=>cases o<;>simp [mI] at e<;>(obtain ⟨rfl,rfl,rfl⟩:=e;rfl)
theorem iW {φ:Nat->Value} {n:Nat} {i:Nat} {b:Bool} {k:Nat} {es:List (List AV)}:sF h φ n w i (eR b k es)↔((∀ e∈es,e.length=k/\∀ c∈e,okC b c=true)/\((∃ A,φ i=.slice A 0 0/\es=[]) \/
   ∃ (g c:Nat) (cur:Array Value) (E:TypeId),φ i=.slice (some ⟨g,0,none⟩) es.length (c+1)/\w.heap[g]?=some (.cells cur E (0,0))/\es.length<=c+1/\c+1<=maxLen/\cur.size=(c+1)*k/\h g=none /\
    RpB h φ n b es.flatten (cur.toList.take (es.length*k)))):=by cases b<;>exact Iff.rfl
theorem lZ {i k:Nat} {es:List (List AV)} {b:Bool} (hI:Inv h φ w T) (hg:mI (bK T i)=some (k,es,b)) :
  (∀ e∈es,e.length=k/\∀ c∈e,okC b c=true)/\((∃ A,φ i=.slice A 0 0/\es=[]) \/
   ∃ (g c:Nat) (cur:Array Value) (E:TypeId),φ i=.slice (some ⟨g,0,none⟩) es.length (c+1)/\w.heap[g]?=some (.cells cur E (0,0))/\es.length<=c+1/\c+1<=maxLen/\cur.size=(c+1)*k/\h g=none /\
    RpB h φ T.length b es.flatten (cur.toList.take (es.length*k))):=iW.1 (hI.obj i _ (aN (yU hg)))
theorem RpL.sub {φ:Nat->Value} {n:Nat} {cs:List AV} {us:List Value} (a:RpL h φ n cs us) (m k:Nat):RpL h φ n ((cs.drop m).take k) ((us.drop m).take k):=(a.drop m).take k
theorem aMt {i k:Nat} {es:List (List AV)} {b:Bool} (hI:Inv h φ w T) (hg:mI (bK T i)=some (k,es,b)) {j:Nat} {e:List AV} (hj:es[j]?=some e) :
  ∃ (g c:Nat) (us:List Value),φ i=.slice (some ⟨g,0,none⟩) es.length (c+1)/\RpL h φ T.length e us/\∀ m u,us[m]?=some u->w.cell? ⟨g,j*k+m,none⟩=some u:=by
 obtain ⟨hl,h1 | ⟨g,c,cur,E,hφ,hw,h2,h3,h4,h5,h6⟩⟩:=lZ hI hg
 ·rw [h1.choose_spec.2] at hj;simp at hj
 ·have hsub:=h6.toL.sub (j*k) k
  rw [aIx (fun e he=>(hl e he).1) hj] at hsub
  refine ⟨g,c,_,hφ,hsub,fun m u hm=>?_⟩
  rw [yT hw]
  rw [List.getElem?_take] at hm
  split at hm
  ·rw [List.getElem?_drop,List.getElem?_take] at hm
   split at hm
   ·rw [<-hm];simp
   ·simp at hm
  ·simp at hm
theorem dT (b o m:Nat):(⟨b,o,none⟩:Addr).add m=⟨b,o+m,none⟩:=by unfold Addr.add;split<;>simp_all
theorem aIy {t:TypeId} {m:Option Nat} (ht:aCi P t=some m) (hG:GOk G h) (hI:Inv h φ w T) (hS:SOk h φ T.length s a) {p:Operand} {x:AV} {T':Tab}
  (he:hop T (evO G s) (.ld m p)=some (x,T')):T'=T/\∃ v,(Instr.loadAt t (a.eval p)).run P w=.ok v w/\Rp h φ T.length x v:=by
 have hp:=bP hG hS p
 simp only [hop] at he
 split at he
 ·rename_i i off hev
  rw [hev] at hp
  simp only [Rp] at hp
  obtain ⟨_,g,hφ,hu⟩:=hp
  split at he
  ·rename_i cs hg
   split at he
   ·rename_i y hy
    injection he with he;injection he with e1 e2;subst e1;subst e2
    obtain ⟨g',us,E,hφ',hw,_,hr⟩:=aMr hI hg
    rw [hφ] at hφ'
    injection hφ' with hφ';injection hφ' with hφ';injection hφ' with hφ'
    subst hφ'
    refine ⟨rfl,?_⟩
    rw [hu]
    simp only [Instr.loadAt,Instr.sureAddr]
    have:=aW2 (P:=P) (w:=w) (b:=g) (o:=0) ht hr (fun j u hj=>by rw [yT hw];simpa using hj) hy
    simpa using this
   ·simp at he
  ·simp at he
 ·rename_i cs hev
  rw [hev] at hp
  simp only [Rp] at hp
  obtain ⟨b,o,hu,hc⟩:=hp
  split at he
  ·rename_i y hy
   injection he with he;injection he with e1 e2;subst e1;subst e2
   obtain ⟨us,h1,h2⟩:=hc.vals
   refine ⟨rfl,?_⟩
   rw [hu]
   simp only [Instr.loadAt,Instr.sureAddr]
   have:=aW2 (P:=P) (w:=w) (φ:=φ) (n:=T.length) (b:=b) (o:=o) ht (bC.to h1) (fun j u hj=>aPc hI (h2 j u hj)) hy
   simpa using this
  ·simp at he
 ·rename_i i k j off hev
  rw [hev] at hp
  simp only [Rp] at hp
  obtain ⟨_,g,l,c,hφ,hu⟩:=hp
  split at he
  ·rename_i k' es b hg
   split at he
   ·rename_i hk
    subst hk
    split at he
    ·rename_i e hj
     split at he
     ·rename_i y hy
      injection he with he;injection he with e1 e2;subst e1;subst e2
      obtain ⟨g',c',us,hφ',h1,h2⟩:=aMt hI hg hj
      rw [hφ] at hφ'
      injection hφ' with hφ' _ _;injection hφ' with hφ';injection hφ' with hφ'
      subst hφ'
      refine ⟨rfl,?_⟩
      rw [hu]
      simp only [Instr.loadAt,Instr.sureAddr]
      exact aW2 (P:=P) (w:=w) (φ:=φ) (n:=T.length) (b:=g) (o:=j*k) ht h1 h2 hy
     ·simp at he
    ·simp at he
   ·simp at he
  ·simp at he
 ·simp at he
end
end
section
section
variable {P:Program} {G:Nat->Option (List AV)} {h:GH} {φ:Nat->Value} {T:Tab} {w:World} {s:List (Nat×AV)} {a:Act}
theorem lJ {t:TypeId} {n:Nat} (e:kL P t=some n):(Go.sizeOf t).run P w=.ok n w:=by
 unfold kL at e
 cases hi:P.info? t with
 | none=>simp [hi] at e
 | some i=>simp [hi] at e;subst e;simp [Go.sizeOf,typeInfo,hi]
theorem aUe {t:TypeId} {fs:Array Field} (ht:P.underlying t=some (.struct fs)) {f:Nat} {fd:Field} (hf:fs[f]?=some fd) {n:Nat} (hn:kL P fd.type=some n) (h0:n≠0)
  (hG:GOk G h) (hS:SOk h φ T.length s a) {p:Operand} {x:AV} {T':Tab} (he:hop T (evO G s) (.fad p fd.offset)=some (x,T')) :
  T'=T/\∃ v,(Instr.fieldAt t (a.eval p) f).run P w=.ok v w/\Rp h φ T.length x v:=by
 have hp:=bP hG hS p
 have run:∀ b o,(Instr.fieldAt t (.pointer (some ⟨b,o,none⟩)) f).run P w=.ok (.pointer (some ⟨b,o+fd.offset,none⟩)) w:=by
  intro b o
  simp [Instr.fieldAt,run_underlying ht,hf,Instr.sureAddr,fieldPlace,lJ hn,h0,dT]
 simp only [hop] at he
 split at he
 ·rename_i i off hev
  rw [hev] at hp;simp only [Rp] at hp
  obtain ⟨hi,g,hφ,hu⟩:=hp
  injection he with he;injection he with e1 e2;subst e1;subst e2
  rw [hu]
  exact ⟨rfl,_,run g off,by simp only [Rp];exact ⟨hi,g,hφ,rfl⟩⟩
 ·rename_i i k j off hev
  rw [hev] at hp;simp only [Rp] at hp
  obtain ⟨hi,g,l,c,hφ,hu⟩:=hp
  injection he with he;injection he with e1 e2;subst e1;subst e2
  rw [hu]
  exact ⟨rfl,_,run g _,by simp only [Rp];exact ⟨hi,g,l,c,hφ,by rw [Nat.add_assoc]⟩⟩
 ·rename_i cs hev
  rw [hev] at hp;simp only [Rp] at hp
  obtain ⟨b,o,hu,hc⟩:=hp
  injection he with he;injection he with e1 e2;subst e1;subst e2
  rw [hu]
  exact ⟨rfl,_,run b o,by simp only [Rp];exact ⟨b,_,rfl,hc.drop _⟩⟩
 ·simp at he
theorem aIz {t:TypeId} {m:Option Nat} (ht:aCi P t=some m) {us:Array Value} {cs:List AV} {n:Nat} (hr:RpL h φ n cs us.toList) {off:Nat} {x:AV} (hx:aIp cs off m=some x) :
  ∃ v,(part t us off).run P w=.ok v w/\Rp h φ n x v:=by
 have hk:=aSU hr hx
 have ha:=aBW (w:=w) ht
 cases m with
 | none =>
  obtain ⟨u,h1,h2⟩:=hk
  refine ⟨u,?_,h2⟩
  have:us[off]?=some u:=by simpa using h1
  simp [part,ha.1,this]
 | some k =>
  obtain ⟨h1,h2⟩:=hk
  refine ⟨_,?_,h2⟩
  simp only [part,Sem.run_bind,ha.1,ha.2,Result.andThen_ok,if_true,Sem.run_pure]
  congr 2
  apply Array.toList_inj.1
  simp [Array.toList_extract,List.extract]
theorem aUf {t:TypeId} {fs:Array Field} (ht:P.underlying t=some (.struct fs)) {f:Nat} {fd:Field} (hf:fs[f]?=some fd) {m:Option Nat} (hm:aCi P fd.type=some m)
  (hG:GOk G h) (hS:SOk h φ T.length s a) {p:Operand} {x:AV} {T':Tab} (he:hop T (evO G s) (.fld p fd.offset m)=some (x,T')) :
  T'=T/\∃ v,(Instr.field t (a.eval p) f).run P w=.ok v w/\Rp h φ T.length x v:=by
 have hp:=bP hG hS p
 simp only [hop] at he
 split at he
 ·rename_i cs hev
  rw [hev] at hp;simp only [Rp] at hp
  obtain ⟨us,hu,hr⟩:=hp
  split at he
  ·rename_i y hy
   injection he with he;injection he with e1 e2;subst e1;subst e2
   obtain ⟨v,h1,h2⟩:=aIz (P:=P) (w:=w) hm hr hy
   rw [hu]
   exact ⟨rfl,v,by simp [Instr.field,run_underlying ht,hf,asAgg,h1],h2⟩
  ·simp at he
 ·rename_i us hev
  rw [hev] at hp;simp only [Rp] at hp
  split at he
  ·rename_i y hy
   injection he with he;injection he with e1 e2;subst e1;subst e2
   have hr:RpL h φ T.length (us.toList.map .v) us.toList:=RpL.mk (by simp) fun i c u hc hu=>by
    rw [List.getElem?_map,hu] at hc
    simp at hc
    subst hc
    simp [Rp]
   obtain ⟨v,h1,h2⟩:=aIz (P:=P) (w:=w) hm hr hy
   rw [hp]
   exact ⟨rfl,v,by simp [Instr.field,run_underlying ht,hf,asAgg,h1],h2⟩
  ·simp at he
 ·simp at he
theorem aUg {t e:TypeId} (ht:P.underlying t=some (.slice e)) {k:Nat} (hk:kL P e=some k)
  (hG:GOk G h) (hI:Inv h φ w T) (hS:SOk h φ T.length s a) {p q:Operand} {x:AV} {T':Tab} (he:hop T (evO G s) (.iad p q k)=some (x,T')) :
  T'=T/\∃ v,(Instr.indexAt t (a.eval p) (a.eval q)).run P w=.ok v w/\Rp h φ T.length x v:=by
 have hp:=bP hG hS p
 have run:∀ b o len cap kd (i:Int),0<=i->i.toNat<len->(Instr.indexAt t (.slice (some ⟨b,o,none⟩) len cap) (.int kd i)).run P w=.ok (.pointer (some ⟨b,o+i.toNat*k,none⟩)) w:=by
  intro b o len cap kd i h0 hl
  have:0<=i/\i<len:=⟨h0,by omega⟩
  simp [Instr.indexAt,run_underlying ht,asIntOf,this,lJ hk,dT]
 simp only [hop] at he
 split at he
 ·rename_i k' es kd i hev hix
  rw [hev] at hp;simp only [Rp,RpD] at hp
  obtain ⟨A,c,hu,h1,h2,h3⟩:=hp
  split at he
  ·rename_i hc
   obtain ⟨rfl,h0⟩:=hc
   split at he
   ·rename_i el hj
    injection he with he;injection he with e1 e2;subst e1;subst e2
    have hlt:i.toNat<es.length:=by
     rcases Nat.lt_or_ge i.toNat es.length with hh | hh
     ·exact hh
     ·simp [List.getElem?_eq_none hh] at hj
    rcases h3 with rfl | ⟨b,o,rfl,hE⟩
    ·simp at hj
    ·rw [hu,iV hG hS hix]
     refine ⟨rfl,_,run b o _ _ _ i h0 hlt,?_⟩
     simp only [Rp]
     exact ⟨b,_,rfl,(hE.get hj).2⟩
   ·simp at he
  ·simp at he
 ·rename_i i0 kd i hev hix
  rw [hev] at hp;simp only [Rp] at hp
  split at he
  ·rename_i k' es b hg
   split at he
   ·rename_i hc
    obtain ⟨rfl,h0,hlt⟩:=hc
    injection he with he;injection he with e1 e2;subst e1;subst e2
    have hj:es[i.toNat]?=some es[i.toNat]:=List.getElem?_eq_getElem hlt
    obtain ⟨g,c,us,hφ,_,_⟩:=aMt hI hg hj
    rw [hp.2.1,hφ,iV hG hS hix]
    refine ⟨rfl,_,run g 0 _ _ _ i h0 hlt,?_⟩
    simp only [Rp]
    exact ⟨hp.1,g,_,c+1,hφ,by simp⟩
   ·simp at he
  ·simp at he
 ·rename_i i0 k' lo m kd i hev hix
  rw [hev] at hp;simp only [Rp] at hp
  split at he
  ·rename_i hc
   obtain ⟨rfl,h0,hlt⟩:=hc
   injection he with he;injection he with e1 e2;subst e1;subst e2
   obtain ⟨hi0,A,c,hu,_,_,h3⟩:=hp
   rcases h3 with rfl | ⟨g,l,c',hφ,rfl,hle⟩
   ·omega
   ·rw [hu,iV hG hS hix]
    refine ⟨rfl,_,run g _ _ _ _ i h0 hlt,?_⟩
    simp only [Rp]
    exact ⟨hi0,g,l,c',hφ,by rw [Nat.add_mul,Nat.add_zero]⟩
  ·simp at he
 ·simp at he
theorem aRc {t e:TypeId} {len:Nat} (ht:P.underlying t=some (.array len e)) {k:Nat} (hk:kL P e=some k)
  (hG:GOk G h) (hS:SOk h φ T.length s a) {p q:Operand} {x:AV} {T':Tab} (he:hop T (evO G s) (.iadA p q len k)=some (x,T')) :
  T'=T/\∃ v,(Instr.indexAt t (a.eval p) (a.eval q)).run P w=.ok v w/\Rp h φ T.length x v:=by
 have hp:=bP hG hS p
 have run:∀ b o kd (i:Int),0<=i/\i<len->(Instr.indexAt t (.pointer (some ⟨b,o,none⟩)) (.int kd i)).run P w=.ok (.pointer (some ⟨b,o+i.toNat*k,none⟩)) w:=by
  intro b o kd i hc
  simp [Instr.indexAt,run_underlying ht,asIntOf,Instr.sureAddr,hc,lJ hk,dT]
 simp only [hop] at he
 split at he
 ·rename_i j o kd i hev hix
  rw [hev] at hp;simp only [Rp] at hp
  obtain ⟨hi,g,hφ,hu⟩:=hp
  split at he
  ·rename_i hc
   injection he with he;injection he with e1 e2;subst e1;subst e2
   rw [hu,iV hG hS hix]
   exact ⟨rfl,_,run g o _ i hc,by simp only [Rp];exact ⟨hi,g,hφ,rfl⟩⟩
  ·simp at he
 ·rename_i cs kd i hev hix
  rw [hev] at hp;simp only [Rp] at hp
  obtain ⟨b,o,hu,hcs⟩:=hp
  split at he
  ·rename_i hc
   injection he with he;injection he with e1 e2;subst e1;subst e2
   rw [hu,iV hG hS hix]
   exact ⟨rfl,_,run b o _ i hc,by simp only [Rp];exact ⟨b,_,rfl,hcs.drop _⟩⟩
  ·simp at he
 ·simp at he
theorem aUh {t:TypeId} (ht:P.underlying t=some .string)
  (hG:GOk G h) (hS:SOk h φ T.length s a) {p q:Operand} {x:AV} {T':Tab} (he:hop T (evO G s) (.ixS p q)=some (x,T')) :
  T'=T/\∃ v,(Instr.index t (a.eval p) (a.eval q)).run P w=.ok v w/\Rp h φ T.length x v:=by
 simp only [hop] at he
 split at he
 ·rename_i sb kd i hev hix
  split at he
  ·rename_i h0
   split at he
   ·rename_i b hb
    injection he with he;injection he with e1 e2;subst e1;subst e2
    rw [iV hG hS hev,iV hG hS hix]
    refine ⟨rfl,.int .u8 b.toNat,?_,by simp [Rp]⟩
    have:sb[i.toNat]?=some b:=by
     have hlt:i.toNat<sb.data.size:=by
      rcases Nat.lt_or_ge i.toNat sb.data.size with hh | hh
      ·exact hh
      ·simp [Array.getElem?_eq_none hh] at hb
     rw [Array.getElem?_eq_getElem hlt] at hb
     rw [getElem?_pos sb i.toNat hlt]
     exact hb
    simp [Instr.index,run_underlying ht,asIntOf,h0,this]
   ·simp at he
  ·simp at he
 ·simp at he
theorem aRd {t ty:TypeId} (ht:P.underlying t=some .string)
  (hG:GOk G h) (hS:SOk h φ T.length s a) {p:Operand} {x:AV} {T':Tab} {ts:Array TypeId} (hts:ts[0]?=some t) (he:hop T (evO G s) (.lenS p)=some (x,T')) :
  T'=T/\∃ v,(Builtin.len_ ts ty #[a.eval p]).run P w=.ok v w/\Rp h φ T.length x v:=by
 simp only [hop] at he
 split at he
 ·rename_i sb hev
  injection he with he;injection he with e1 e2;subst e1;subst e2
  rw [iV hG hS hev]
  exact ⟨rfl,goInt sb.size,by simp [Builtin.len_,hts,run_underlying ht],by simp [Rp,goInt]⟩
 ·simp at he
theorem aRe {t e ty:TypeId} (ht:P.underlying t=some (.slice e))
  (hG:GOk G h) (hI:Inv h φ w T) (hS:SOk h φ T.length s a) {p:Operand} {x:AV} {T':Tab} {ts:Array TypeId} (hts:ts[0]?=some t) (he:hop T (evO G s) (.lenL p)=some (x,T')) :
  T'=T/\∃ v,(Builtin.len_ ts ty #[a.eval p]).run P w=.ok v w/\Rp h φ T.length x v:=by
 have hp:=bP hG hS p
 have run:∀ A l c,(Builtin.len_ ts ty #[.slice A l c]).run P w=.ok (goInt l) w:=by
  intro A l c
  simp [Builtin.len_,hts,run_underlying ht]
 simp only [hop] at he
 split at he
 ·rename_i k es hev
  rw [hev] at hp;simp only [Rp,RpD] at hp
  obtain ⟨A,c,hu,_⟩:=hp
  injection he with he;injection he with e1 e2;subst e1;subst e2
  rw [hu]
  exact ⟨rfl,_,run _ _ _,by simp [Rp,goInt]⟩
 ·rename_i i hev
  rw [hev] at hp;simp only [Rp] at hp
  split at he
  ·rename_i k es b hg
   injection he with he;injection he with e1 e2;subst e1;subst e2
   rw [hp.2.1]
   obtain ⟨_,⟨A,h1⟩ | ⟨g,c,cur,E,hφ,_⟩⟩:=lZ hI hg
   ·rw [h1.1,h1.2]
    exact ⟨rfl,_,run _ _ _,by simp [Rp,goInt]⟩
   ·rw [hφ]
    exact ⟨rfl,_,run _ _ _,by simp [Rp,goInt]⟩
  ·simp at he
 ·rename_i hev
  injection he with he;injection he with e1 e2;subst e1;subst e2
  rw [iV hG hS hev]
  exact ⟨rfl,_,run _ _ _,by simp [Rp,goInt]⟩
 ·rename_i i k lo m hev
  rw [hev] at hp;simp only [Rp] at hp
  obtain ⟨_,A,c,hu,_⟩:=hp
  injection he with he;injection he with e1 e2;subst e1;subst e2
  rw [hu]
  exact ⟨rfl,_,run _ _ _,by simp [Rp,goInt]⟩
 ·simp at he
end
end
end Hud
