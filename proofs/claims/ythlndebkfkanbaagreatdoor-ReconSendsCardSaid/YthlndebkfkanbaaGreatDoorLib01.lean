import Derived.Test.YthlndebkfkanbaaGreatDoorLib00
set_option linter.all false
namespace Hud
open Go
section
def mU (P:Program) (t:TypeId):Option Nat:=(P.info? t).map (·.size)
def Eg (P:Program) (t:TypeId):Option (Option Nat) :=
 match P.underlying t,P.info? t with
 | some (.struct _),some i=>some (some i.size)
 | some (.array _ _),some i=>some (some i.size)
 | some _,some _=>some none
 | _,_=>none
def aDx (ag:Bool) (n:Nat):Option Nat:=if ag then some n else none
def FS (P:Program) (g:TypeId→Option (Bool×List LK)):List Field→Nat→Option (List LK)
  | [],_=>some []
  | f::fs,off=>match g f.type with
    | some (ag,ks)=>if f.name ≠ "_" ∧ f.offset=off∧Eg P f.type=some (aDx ag ks.length) then
        match FS P g fs (off+ks.length) with
        | some l=>some (ks++l)
        | none=>none
      else none
    | none=>none
def fZ (P:Program):Nat→TypeId→Option (Bool×List LK)
 | 0,_=>none
 | n+1,t=>match P.underlying t with
  | some (.int k)=>some (false,[.int k])
  | some .bool=>some (false,[.bool])
  | some .string=>some (false,[.str])
  | some (.struct fs)=>if P.stoodInHeld t then none else match FS P (fZ P n) fs.toList 0 with
   | some ks=>some (true,ks)
   | none=>none
  | _=>none
def HX (P:Program) (fs:List Field):List (Nat×Operand)→Option (List (Nat×Nat×Operand))
 | []=>some []
 | (i,x)::r=>match fs[i]? with
  | none=>none
  | some f=>match mU P f.type,HX P fs r with
   | some n,some l=>some ((f.offset,n,x)::l)
   | _,_=>none
def HY (n:Nat):List (Nat×Operand)→List (Nat×Nat×Operand)
 | []=>[]
 | (i,x)::r=>(i*n,n,x)::HY n r
def GQ (z:List Value):Nat→List Value
 | 0=>[]
 | n+1=>z++GQ z n
def fH (P:Program) (o:Oper):Option HOp :=
 match o.op with
 | .move x=>some (.mov x)
 | .assign x=>some (.mov x)
 | .pick c a b=>some (.pick c a b)
 | .binOp op t x y _ =>
  if op=.eql∨op=.neq then
   match P.underlying t with
   | some (.int _)=>some (.bin op x y)
   | some .bool=>some (.eqb (op==.neq) x y)
   | some .string=>some (.bin op x y)
   | some (.struct _)=>match fZ P 20 t with
    | some (_,ks)=>if P.eqGuardType P.depth t then none else some (.eqa (op==.neq) ks x y)
    | none=>none
   | _=>none
  else some (.bin op x y)
 | .unOp op _ x=>some (.un op x)
 | .convert src dst x=>match P.underlying src,P.underlying dst with
  | some _,some (.int k)=>some (.conv k x)
  | _,_=>none
 | .box _ x=>some (.box x)
 | .alloc e=>match P.info? e with
  | some i=>match i.zero with
   | some z=>if z.cells.toList.all (λx=>jU (.v x)) then some (.alloc z.cells.toList) else none
   | none=>none
  | none=>none
 | .build t parts=>match P.underlying t,P.info? t with
  | some (.struct fs),some i=>match i.zero,HX P fs.toList parts.toList with
   | some z,some l=>if fs.toList.all (λf=>(mU P f.type).isSome) then some (.bld z.cells.toList l) else none
   | _,_=>none
  | _,_=>none
 | .buildSlice t len parts=>match P.underlying t with
  | some (.slice e)=>match P.info? e with
   | some i=>match i.zero with
    | some z=>if z.cells.size=i.size∧0<i.size∧len*i.size≤2^20∧0<len then some (.bsl i.size (GQ z.cells.toList len) (HY i.size parts.toList) len) else none
    | none=>none
   | none=>none
  | _=>none
 | .load t a=>match Eg P t with
  | some n=>some (.ld n a)
  | none=>none
 | .store t a x=>match mU P t with
  | some n=>some (.st n a x)
  | none=>none
 | .fieldAddr t x f=>match P.underlying t with
  | some (.struct fs)=>match fs[f]? with
   | some fd=>match mU P fd.type with
    | some n=>if n=0 then none else some (.fad x fd.offset)
    | none=>none
   | none=>none
  | _=>none
 | .field t x f=>match P.underlying t with
  | some (.struct fs)=>match fs[f]? with
   | some fd=>match Eg P fd.type with
    | some n=>some (.fld x fd.offset n)
    | none=>none
   | none=>none
  | _=>none
 | .indexAddr t x ix=>match P.underlying t with
  | some (.slice e)=>match mU P e with
   | some k=>if k=0 then none else some (.iad x ix k)
   | none=>none
  | some (.array len e)=>match mU P e with
   | some k=>some (.iadA x ix len k)
   | none=>none
  | _=>none
 | .index t x ix=>match P.underlying t with
  | some .string=>some (.ixS x ix)
  | _=>none
 | .extract x i=>some (.ext x i)
 | .nilCheck x=>some (.nilc x)
 | .makeFunc (.func f) first caps=>if first.size=0 then some (.clo f caps.toList) else none
 | .call c=>match c.callee with
  | .value f=>some (.call f c.args.toList)
  | .builtin .len=>match c.argTypes[0]?,c.args.toList with
   | some t,[x]=>match P.underlying t with
    | some .string=>some (.lenS x)
    | some (.slice _)=>some (.lenL x)
    | _=>none
   | _,_=>none
  | .builtin .append=>match c.argTypes.toList,c.args.toList with
   | [t,t'],[x,y]=>if t'≠t then none else match P.underlying t with
    | some (.slice e)=>match P.info? e with
     | some i=>match i.zero with
      | some z=>if z.cells.size=i.size∧0<i.size then some (.app x y i.size i.bytes) else none
      | none=>none
     | none=>none
    | _=>none
   | _,_=>none
  | _=>none
 | _=>none
end
section
def bD {T:aQ} {i:Nat} {o:AObj} (e:cR T i=some o):T[i]?=some (some o):=by
 unfold cR at e;split at e
 ·rename_i o' h;injection e with e;subst e;exact h
 ·simp at e
def VP {T:aQ} {i:Nat} {o:AObj} (e:cR T i=some o):i<T.length:=by
 have:=bD e;rcases bY i T.length with h | h
 ·exact h
 ·simp [gV h] at this
section
variable {P:Program} {G:Nat→Option (List AV)} {h:GH} {φ:Nat→Value} {n:Nat} {T:aQ} {w:World} {s:List (Nat×AV)} {a:Act}
def rP (h:GH) (φ:Nat→Value) (n:Nat) (s:List (Nat×AV)) (a:Act):Prop:=∀ i,Rp h φ n (aU s i) (a.tmps.getD i undef)
def dA (hG:rD G h) (hS:rP h φ n s a) (x:Operand):Rp h φ n (bX G s x) (a.eval x):=by
 cases x with
 | tmp t=>exact hS t
 | const v=>simp [bX,Act.eval,Rp]
 | global g =>
  simp only [bX,Act.eval];split
  ·rename_i cs hg;simp only [Rp];exact ⟨g,0,rfl,hG g cs hg⟩
  ·simp [Rp]
 | func f=>simp only [bX,Act.eval,Rp];exact ⟨#[],rfl,by simp [bW]⟩
def lB (hG:rD G h) (hS:rP h φ n s a) {x:Operand} {v:Value} (e:bX G s x=.v v):a.eval x=v:=by
 have:=dA hG hS x;rw [e] at this;simpa [Rp] using this
def Kc (hG:rD G h) (hS:rP h φ n s a) (l:List Operand):bW h φ n (l.map (bX G s)) (l.map a.eval):=by
 induction l with
 | nil=>simp [bW]
 | cons x l ih=>simp only [cN,bW];exact ⟨_,_,rfl,dA hG hS x,ih⟩
def An:∀ {x:AV} {u:Value},Rp h φ n x u→(∀ c∈dI x,jU c=true)→bW h φ n (dI x) u.cells.toList
 | .ag cs,u,e,_=>by
  simp only [Rp] at e;obtain ⟨us,rfl,h2⟩:=e;exact h2
 | .v x,u,e,ho=>by
  simp only [Rp] at e;subst e
  cases u with
  | agg us =>
   simp only [dI,Value.cells];exact bW.mk (by simp) λi c u hc hu=>by
    simp only [eD] at hc;rw [hu] at hc;simp at hc;subst hc;simp [Rp]
  | _=>simp [dI,Value.cells,bW,Rp]
 | .ls k es,u,e,_=>by
  have e':=e;simp only [Rp,mB] at e';obtain ⟨A,c,rfl,_⟩:=e';simp only [dI,Value.cells,bW];exact ⟨_,[],rfl,e,rfl⟩
 | .own i,u,e,_=>by
  have e':=e;simp only [Rp] at e';obtain ⟨_,_,A,l,c,rfl⟩:=e';simp only [dI,Value.cells,bW];exact ⟨_,[],rfl,e,rfl⟩
 | .ptr i o,u,e,_=>by
  have e':=e;simp only [Rp] at e';obtain ⟨_,g,_,rfl⟩:=e';simp only [dI,Value.cells,bW];exact ⟨_,[],rfl,e,rfl⟩
 | .elt i k j o,u,e,_=>by
  have e':=e;simp only [Rp] at e';obtain ⟨_,g,_,_,_,rfl⟩:=e';simp only [dI,Value.cells,bW];exact ⟨_,[],rfl,e,rfl⟩
 | .mp i,u,e,_=>by
  have e':=e;simp only [Rp] at e';obtain ⟨_,_,g,rfl⟩:=e';simp only [dI,Value.cells,bW];exact ⟨_,[],rfl,e,rfl⟩
 | .yl i,u,e,_=>by
  have e':=e;simp only [Rp] at e';obtain ⟨_,_,g,rfl⟩:=e';simp only [dI,Value.cells,bW];exact ⟨_,[],rfl,e,rfl⟩
 | .vw i k j o,u,e,_=>by
  have e':=e;simp only [Rp] at e';obtain ⟨_,A,c,rfl,_⟩:=e';simp only [dI,Value.cells,bW];exact ⟨_,[],rfl,e,rfl⟩
 | .rp cs,u,e,_=>by
  have e':=e;simp only [Rp] at e';obtain ⟨_,_,rfl,_⟩:=e';simp only [dI,Value.cells,bW];exact ⟨_,[],rfl,e,rfl⟩
 | .cl f cs,u,e,_=>by
  have e':=e;simp only [Rp] at e';obtain ⟨us,rfl,_⟩:=e';simp only [dI,Value.cells,bW];exact ⟨_,[],rfl,e,rfl⟩
 | .bm f kk cs,u,e,_=>by
  have e':=e;simp only [Rp] at e';obtain ⟨us,rfl,_⟩:=e';simp only [dI,Value.cells,bW];exact ⟨_,[],rfl,e,rfl⟩
 | .tup cs,u,e,ho=>by simp [dI,jU] at ho
 | .any,u,e,ho=>by simp [dI,jU] at ho
def Jf:∀ {x:AV} {u:Value},Rp h φ n x u→jU x=true→u.oneCell'=true
 | .v x,u,e,ho=>by
  simp only [Rp] at e;subst e;cases u<;>simp_all [jU,Value.oneCell']
 | .ls k es,u,e,_=>by simp only [Rp,mB] at e;obtain ⟨A,c,rfl,_⟩:=e;rfl
 | .own i,u,e,_=>by simp only [Rp] at e;obtain ⟨_,_,A,l,c,rfl⟩:=e;rfl
 | .ptr i o,u,e,_=>by simp only [Rp] at e;obtain ⟨_,g,_,rfl⟩:=e;rfl
 | .elt i k j o,u,e,_=>by simp only [Rp] at e;obtain ⟨_,g,_,_,_,rfl⟩:=e;rfl
 | .vw i k j o,u,e,_=>by simp only [Rp] at e;obtain ⟨_,A,c,rfl,_⟩:=e;rfl
 | .mp i,u,e,_=>by simp only [Rp] at e;obtain ⟨_,_,g,rfl⟩:=e;rfl
 | .yl i,u,e,_=>by simp only [Rp] at e;obtain ⟨_,_,g,rfl⟩:=e;rfl
 | .rp cs,u,e,_=>by simp only [Rp] at e;obtain ⟨_,_,rfl,_⟩:=e;rfl
 | .cl f cs,u,e,_=>by simp only [Rp] at e;obtain ⟨us,rfl,_⟩:=e;rfl
 | .bm f kk cs,u,e,_=>by simp only [Rp] at e;obtain ⟨us,rfl,_⟩:=e;rfl
 | .ag cs,u,e,ho=>by simp [jU] at ho
 | .tup cs,u,e,ho=>by simp [jU] at ho
 | .any,u,e,ho=>by simp [jU] at ho
def VQ {cs:List AV} {us:List Value} (hr:bW h φ n cs us) {off:Nat} {x:AV}:∀ {m:Option Nat},KY cs off m=some x →
  match m with
  | none=>∃ u,us[off]?=some u∧Rp h φ n x u
  | some k=>off+k≤us.length∧Rp h φ n x (.agg ((us.drop off).take k).toArray)
 | none,e=>by
  simp only [KY] at e;exact hr.get e
 | some k,e=>by
  simp only [KY] at e;split at e
  ·rename_i hle;injection e with e;subst e;have hl:=hr.length;exact ⟨by omega,by simp only [Rp];exact ⟨_,rfl,by simpa using (hr.drop off).take k⟩⟩
  ·simp at e
def Nj {i:Nat} {cs:List AV} (hI:Inv h φ w T) (hg:cR T i=some (.box cs)) :
  ∃ (g:Nat) (us:Array Value) (E:TypeId),φ i=.pointer (some ⟨g,0,none⟩)∧w.heap[g]?=some (.cells us E (0,0))∧h g=none∧bW h φ T.length cs us.toList :=
 hI.obj i _ (bD hg)
def BZ {g:Nat} {us:Array Value} {E:TypeId} {fr:Nat×Nat} (hw:w.heap[g]?=some (.cells us E fr)) (o:Nat):w.cell? ⟨g,o,none⟩=us[o]?:=by
 simp [World.cell?,hw]
def Qz {b o:Nat} {u:Value} (hI:Inv h φ w T) (e:nZ h b o=some u):w.cell? ⟨b,o,none⟩=some u:=by
 unfold nZ at e
 cases hb:h b with
 | none=>simp [hb] at e
 | some cs =>
  obtain ⟨E,fr,hw⟩:=hI.gh b cs hb;rw [BZ hw];simpa [hb] using e
def D5 {t:TypeId} {m:Option Nat} (e:Eg P t=some m) :
  match m with
  | none=>(isAgg t).run P w=.ok false w∧True
  | some k=>(isAgg t).run P w=.ok true w∧(Go.sizeOf t).run P w=.ok k w:=by
 unfold Eg at e;split at e
 ·rename_i fs i hu hi;injection e with e;subst e;simp [isAgg,run_underlying hu,Go.sizeOf,typeInfo,hi]
 ·rename_i l el i hu hi;injection e with e;subst e;simp [isAgg,run_underlying hu,Go.sizeOf,typeInfo,hi]
 ·rename_i d i h1 h2 hu hi;injection e with e;subst e;refine ⟨?_,trivial⟩;simp only [isAgg,Sem.run_bind,run_underlying hu,Result.andThen_ok];cases d<;>first | rfl | (exfalso;first | exact h1 _ rfl | exact h2 _ _ rfl)
 ·simp at e
def Sz {t:TypeId} {m:Option Nat} (e:Eg P t=some m) {b o:Nat} {us:List Value} (hc:∀ j u,us[j]?=some u→w.cell? ⟨b,o+j,none⟩=some u) :
  match m with
  | none=>∀ u,us[0]?=some u→(loadVar t ⟨b,o,none⟩).run P w=.ok u w
  | some k=>k≤us.length→(loadVar t ⟨b,o,none⟩).run P w=.ok (.agg (us.take k).toArray) w:=by
 have ha:=D5 (w:=w) e
 cases m with
 | none =>
  intro u hu;have:=hc 0 u hu;simp only [yN] at this;simp [loadVar,ha.1,this]
 | some k =>
  intro hk
  have hl:=run_loadCells_list (P:=P) (w:=w) ⟨b,o,none⟩ (us.take k) (λj v hv=>by
   have:(⟨b,o,none⟩:Addr).add j=⟨b,o+j,none⟩:=by unfold Addr.add;split<;>simp_all
   rw [this];refine hc j v ?_;rw [AI] at hv;split at hv
   ·exact hv
   ·simp at hv)
  have hlen:(us.take k).length=k:=by simp;omega
  rw [hlen] at hl;simp [loadVar,ha.1,ha.2,hl]
end
end
section
section
variable {P:Program} {G:Nat→Option (List AV)} {h:GH} {φ:Nat→Value} {T:aQ} {w:World} {s:List (Nat×AV)} {a:Act}
def Ol {op:BinOp} {t:TypeId} {x y:Operand} {a b u:Value} (e:aZ op a b=some u) :
    (do eqGuard op t x y a b;binOp op t a b:Sem Value).run P w=.ok u w:=by
  unfold aZ at e;split at e
  · rename_i k p k' q
    cases op
    case shl =>
      simp only at e
      split at e
      · simp at e
      · rename_i hq
        injection e with e;subst e
        have:(binOp BinOp.shl t (Value.int k p) (Value.int k' q))=Op.shift BinOp.shl k p k' q:=rfl
        simp [eqGuard,this,Op.shift,hq]
    case shr =>
      simp only at e
      split at e
      · simp at e
      · rename_i hq
        injection e with e;subst e
        have:(binOp BinOp.shr t (Value.int k p) (Value.int k' q))=Op.shift BinOp.shr k p k' q:=rfl
        simp [eqGuard,this,Op.shift,hq]
    all_goals
      simp only at e
      split at e
      · rename_i hk
        subst hk
        first
          | (injection e with e;subst e;simp [eqGuard,binOp,Op.intArith,Op.intDiv,Op.intBits,Op.intCmp];done)
          | (split at e
             · simp at e
             · rename_i hq
               injection e with e;subst e;simp [eqGuard,binOp,Op.intDiv,hq])
          | (simp at e;done)
      · simp at e
  · rename_i p q
    cases op<;>simp only at e<;>(try split at e)<;>(try (simp at e;done))<;>(injection e with e;subst e)<;>(try (simp [eqGuard,binOp,Op.stringOp];done))
    rename_i hle
    unfold maxLen at hle
    simp [eqGuard,binOp,Op.stringOp]
    omega
  · simp at e
def Kd {t:TypeId} (ht:P.underlying t=some .bool) {a b:Bool}:(Op.equal t (.bool a) (.bool b)).run P w=.ok (a==b) w:=by
 have key:∀ d,(Op.equalIn (d+1) t (.bool a) (.bool b)).run P w=.ok (a==b) w:=λd=>by simp [Op.equalIn,run_underlying ht]
 exact key 9999
def aBV {op:BinOp} (bK:op=.eql∨op=.neq) {t:TypeId} (ht:P.underlying t=some .bool) {x y:Operand} {a b:Bool} :
  (do eqGuard op t x y (.bool a) (.bool b);binOp op t (.bool a) (.bool b):Sem Value).run P w=.ok (.bool (if op==.neq then !(a==b) else a==b)) w:=by
 rcases bK with rfl | rfl
 ·have e:binOp .eql t (.bool a) (.bool b)=(do pure (.bool (←Op.equal t (.bool a) (.bool b)))):=rfl;rw [e];simp [eqGuard,Kd ht]
 ·have e:binOp .neq t (.bool a) (.bool b)=(do pure (.bool (!(←Op.equal t (.bool a) (.bool b))))):=rfl;rw [e];simp [eqGuard,Kd ht]
def aE5 {op:UnOp} {a u:Value} (e:pun op a=some u):(Op.unary op a).run P w=.ok u w:=by
 unfold pun at e;split at e
 ·cases op<;>simp only at e<;>(try (simp at e;done))<;>(injection e with e;subst e;simp [Op.unary])
 ·rename_i k p;cases op<;>simp only at e<;>(try (simp at e;done))<;>(injection e with e;subst e;simp [Op.unary,Op.intArith,Op.intBits])
 ·simp at e
end
end
section
section
variable {P:Program} {w:World}
def yS:∀ {ks:List LK} {xs ys:List Value} {b:Bool},pZ ks xs ys=some b→xs.length=ks.length∧ys.length=ks.length
 | [],xs,ys,b,e=>by cases xs<;>cases ys<;>simp_all [pZ]
 | k::ks,xs,ys,b,e=>by
  cases xs with
  | nil=>cases k<;>simp [pZ] at e
  | cons x xs =>
   cases ys with
   | nil=>cases k<;>cases x<;>simp [pZ] at e
   | cons y ys =>
    cases k<;>cases x<;>cases y<;>simp only [pZ] at e<;>(try (simp at e;done))
    case int.int.int k k1 p k2 q =>
     split at e
     ·split at e
      ·rename_i r hr;have:=yS hr;simp [this.1,this.2]
      ·simp at e
     ·simp at e
    all_goals
     split at e
     ·rename_i r hr
      have:=yS hr
      simp [this.1,this.2]
     ·simp at e
def GR:∀ {ks ls:List LK} {xs ys:List Value} {b:Bool},pZ (ks++ls) xs ys=some b →
  ∃ b1 b2,pZ ks (xs.take ks.length) (ys.take ks.length)=some b1∧pZ ls (xs.drop ks.length) (ys.drop ks.length)=some b2∧b=(b1&&b2)
 | [],ls,xs,ys,b,e=>⟨true,b,by simp [pZ],by simpa using e,by simp⟩
 | k::ks,ls,xs,ys,b,e=>by
  cases xs with
  | nil=>cases k<;>simp [pZ] at e
  | cons x xs =>
   cases ys with
   | nil=>cases k<;>cases x<;>simp [pZ] at e
   | cons y ys =>
    simp only [Ag] at e;cases k<;>cases x<;>cases y<;>simp only [pZ] at e<;>(try (simp at e;done))
    case int.int.int k k1 a k2 c =>
     split at e
     ·rename_i hk;split at e
      ·rename_i r hr;injection e with e;obtain ⟨b1,b2,h1,h2,h3⟩:=GR hr;exact ⟨a==c&&b1,b2,by simp [pZ,hk,h1],by simpa using h2,by rw [←e,h3];simp [Qo]⟩
      ·simp at e
     ·simp at e
    case bool.bool.bool a c =>
     split at e
     ·rename_i r hr;injection e with e;obtain ⟨b1,b2,h1,h2,h3⟩:=GR hr;exact ⟨a==c&&b1,b2,by simp [pZ,h1],by simpa using h2,by rw [←e,h3];simp [Qo]⟩
     ·simp at e
    case str.string.string a c =>
     split at e
     ·rename_i r hr;injection e with e;obtain ⟨b1,b2,h1,h2,h3⟩:=GR hr;exact ⟨a.toList==c.toList&&b1,b2,by simp [pZ,h1],by simpa using h2,by rw [←e,h3];simp [Qo]⟩
     ·simp at e
abbrev Ke (ag:Bool) (xs:List Value):Value:=iH ag xs
def Cp {t:TypeId} {X:Array Value} {off:Nat} {ag:Bool} {n:Nat} (ha:Eg P t=some (aDx ag n)) (hn:ag=false→n=1) (hl:off+n≤X.size) :
  (part t X off).run P w=.ok (Ke ag ((X.toList.drop off).take n)) w:=by
 cases ag with
 | false =>
  have:=hn rfl;subst this;have h0:Eg P t=some none:=ha;have h:=D5 (w:=w) h0;have hx:X[off]?=some X[off]:=QW (by omega);simp only [part,Sem.run_bind,h.1,Result.andThen_ok,jZ,if_false,hx,iH];simp [FN,hx]
 | true =>
  have h0:Eg P t=some (some n):=ha;have h:=D5 (w:=w) h0;simp only [part,Sem.run_bind,h.1,h.2,Result.andThen_ok,if_true,iH,Sem.run_pure];congr 2;apply CV.1;simp [Array.toList_extract,List.extract]
def Nk {n:Nat} (ih:∀ t ag ks,fZ P n t=some (ag,ks)→(ag=false→ks.length=1)∧∀ d,n≤d→∀ xs ys b,pZ ks xs ys=some b→(Op.equalIn d t (Ke ag xs) (Ke ag ys)).run P w=.ok b w)
  {d:Nat} (hd:n≤d) (X Y:Array Value):∀ (fs:List Field) (off:Nat) (ks:List LK) (b:Bool),FS P (fZ P n) fs off=some ks →
   pZ ks (X.toList.drop off) (Y.toList.drop off)=some b→off≤X.size→off≤Y.size→(Op.eqFields d X Y fs).run P w=.ok b w
 | [],off,ks,b,hk,he,_,_=>by
  simp only [FS] at hk;injection hk with hk;subst hk;cases hx:X.toList.drop off<;>cases hy:Y.toList.drop off<;>rw [hx,hy] at he<;>simp [pZ] at he;subst he;simp [Op.eqFields]
 | f::fs,off,ks,b,hk,he,hX,hY=>by
  simp only [FS] at hk;split at hk
  ·rename_i ag ks1 hg;split at hk
   ·rename_i hc;obtain ⟨hname,hoff,hag⟩:=hc;split at hk
    ·rename_i l hl;injection hk with hk;subst hk;obtain ⟨b1,b2,h1,h2,h3⟩:=GR he;have hlen:=yS he;simp only [tT,dU,FM] at hlen;obtain ⟨hone,hi⟩:=ih _ _ _ hg;have hpx:(part f.type X f.offset).run P w=.ok (Ke ag ((X.toList.drop off).take ks1.length)) w:=by
      rw [hoff];exact Cp hag hone (by omega)
     have hpy:(part f.type Y f.offset).run P w=.ok (Ke ag ((Y.toList.drop off).take ks1.length)) w:=by
      rw [hoff];exact Cp hag hone (by omega)
     have hr:=hi d hd _ _ _ h1;simp only [Op.eqFields,hname,ne_eq,not_false_eq_true,if_true,Sem.run_bind,hpx,hpy,Result.andThen_ok,hr];rw [GF,GF] at h2;have hrec:=Nk ih hd X Y fs (off+ks1.length) l b2 hl h2 (by omega) (by omega);cases b1
     ·simp [h3]
     ·simp [hrec,h3]
    ·simp at hk
   ·simp at hk
  ·simp at hk
def D6:∀ (n:Nat) (t:TypeId) (ag:Bool) (ks:List LK),fZ P n t=some (ag,ks) →
  (ag=false→ks.length=1)∧∀ d,n≤d→∀ xs ys b,pZ ks xs ys=some b→(Op.equalIn d t (Ke ag xs) (Ke ag ys)).run P w=.ok b w
 | 0,_,_,_,e=>by simp [fZ] at e
 | n+1,t,ag,ks,e=>by
  have leaf:∀ (k:LK) (xs ys:List Value) (b:Bool),pZ [k] xs ys=some b→∃ x y,xs=[x]∧ys=[y]:=by
   intro k xs ys b hb;have:=yS hb
   match xs,ys,this with
   | [x],[y],_=>exact ⟨x,y,rfl,rfl⟩
  simp only [fZ] at e;split at e
  ·rename_i k hu;injection e with e;injection e with e1 e2;subst e1;subst e2;refine ⟨λ_=>rfl,λd hd xs ys b hb=>?_⟩;obtain ⟨d,rfl⟩:∃ d',d=d'+1:=⟨d-1,by omega⟩
   obtain ⟨x,y,rfl,rfl⟩:=leaf _ _ _ _ hb;cases x<;>cases y<;>simp only [pZ] at hb<;>(try (simp at hb;done))
   split at hb
   ·rename_i hk;obtain ⟨rfl,rfl⟩:=hk;injection hb with hb;subst hb;simp only [iH,pZ,uO,jZ,if_false,Ys];exact run_equalIn_int w d t _ _ _ _ hu
   ·simp at hb
  ·rename_i hu;injection e with e;injection e with e1 e2;subst e1;subst e2;refine ⟨λ_=>rfl,λd hd xs ys b hb=>?_⟩;obtain ⟨d,rfl⟩:∃ d',d=d'+1:=⟨d-1,by omega⟩
   obtain ⟨x,y,rfl,rfl⟩:=leaf _ _ _ _ hb;cases x<;>cases y<;>simp only [pZ] at hb<;>(try (simp at hb;done))
   injection hb with hb;subst hb;simp [iH,run_equalIn_bool' w d t _ _ hu]
  ·rename_i hu;injection e with e;injection e with e1 e2;subst e1;subst e2;refine ⟨λ_=>rfl,λd hd xs ys b hb=>?_⟩;obtain ⟨d,rfl⟩:∃ d',d=d'+1:=⟨d-1,by omega⟩
   obtain ⟨x,y,rfl,rfl⟩:=leaf _ _ _ _ hb;cases x<;>cases y<;>simp only [pZ] at hb<;>(try (simp at hb;done))
   injection hb with hb;subst hb;simp [iH,run_equalIn_string w d t _ _ hu]
  ·rename_i fs hu;split at e
   ·simp at e
   ·rename_i hs;split at e
    ·rename_i l hl;injection e with e;injection e with e1 e2;subst e1;subst e2;refine ⟨λh=>by simp at h,λd hd xs ys b hb=>?_⟩;obtain ⟨d,rfl⟩:∃ d',d=d'+1:=⟨d-1,by omega⟩
     have hf:P.fieldsOf t=fs:=by simp [Program.fieldsOf,hu]
     have:=run_equalIn_struct (P:=P) w d t xs.toArray ys.toArray (by rw [hf];exact hu) (by simpa using hs);simp only [iH,if_true];rw [this,hf];exact Nk (D6 n) (by omega) xs.toArray ys.toArray fs.toList 0 l b hl (by simpa using hb) (by simp) (by simp)
    ·simp at e
  ·simp at e
end
end
section
def cB.sub {h:GH} {cs:List AV} {us:List Value} (a:cB h cs us) (m k:Nat):cB h ((cs.drop m).take k) ((us.drop m).take k) :=
 cB.mk (by simp [a.length]) λi c u hc hu=>by
  rw [AI] at hc hu;split at hc
  ·rw [if_pos (by assumption)] at hu;rw [FN] at hc hu;obtain ⟨u',h1,h2⟩:=a.get hc;rw [h1] at hu;injection hu with hu;subst hu;exact h2
  ·simp at hc
def lA.vals {h:GH} {b:Nat}:∀ {cs:List AV} {o:Nat},lA h b cs o→∃ us,cB h cs us∧∀ j u,us[j]?=some u→nZ h b (o+j)=some u
 | [],o,_=>⟨[],by simp [cB],λj u hj=>by simp at hj⟩
 | c::cs,o,e=>by
  simp only [lA] at e;obtain ⟨⟨u,_,h1,h2⟩,h3⟩:=e;obtain ⟨us,h4,h5⟩:=h3.vals;refine ⟨u::us,by simp only [cB];exact ⟨u,us,rfl,h2,h4⟩,λj x hj=>?_⟩
  cases j with
  | zero=>simp only [KH,Option.some.injEq] at hj;subst hj;exact h1
  | succ j=>simp only [I8] at hj;rw [←h5 j x hj];congr 1;omega
def Kf {α:Type} {k:Nat}:∀ {es:List (List α)},(∀ e∈es,e.length=k)→∀ {j:Nat} {e:List α},es[j]?=some e→(es.flatten.drop (j*k)).take k=e
 | [],_,j,e,hj=>by simp at hj
 | d::es,hl,j,e,hj=>by
  have hd:=hl d (by simp)
  cases j with
  | zero=>simp only [KH,Option.some.injEq] at hj;subst hj;simp [←hd]
  | succ j =>
   simp only [I8] at hj;have:(j+1)*k=d.length+j*k:=by rw [E3,hd];omega
   rw [qP,this,List.drop_append,Og (by omega)];simp only [FQ];rw [show d.length+j*k-d.length=j*k from by omega];exact Kf (λe he=>hl e (by simp [he])) hj
def xD {α:Type} {k:Nat}:∀ {es:List (List α)},(∀ e∈es,e.length=k)→es.flatten.length=es.length*k
 | [],_=>by simp
 | d::es,hl=>by
  rw [qP,dU,xD (λe he=>hl e (by simp [he])),hl d (by simp),kS,E3];omega
section
variable {P:Program} {G:Nat→Option (List AV)} {h:GH} {φ:Nat→Value} {T:aQ} {w:World} {s:List (Nat×AV)} {a:Act}
def ZI {t:TypeId} {m:Option Nat} (ht:Eg P t=some m) {us:List Value} {cs:List AV} {n:Nat} {b o off:Nat} (hr:bW h φ n cs us) (hc:∀ j u,us[j]?=some u→w.cell? ⟨b,o+j,none⟩=some u)
  {x:AV} (hx:KY cs off m=some x):∃ v,(loadVar t ⟨b,o+off,none⟩).run P w=.ok v w∧Rp h φ n x v:=by
 have hk:=VQ hr hx
 have hl:=Sz (P:=P) (w:=w) ht (b:=b) (o:=o+off) (us:=us.drop off) (λj u hj=>by
  rw [FN] at hj;have:=hc _ _ hj;rw [Nf];exact this)
 cases m with
 | none =>
  obtain ⟨u,h1,h2⟩:=hk;exact ⟨u,hl u (by rw [FN];simpa using h1),h2⟩
 | some k =>
  obtain ⟨h1,h2⟩:=hk;exact ⟨_,hl (by rw [tT];omega),h2⟩
def wU {i k:Nat} {es:List (List AV)} (hI:Inv h φ w T) (hg:cR T i=some (.arr k es)) :
  (∀ e∈es,e.length=k∧∀ c∈e,bB c=true)∧((∃ A,φ i=.slice A 0 0∧es=[]) ∨
   ∃ (g c:Nat) (cur:Array Value) (E:TypeId),φ i=.slice (some ⟨g,0,none⟩) es.length (c+1)∧w.heap[g]?=some (.cells cur E (0,0))∧es.length≤c+1∧c+1≤maxLen∧cur.size=(c+1)*k∧h g=none ∧
    cB h es.flatten (cur.toList.take (es.length*k))):=hI.obj i _ (bD hg)
def Jg {b:Bool} {c:AV} (hc:Mv b c=true):jU c=true:=by
 cases b with
 | false=>exact hc
 | true =>
  cases c<;>simp_all [Mv,bB,jU];rename_i v;cases v<;>simp_all [bB,jU]
def BU (h:GH) (φ:Nat→Value) (n:Nat) (b:Bool) (cs:List AV) (us:List Value):Prop:=if b then cB h cs us else bW h φ n cs us
def BU.toL {φ:Nat→Value} {n:Nat} {b:Bool} {cs:List AV} {us:List Value} (a:BU h φ n b cs us):bW h φ n cs us:=by
 cases b with
 | true=>exact cB.to a
 | false=>exact a
def Ba {o:Option AObj} {k:Nat} {es:List (List AV)} {b:Bool} (e:pO o=some (k,es,b)):o=some (iA b k es):=by
 cases o with
 | none=>simp [pO] at e
 | some o=>cases o<;>simp [pO] at e<;>(obtain ⟨rfl,rfl,rfl⟩:=e;rfl)
def lC {φ:Nat→Value} {n:Nat} {i:Nat} {b:Bool} {k:Nat} {es:List (List AV)}:vW h φ n w i (iA b k es)↔((∀ e∈es,e.length=k∧∀ c∈e,Mv b c=true)∧((∃ A,φ i=.slice A 0 0∧es=[]) ∨
   ∃ (g c:Nat) (cur:Array Value) (E:TypeId),φ i=.slice (some ⟨g,0,none⟩) es.length (c+1)∧w.heap[g]?=some (.cells cur E (0,0))∧es.length≤c+1∧c+1≤maxLen∧cur.size=(c+1)*k∧h g=none ∧
    BU h φ n b es.flatten (cur.toList.take (es.length*k)))):=by cases b<;>exact Iff.rfl
def oV {i k:Nat} {es:List (List AV)} {b:Bool} (hI:Inv h φ w T) (hg:pO (cR T i)=some (k,es,b)) :
  (∀ e∈es,e.length=k∧∀ c∈e,Mv b c=true)∧((∃ A,φ i=.slice A 0 0∧es=[]) ∨
   ∃ (g c:Nat) (cur:Array Value) (E:TypeId),φ i=.slice (some ⟨g,0,none⟩) es.length (c+1)∧w.heap[g]?=some (.cells cur E (0,0))∧es.length≤c+1∧c+1≤maxLen∧cur.size=(c+1)*k∧h g=none ∧
    BU h φ T.length b es.flatten (cur.toList.take (es.length*k))):=lC.1 (hI.obj i _ (bD (Ba hg)))
def bW.sub {φ:Nat→Value} {n:Nat} {cs:List AV} {us:List Value} (a:bW h φ n cs us) (m k:Nat):bW h φ n ((cs.drop m).take k) ((us.drop m).take k):=(a.drop m).take k
def Nl {i k:Nat} {es:List (List AV)} {b:Bool} (hI:Inv h φ w T) (hg:pO (cR T i)=some (k,es,b)) {j:Nat} {e:List AV} (hj:es[j]?=some e) :
  ∃ (g c:Nat) (us:List Value),φ i=.slice (some ⟨g,0,none⟩) es.length (c+1)∧bW h φ T.length e us∧∀ m u,us[m]?=some u→w.cell? ⟨g,j*k+m,none⟩=some u:=by
 obtain ⟨hl,h1 | ⟨g,c,cur,E,hφ,hw,h2,h3,h4,h5,h6⟩⟩:=oV hI hg
 ·rw [h1.choose_spec.2] at hj;simp at hj
 ·have hsub:=h6.toL.sub (j*k) k;rw [Kf (λe he=>(hl e he).1) hj] at hsub;refine ⟨g,c,_,hφ,hsub,λm u hm=>?_⟩;rw [BZ hw];rw [AI] at hm;split at hm
  ·rw [FN,AI] at hm;split at hm
   ·rw [←hm];simp
   ·simp at hm
  ·simp at hm
def gB (b o m:Nat):(⟨b,o,none⟩:Addr).add m=⟨b,o+m,none⟩:=by unfold Addr.add;split<;>simp_all
def Kg {t:TypeId} {m:Option Nat} (ht:Eg P t=some m) (hG:rD G h) (hI:Inv h φ w T) (hS:rP h φ T.length s a) {p:Operand} {x:AV} {T':aQ}
  (he:bK T (bX G s) (.ld m p)=some (x,T')):T'=T∧∃ v,(Instr.loadAt t (a.eval p)).run P w=.ok v w∧Rp h φ T.length x v:=by
 have hp:=dA hG hS p;simp only [bK] at he;split at he
 ·rename_i i off hev;rw [hev] at hp;simp only [Rp] at hp;obtain ⟨_,g,hφ,hu⟩:=hp;split at he
  ·rename_i cs hg;split at he
   ·rename_i y hy;injection he with he;injection he with e1 e2;subst e1;subst e2;obtain ⟨g',us,E,hφ',hw,_,hr⟩:=Nj hI hg;rw [hφ] at hφ';injection hφ' with hφ';injection hφ' with hφ';injection hφ' with hφ';subst hφ';refine ⟨rfl,?_⟩;rw [hu];simp only [Instr.loadAt,Instr.sureAddr];have:=ZI (P:=P) (w:=w) (b:=g) (o:=0) ht hr (λj u hj=>by rw [BZ hw];simpa using hj) hy;simpa using this
   ·simp at he
  ·simp at he
 ·rename_i cs hev;rw [hev] at hp;simp only [Rp] at hp;obtain ⟨b,o,hu,hc⟩:=hp;split at he
  ·rename_i y hy;injection he with he;injection he with e1 e2;subst e1;subst e2;obtain ⟨us,h1,h2⟩:=hc.vals;refine ⟨rfl,?_⟩;rw [hu];simp only [Instr.loadAt,Instr.sureAddr];have:=ZI (P:=P) (w:=w) (φ:=φ) (n:=T.length) (b:=b) (o:=o) ht (cB.to h1) (λj u hj=>Qz hI (h2 j u hj)) hy;simpa using this
  ·simp at he
 ·rename_i i k j off hev;rw [hev] at hp;simp only [Rp] at hp;obtain ⟨_,g,l,c,hφ,hu⟩:=hp;split at he
  ·rename_i k' es b hg;split at he
   ·rename_i hk;subst hk;split at he
    ·rename_i e hj;split at he
     ·rename_i y hy;injection he with he;injection he with e1 e2;subst e1;subst e2;obtain ⟨g',c',us,hφ',h1,h2⟩:=Nl hI hg hj;rw [hφ] at hφ';injection hφ' with hφ' _ _;injection hφ' with hφ';injection hφ' with hφ';subst hφ';refine ⟨rfl,?_⟩;rw [hu];simp only [Instr.loadAt,Instr.sureAddr];exact ZI (P:=P) (w:=w) (φ:=φ) (n:=T.length) (b:=g) (o:=j*k) ht h1 h2 hy
     ·simp at he
    ·simp at he
   ·simp at he
  ·simp at he
 ·simp at he
end
end
end Hud
