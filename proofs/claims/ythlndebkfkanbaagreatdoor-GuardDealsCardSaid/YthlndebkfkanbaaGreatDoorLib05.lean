import Derived.Test.YthlndebkfkanbaaGreatDoorLib04
import Derived.Lib.ConvBytes
import Derived.Laws.BytesString
import Derived.Laws.MakeOwn
set_option linter.all false
namespace Hud
open Go
section
section
variable {P:Program} {G:Nat->Option (List AV)} {h:GH} {φ:Nat->Value} {T:Tab} {w:World} {s:List (Nat×AV)} {a:Act}
def Bnd (o:Option Value) (d n:Nat):Prop:=(o=none/\n=d)\/∃ k i,o=some (.int k i)/\0<=i/\n=i.toNat
theorem dU {k:IntKind} {i:Int} {y:Nat} {c:BoundsCode} (h0:0<=i) (h1:i.toNat<=y):(Instr.sliceBound (.int k i) y c).run P w=.ok i.toNat w:=by
 have:0<=i/\i<=y:=⟨h0,by omega⟩
 simp [Instr.sliceBound,asIntOf,this]
theorem aAu {b:Bool} {len cap l m:Nat} {lo hi:Option Value} (hl:Bnd lo 0 l) (hh:Bnd hi len m) (h1:l<=m) (h2:m<=cap):(Instr.sliceBounds b len cap lo hi none).run P w=.ok (l,m,cap) w:=by
 rcases hl with ⟨rfl,rfl⟩ | ⟨k,i,rfl,h0,rfl⟩<;>rcases hh with ⟨rfl,rfl⟩ | ⟨k',i',rfl,h0',rfl⟩
 ·simp [Instr.sliceBounds]
 ·simp [Instr.sliceBounds,dU h0' h2]
 ·simp [Instr.sliceBounds,dU h0 h1]
 ·simp [Instr.sliceBounds,dU h0 h1,dU h0' h2]
theorem xL {t e:TypeId} (ht:P.underlying t=some (.slice e)) {k:Nat} (hk:kL P e=some k) {A:Option Addr} {len cap l m:Nat} {lo hi:Option Value} (hl:Bnd lo 0 l) (hh:Bnd hi len m) (h1:l<=m) (h2:m<=cap) :
  (Instr.sliceAt t (.slice A len cap) lo hi none).run P w=.ok (.slice (if cap=l then A else A.map (·.add (l*k))) (m-l) (cap-l)) w:=by
 simp [Instr.sliceAt,Instr.slice,run_underlying ht,aAu hl hh h1 h2,lJ hk]
theorem aRk {t:TypeId} (ht:P.underlying t=some .string) {sb:ByteArray} {l m:Nat} {lo hi:Option Value} (hl:Bnd lo 0 l) (hh:Bnd hi sb.size m) (h1:l<=m) (h2:m<=sb.size) :
  (Instr.sliceAt t (.string sb) lo hi none).run P w=.ok (.string (sb.extract l m)) w:=by
 simp [Instr.sliceAt,Instr.slice,run_underlying ht,aAu hl hh h1 h2]
def kY (ev:Operand->AV) (o:Option Operand) (d:Nat):Option Nat:=match o with
 | none=>some d
 | some o=>match ev o with
  | .v (.int _ n)=>if 0<=n then some n.toNat else none
  | _=>none
theorem kM (hG:GOk G h) (hS:SOk h φ T.length s a) {o:Option Operand} {d n:Nat} (e:kY (evO G s) o d=some n):Bnd (o.map a.eval) d n:=by
 unfold kY at e
 split at e
 ·injection e with e;exact .inl ⟨rfl,e.symm⟩
 ·rename_i x
  split at e
  ·rename_i k i hx
   split at e
   ·rename_i h0
    injection e with e
    exact .inr ⟨k,i,by simp [iV hG hS hx],h0,e.symm⟩
   ·simp at e
  ·simp at e
theorem aUq {t e:TypeId} (ht:P.underlying t=some (.slice e)) {k:Nat} (hk:kL P e=some k)
  (hG:GOk G h) (hI:Inv h φ w T) (hS:SOk h φ T.length s a) {p:Operand} {lo hi:Option Operand} {x:AV} {T':Tab} (he:hop T (evO G s) (.slc p lo hi k)=some (x,T')) :
  T'=T/\∃ v,(Instr.sliceAt t (a.eval p) (lo.map a.eval) (hi.map a.eval) none).run P w=.ok v w/\Rp h φ T.length x v:=by
 have hp:=bP hG hS p
 change (match evO G s p with
  | .ls k' es=>match kY (evO G s) lo 0,kY (evO G s) hi es.length with
   | some l,some h=>if k=k'/\l<=h/\h<=es.length then some (.ls k ((es.drop l).take (h-l)),T) else none
   | _,_=>none
  | .own a=>match mI (bK T a) with
   | some (k',es,_)=>match kY (evO G s) lo 0,kY (evO G s) hi es.length with
    | some l,some h=>if k=k'/\l<=h/\h<=es.length then some (.vw a k l (h-l),T) else none
    | _,_=>none
   | _=>none
  | .vw a k' lo' m=>match kY (evO G s) lo 0,kY (evO G s) hi m with
   | some l,some h=>if k=k'/\l<=h/\h<=m then some (.vw a k (lo'+l) (h-l),T) else none
   | _,_=>none
  | .v (.slice none 0 0)=>match kY (evO G s) lo 0,kY (evO G s) hi 0 with
   | some l,some h=>if l=0/\h=0 then some (.v (.slice none 0 0),T) else none
   | _,_=>none
  | _=>none)=some (x,T') at he
 split at he
 ·rename_i k' es hev
  rw [hev] at hp;simp only [Rp,RpD] at hp
  obtain ⟨A,c,hu,h1,h2,h3⟩:=hp
  split at he
  ·rename_i l m hl hm
   split at he
   ·rename_i hc
    obtain ⟨rfl,hlm,hme⟩:=hc
    injection he with he;injection he with e1 e2;subst e1;subst e2
    rw [hu]
    refine ⟨rfl,_,xL ht hk (kM hG hS hl) (kM hG hS hm) hlm (by omega),?_⟩
    have hlen:((es.drop l).take (m-l)).length=m-l:=by rw [List.length_take,List.length_drop];omega
    simp only [Rp,RpD]
    refine ⟨_,c-l,by rw [hlen],by rw [hlen];omega,by omega,?_⟩
    by_cases h0:m-l=0
    ·exact .inl (by rw [h0];simp)
    ·rcases h3 with rfl | ⟨b,o,rfl,hE⟩
     ·simp at hme;omega
     ·refine .inr ⟨b,o+l*k,by rw [if_neg (by omega)];simp [dT],?_⟩
      exact (hE.drop l).take _
   ·simp at he
  ·simp at he
 ·rename_i i hev
  rw [hev] at hp;simp only [Rp] at hp
  split at he
  ·rename_i k' es b hg
   split at he
   ·rename_i l m hl hm
    split at he
    ·rename_i hc
     obtain ⟨rfl,hlm,hme⟩:=hc
     injection he with he;injection he with e1 e2;subst e1;subst e2
     obtain ⟨_,h1 | ⟨g,c,cur,E,hφ,_,h2,h3,_⟩⟩:=lZ hI hg
     ·obtain ⟨A,h1,rfl⟩:=h1
      rw [hp.2.1,h1]
      refine ⟨rfl,_,xL ht hk (kM hG hS hl) (kM hG hS hm) hlm (by simpa using hme),?_⟩
      simp only [Rp]
      simp only [List.length_nil] at hme
      exact ⟨hp.1,_,_,rfl,by omega,by omega,.inl (by omega)⟩
     ·rw [hp.2.1,hφ]
      refine ⟨rfl,_,xL ht hk (kM hG hS hl) (kM hG hS hm) hlm (by omega),?_⟩
      simp only [Rp]
      refine ⟨hp.1,_,_,rfl,by omega,by omega,?_⟩
      by_cases h0:m-l=0
      ·exact .inl h0
      ·exact .inr ⟨g,_,c+1,hφ,by rw [if_neg (by omega)];simp [dT],by omega⟩
    ·simp at he
   ·simp at he
  ·simp at he
 ·rename_i i k' lo' n hev
  rw [hev] at hp;simp only [Rp] at hp
  obtain ⟨hi0,A,c,hu,h1,h2,h3⟩:=hp
  split at he
  ·rename_i l m hl hm
   split at he
   ·rename_i hc
    obtain ⟨rfl,hlm,hme⟩:=hc
    injection he with he;injection he with e1 e2;subst e1;subst e2
    rw [hu]
    refine ⟨rfl,_,xL ht hk (kM hG hS hl) (kM hG hS hm) hlm (by omega),?_⟩
    simp only [Rp]
    refine ⟨hi0,_,_,rfl,by omega,by omega,?_⟩
    by_cases h0:m-l=0
    ·exact .inl h0
    ·rcases h3 with rfl | ⟨g,len,c',hφ,rfl,hle⟩
     ·omega
     ·exact .inr ⟨g,len,c',hφ,by rw [if_neg (by omega)];simp [dT,Nat.add_mul],by omega⟩
   ·simp at he
  ·simp at he
 ·rename_i hev
  rw [iV hG hS hev]
  split at he
  ·rename_i l m hl hm
   split at he
   ·rename_i hc
    obtain ⟨rfl,rfl⟩:=hc
    injection he with he;injection he with e1 e2;subst e1;subst e2
    exact ⟨rfl,_,xL ht hk (kM hG hS hl) (kM hG hS hm) (Nat.le_refl _) (Nat.le_refl _),by simp [Rp]⟩
   ·simp at he
  ·simp at he
 ·simp at he
theorem aRl {t:TypeId} (ht:P.underlying t=some .string)
  (hG:GOk G h) (hS:SOk h φ T.length s a) {p:Operand} {lo hi:Option Operand} {x:AV} {T':Tab} (he:hop T (evO G s) (.slcS p lo hi)=some (x,T')) :
  T'=T/\∃ v,(Instr.sliceAt t (a.eval p) (lo.map a.eval) (hi.map a.eval) none).run P w=.ok v w/\Rp h φ T.length x v:=by
 change (match evO G s p with
  | .v (.string sb)=>match kY (evO G s) lo 0,kY (evO G s) hi sb.size with
   | some l,some h=>if l<=h/\h<=sb.size then some (.v (.string (sb.extract l h)),T) else none
   | _,_=>none
  | _=>none)=some (x,T') at he
 split at he
 ·rename_i sb hev
  rw [iV hG hS hev]
  split at he
  ·rename_i l m hl hm
   split at he
   ·rename_i hc
    injection he with he;injection he with e1 e2;subst e1;subst e2
    exact ⟨rfl,_,aRk ht (kM hG hS hl) (kM hG hS hm) hc.1 hc.2,by simp [Rp]⟩
   ·simp at he
  ·simp at he
 ·simp at he
def aRm (d:TypeDesc) (c:Value):Option Nat :=
 match d,c with
 | .pointer _,.pointer none=>some 0
 | .slice _,.slice none 0 0=>some 1
 | .func _ _ _,.nilFunc=>some 2
 | _,_=>none
def aE2:Value->Prop
 | .pointer _=>True
 | .slice _ _ _=>True
 | .nilFunc=>True
 | .func _ _ _=>True
 | _=>False
theorem tJ:∃ d,Op.maxDepth=d+1:=⟨9999,rfl⟩
theorem aT4 {t:TypeId} {d:TypeDesc} {c u:Value} {kd:Nat} (hk:aRm d c=some kd) {neg b:Bool} {p y:Operand} (h1:(Op.equal t u c).run P w=.ok b w)
  (h2:aE2 u) :
  (do eqGuard (if neg then .neq else .eql) t p y u c;binOp (if neg then .neq else .eql) t u c).run P w=.ok (.bool (if neg then !b else b)) w:=by
 unfold aRm at hk
 split at hk
 ·cases u<;>simp only [aE2] at h2<;>cases neg<;>simp [eqGuard,binOp,h1]
 ·cases u<;>simp only [aE2] at h2<;>cases neg<;>simp [eqGuard,binOp,h1]
 ·cases u<;>simp only [aE2] at h2<;>cases neg<;>simp [eqGuard,binOp,h1]
 ·simp at hk
theorem aRn {t:TypeId} {d:TypeDesc} (ht:P.underlying t=some d) {c:Value} {kd:Nat} (hk:aRm d c=some kd) {neg:Bool} {p y:Operand}
  (hG:GOk G h) (hI:Inv h φ w T) (hS:SOk h φ T.length s a) {x:AV} {T':Tab} (he:hop T (evO G s) (.nilS neg kd p)=some (x,T')) :
  T'=T/\∃ v,(do eqGuard (if neg then .neq else .eql) t p y (a.eval p) c;binOp (if neg then .neq else .eql) t (a.eval p) c).run P w=.ok v w/\Rp h φ T.length x v:=by
 have hp:=bP hG hS p
 have fin:∀ b:Bool,x=.v (.bool (if neg then !b else b))->(∀ u,u=a.eval p->(∃ g:Nat,(Op.equal t u c).run P w=.ok b w/\aE2 u)) ->
   ∃ v,(do eqGuard (if neg then .neq else .eql) t p y (a.eval p) c;binOp (if neg then .neq else .eql) t (a.eval p) c).run P w=.ok v w/\Rp h φ T.length x v:=by
  intro b hx hrun
  obtain ⟨g,h1,h2⟩:=hrun _ rfl
  exact ⟨.bool (if neg then !b else b),aT4 hk h1 h2,by rw [hx];simp [Rp]⟩
 simp only [hop] at he
 split at he
 ·rename_i b hb
  injection he with he;injection he with e1 e2;subst e1;subst e2
  refine ⟨rfl,fin b rfl fun u hu=>?_⟩
  subst hu
  unfold aRm at hk
  split at hb
  all_goals
   (try injection hb with hb)
   (try subst hb)
  ·rename_i hev
   rw [iV hG hS hev]
   split at hk<;>simp at hk
   exact ⟨0,by obtain ⟨d',hd'⟩:=tJ;simp [Op.equal,hd',Op.equalIn,run_underlying ht],trivial⟩
  ·rename_i i o hev
   rw [hev] at hp;simp only [Rp] at hp
   obtain ⟨_,g,_,hu⟩:=hp
   rw [hu]
   split at hk<;>simp at hk
   exact ⟨0,by obtain ⟨d',hd'⟩:=tJ;simp [Op.equal,hd',Op.equalIn,run_underlying ht],trivial⟩
  ·rename_i i k j o hev
   rw [hev] at hp;simp only [Rp] at hp
   obtain ⟨_,g,l,cc,_,hu⟩:=hp
   rw [hu]
   split at hk<;>simp at hk
   exact ⟨0,by obtain ⟨d',hd'⟩:=tJ;simp [Op.equal,hd',Op.equalIn,run_underlying ht],trivial⟩
  ·rename_i cs hev
   rw [hev] at hp;simp only [Rp] at hp
   obtain ⟨b',o,hu,_⟩:=hp
   rw [hu]
   split at hk<;>simp at hk
   exact ⟨0,by obtain ⟨d',hd'⟩:=tJ;simp [Op.equal,hd',Op.equalIn,run_underlying ht],trivial⟩
  ·rename_i hev
   rw [iV hG hS hev]
   split at hk<;>simp at hk
   exact ⟨1,by obtain ⟨d',hd'⟩:=tJ;simp [Op.equal,hd',Op.equalIn,run_underlying ht],trivial⟩
  ·rename_i i hev
   split at hb
   ·rename_i k e es b hg
    injection hb with hb
    subst hb
    rw [hev] at hp;simp only [Rp] at hp
    obtain ⟨_,h1 | ⟨g,cc,cur,E,hφ,_⟩⟩:=lZ hI hg
    ·simp at h1
    ·rw [hp.2.1,hφ]
     split at hk<;>simp at hk
     exact ⟨1,by obtain ⟨d',hd'⟩:=tJ;simp [Op.equal,hd',Op.equalIn,run_underlying ht],trivial⟩
   ·simp at hb
  ·rename_i k e es hev
   rw [hev] at hp;simp only [Rp,RpD] at hp
   obtain ⟨A,cc,hu,_,_,h3⟩:=hp
   rcases h3 with h3 | ⟨b',o,rfl,_⟩
   ·simp at h3
   ·rw [hu]
    split at hk<;>simp at hk
    exact ⟨1,by obtain ⟨d',hd'⟩:=tJ;simp [Op.equal,hd',Op.equalIn,run_underlying ht],trivial⟩
  ·rename_i hev
   rw [iV hG hS hev]
   split at hk<;>simp at hk
   exact ⟨2,by obtain ⟨d',hd'⟩:=tJ;simp [Op.equal,hd',Op.equalIn,run_underlying ht],trivial⟩
  ·rename_i f cs hev
   rw [hev] at hp;simp only [Rp] at hp
   obtain ⟨us,hu,_⟩:=hp
   rw [hu]
   split at hk<;>simp at hk
   exact ⟨3,by obtain ⟨d',hd'⟩:=tJ;simp [Op.equal,hd',Op.equalIn,run_underlying ht],trivial⟩
  ·simp at hb
 ·simp at he
theorem aPm {ts:Array TypeId} {ty:TypeId} {mx:Bool} {p q:Operand}
  (hG:GOk G h) (hS:SOk h φ T.length s a) {x:AV} {T':Tab} (he:hop T (evO G s) (.mm mx p q)=some (x,T')) :
  T'=T/\∃ v,(if mx then Builtin.max_ ts ty #[a.eval p,a.eval q] else Builtin.min_ ts ty #[a.eval p,a.eval q]).run P w=.ok v w/\Rp h φ T.length x v:=by
 simp only [hop] at he
 split at he
 ·rename_i k i k' j h1 h2
  split at he
  ·rename_i hk
   subst hk
   injection he with he;injection he with e1 e2;subst e1;subst e2
   rw [iV hG hS h1,iV hG hS h2]
   cases mx
   ·exact ⟨rfl,_,by simp [Builtin.min_,Builtin.min2];rfl,by simp [Rp]⟩
   ·exact ⟨rfl,_,by simp [Builtin.max_,Builtin.max2];rfl,by simp [Rp]⟩
  ·simp at he
 ·simp at he
end
def aHY (P:Program) (o:Oper):Option HOp :=
 match o.op with
 | .slice t x lo hi none=>match P.underlying t with
  | some (.slice e)=>match kL P e with
   | some k=>some (.slc x lo hi k)
   | none=>none
  | some .string=>some (.slcS x lo hi)
  | _=>none
 | .binOp op t x (.const c) _=>match P.underlying t with
  | some d=>match aRm d c with
   | some k=>if op=.eql then some (.nilS false k x) else if op=.neq then some (.nilS true k x) else none
   | none=>none
  | none=>none
 | .call c=>match c.callee,c.args.toList with
  | .builtin .max,[x,y]=>some (.mm true x y)
  | .builtin .min,[x,y]=>some (.mm false x y)
  | _,_=>none
 | _=>none
section
variable {P:Program} {G:Nat->Option (List AV)} {h:GH} {φ:Nat->Value} {w:World} {a:Act} {st:St} {K:AV->Tab->Prop} {next:Act->World->Prop} {Q:Exit->Act->World->Prop}
theorem aWf {kd:Nat} {x:AV} (he:aNP kd x=true):kd=1/\∃ k,x=.ls k []:=by
 unfold aNP at he
 split at he
 ·exact ⟨rfl,_,rfl⟩
 ·simp at he
theorem aT5 {t:TypeId} {d:TypeDesc} (ht:P.underlying t=some d) {c:Value} {kd:Nat} (hk:aRm d c=some kd) {neg:Bool} {p y:Operand}
  (hG:GOk G h) (hI:Inv h φ w st.T) (hS:SOk h φ st.T.length st.s a) (hw:opW P G st (.nilS neg kd p) K) :
  ∃ x,K x st.T/\∃ v,(do eqGuard (if neg then .neq else .eql) t p y (a.eval p) c;binOp (if neg then .neq else .eql) t (a.eval p) c).run P w=.ok v w/\Rp h φ st.T.length x v:=by
 simp only [opW] at hw
 split at hw
 ·rename_i hn
  obtain ⟨rfl,k,hev⟩:=aWf hn
  have hp:=bP hG hS p
  rw [hev] at hp
  simp only [Rp,RpD] at hp
  obtain ⟨A,cc,hu,_,_,_⟩:=hp
  have fin:∀ b:Bool,(Op.equal t (a.eval p) c).run P w=.ok b w->∃ x,K x st.T/\∃ v,(do eqGuard (if neg then .neq else .eql) t p y (a.eval p) c;binOp (if neg then .neq else .eql) t (a.eval p) c).run P w=.ok v w/\Rp h φ st.T.length x v:=fun b hb=>by
   refine ⟨.v (.bool (if neg then !b else b)),?_,.bool (if neg then !b else b),aT4 hk hb (by rw [hu];trivial),by simp [Rp]⟩
   cases (if neg then !b else b)
   ·exact hw.2
   ·exact hw.1
  unfold aRm at hk
  split at hk<;>simp at hk
  cases A with
  | none=>exact fin true (by rw [hu];obtain ⟨d',hd'⟩:=tJ;simp [Op.equal,hd',Op.equalIn,run_underlying ht])
  | some b=>exact fin false (by rw [hu];obtain ⟨d',hd'⟩:=tJ;simp [Op.equal,hd',Op.equalIn,run_underlying ht])
 ·split at hw
  ·rename_i x T' he
   obtain ⟨rfl,v,h1,h2⟩:=aRn (y:=y) ht hk hG hI hS he
   exact ⟨x,hw,v,h1,h2⟩
  ·exact hw.elim
theorem aUr {o:Oper} {ho:HOp} (hc:aHY P o=some ho) (hw:opW P G st ho K) (hG:GOk G h) (hI:Inv h φ w st.T) (hS:SOk h φ st.T.length st.s a)
  (hn:∀ v w',Ret h φ st.T w K v w'->next (a.put o.dst v) w'):mA P o a w next:=by
 have pure_op:∀ {sv:Sem Value} (_:execOp a.eval o=(do pure (.value (<-sv)))) (_:(∀ f l,ho≠.call f l)/\(∀ p,ho≠.nxt p)/\∀ n k x,ho≠.nilS n k x) (_:∀ x T',hop st.T (evO G st.s) ho=some (x,T')->T'=st.T/\∃ v,sv.run P w=.ok v w/\Rp h φ st.T.length x v),mA P o a w next:=by
  intro sv he hcall hrun
  obtain ⟨x,T',e,hk⟩:=aCj hcall hw
  obtain ⟨rfl,v,h1,h2⟩:=hrun x T' e
  exact oS he h1 (hn v w (mX hI h2 hk))
 obtain ⟨dst,op,ty,pos,after,guard⟩:=o
 unfold aHY at hc
 simp only at hc
 split at hc
 ·rename_i t x lo hi
  split at hc
  ·rename_i e ht
   split at hc
   ·rename_i k hk
    injection hc with hc
    subst hc
    exact pure_op (sv:=Instr.sliceAt t (a.eval x) (lo.map a.eval) (hi.map a.eval) none) rfl (by simp) fun y T' he=>aUq ht hk hG hI hS he
   ·simp at hc
  ·rename_i ht
   injection hc with hc
   subst hc
   exact pure_op (sv:=Instr.sliceAt t (a.eval x) (lo.map a.eval) (hi.map a.eval) none) rfl (by simp) fun y T' he=>aRl ht hG hS he
  ·simp at hc
 ·rename_i op t x c yt
  split at hc
  ·rename_i d ht
   split at hc
   ·rename_i k hk
    split at hc
    ·rename_i hop
     subst hop
     injection hc with hc
     subst hc
     obtain ⟨y,hy,v,h1,h2⟩:=aT5 (neg:=false) (y:=.const c) ht hk hG hI hS hw
     exact oS (sv:=do eqGuard .eql t x (.const c) (a.eval x) c;binOp .eql t (a.eval x) c) rfl h1 (hn v w (mX hI h2 hy))
    ·split at hc
     ·rename_i hop
      subst hop
      injection hc with hc
      subst hc
      obtain ⟨y,hy,v,h1,h2⟩:=aT5 (neg:=true) (y:=.const c) ht hk hG hI hS hw
      exact oS (sv:=do eqGuard .neq t x (.const c) (a.eval x) c;binOp .neq t (a.eval x) c) rfl h1 (hn v w (mX hI h2 hy))
     ·simp at hc
   ·simp at hc
  ·simp at hc
 ·rename_i c
  obtain ⟨callee,args,argTypes⟩:=c
  simp only at hc
  split at hc
  ·rename_i x y hargs
   have ha:args=#[x,y]:=Array.toList_inj.1 (by rw [hargs])
   subst ha
   injection hc with hc
   subst hc
   exact pure_op (sv:=Builtin.max_ argTypes ty #[a.eval x,a.eval y]) (by simp [execOp,resolve,invoke,builtin]) (by simp) fun z T' he=>aPm (ts:=argTypes) (ty:=ty) (mx:=true) hG hS he
  ·rename_i x y hargs
   have ha:args=#[x,y]:=Array.toList_inj.1 (by rw [hargs])
   subst ha
   injection hc with hc
   subst hc
   exact pure_op (sv:=Builtin.min_ argTypes ty #[a.eval x,a.eval y]) (by simp [execOp,resolve,invoke,builtin]) (by simp) fun z T' he=>aPm (ts:=argTypes) (ty:=ty) (mx:=false) hG hS he
  ·simp at hc
 ·simp at hc
end
end
section
section
variable {P:Program} {w:World}
theorem aIH (a b:ByteArray):(a==b)=true↔a=b:=by
 rw [beq_toListBytes,beq_iff_eq,ByteArray.toList_eq,ByteArray.toList_eq]
 constructor
 ·intro h
  obtain ⟨a⟩:=a
  obtain ⟨b⟩:=b
  congr
  exact Array.toList_inj.1 h
 ·rintro rfl;rfl
theorem aAV:∀ {ls:List LK} {xs ys:List Value},eqV ls xs ys=some true->xs=ys
 | [],xs,ys,e=>by cases xs<;>cases ys<;>simp_all [eqV]
 | k::ls,xs,ys,e=>by
  cases xs with
  | nil=>cases k<;>simp [eqV] at e
  | cons x xs =>
   cases ys with
   | nil=>cases k<;>cases x<;>simp [eqV] at e
   | cons y ys =>
    cases k<;>cases x<;>cases y<;>simp only [eqV] at e<;>(try (simp at e;done))
    ·split at e
     ·rename_i hk
      split at e
      ·rename_i r hr
       simp only [Option.some.injEq,Bool.and_eq_true,beq_iff_eq] at e
       obtain ⟨rfl,rfl⟩:=e
       rw [aAV hr,hk.1,hk.2]
      ·simp at e
     ·simp at e
    ·split at e
     ·rename_i r hr
      simp only [Option.some.injEq,Bool.and_eq_true,beq_iff_eq] at e
      obtain ⟨rfl,rfl⟩:=e
      rw [aAV hr]
     ·simp at e
    ·split at e
     ·rename_i r hr
      simp only [Option.some.injEq,Bool.and_eq_true] at e
      obtain ⟨h1,rfl⟩:=e
      rw [<-beq_toListBytes,aIH] at h1
      rw [aAV hr,h1]
     ·simp at e
def aAW (ens:List MapEntry) (i:Nat) (r:Option Nat) (out:Option (Nat×Value)):Prop :=
 match r with
 | none=>out=none
 | some j=>i<=j/\∃ e,ens[j-i]?=some e/\out=some (j,e.val)
theorem aII {e:MapEntry} {ens:List MapEntry} {i:Nat} {r:Option Nat} {out:Option (Nat×Value)} (h:aAW ens (i+1) r out):aAW (e::ens) i r out:=by
 cases r with
 | none=>exact h
 | some j =>
  obtain ⟨h1,x,h2,h3⟩:=h
  refine ⟨by omega,x,?_,h3⟩
  rw [show j-i=(j-(i+1))+1 from by omega,List.getElem?_cons_succ]
  exact h2
theorem aWg {n:Nat} {kt:TypeId} {ag:Bool} {ls:List LK} (hk:dS P n kt=some (ag,ls)) (hn:n<=Op.maxDepth) {kc:List Value}:∀ (ens:List MapEntry) (ks:List (List Value)) (i:Nat) (r:Option Nat),
  ens.map (·.key)=ks.map (fD ag)->jV ls kc ks i=some r->∃ out,aAW ens i r out/\(Instr.findAsking kt (fD ag kc) ens i).run P w=.ok out w
 | [],[],i,r,_,hf=>by
  simp only [jV,Option.some.injEq] at hf
  subst hf
  exact ⟨none,rfl,by simp [Instr.findAsking]⟩
 | [],_::_,_,_,hm,_=>by simp at hm
 | _::_,[],_,_,hm,_=>by simp at hm
 | e::ens,k::ks,i,r,hm,hf=>by
  simp only [List.map_cons,List.cons.injEq] at hm
  simp only [jV] at hf
  have heq:∀ b,eqV ls kc k=some b->(Op.equal kt (fD ag kc) e.key).run P w=.ok b w:=fun b hb=>by
   rw [hm.1]
   exact (aBX n kt ag ls hk).2 Op.maxDepth hn _ _ _ hb
  split at hf
  ·rename_i hb
   injection hf with hf
   subst hf
   exact ⟨some (i,e.val),⟨Nat.le_refl _,e,by simp,rfl⟩,by simp [Instr.findAsking,heq _ hb]⟩
  ·rename_i hb
   obtain ⟨out,h1,h2⟩:=aWg hk hn ens ks (i+1) r hm.2 hf
   exact ⟨out,aII h1,by simp [Instr.findAsking,heq _ hb,h2]⟩
  ·simp at hf
def aPn:LK->TypeDesc->Prop
 | .int k,d=>d=.int k
 | .bool,d=>d=.bool
 | .str,d=>d=.string
theorem aMy {l:LK} {d:TypeDesc} (hd:aPn l d) {x y:List Value} {b:Bool} (h:eqV [l] x y=some b):Instr.sameNow d (fD false x) (fD false y)=some b:=by
 have hl:=vA h
 match x,y,hl with
 | [x],[y],_ =>
  cases l<;>cases x<;>cases y<;>simp only [eqV] at h<;>(try (simp at h;done))
  ·split at h
   ·rename_i hk
    simp only [Bool.and_true,Option.some.injEq] at h
    simp only [aPn] at hd
    subst hd
    simp [fD,Instr.sameNow,hk.1,hk.2,<-h]
   ·simp at h
  ·simp only [Bool.and_true,Option.some.injEq] at h
   simp only [aPn] at hd
   subst hd
   simp [fD,Instr.sameNow,<-h]
  ·simp only [Bool.and_true,Option.some.injEq] at h
   simp only [aPn] at hd
   subst hd
   simp [fD,Instr.sameNow,<-h,beq_toListBytes]
theorem aNY {l:LK} {d:TypeDesc} (hd:aPn l d) {kc:List Value}:∀ (ens:List MapEntry) (ks:List (List Value)) (i:Nat) (r:Option Nat),
  ens.map (·.key)=ks.map (fD false)->jV [l] kc ks i=some r->∃ out,aAW ens i r out/\Instr.findNow d (fD false kc) ens i=some out
 | [],[],i,r,_,hf=>by
  simp only [jV,Option.some.injEq] at hf
  subst hf
  exact ⟨none,rfl,by simp [Instr.findNow]⟩
 | [],_::_,_,_,hm,_=>by simp at hm
 | _::_,[],_,_,hm,_=>by simp at hm
 | e::ens,k::ks,i,r,hm,hf=>by
  simp only [List.map_cons,List.cons.injEq] at hm
  simp only [jV] at hf
  split at hf
  ·rename_i hb
   injection hf with hf
   subst hf
   refine ⟨some (i,e.val),⟨Nat.le_refl _,e,by simp,rfl⟩,?_⟩
   simp only [Instr.findNow,hm.1,aMy hd hb]
  ·rename_i hb
   obtain ⟨out,h1,h2⟩:=aNY hd ens ks (i+1) r hm.2 hf
   refine ⟨out,aII h1,?_⟩
   simp only [Instr.findNow,hm.1,aMy hd hb,h2]
  ·simp at hf
theorem sO {n:Nat} {kt:TypeId} {ag:Bool} {ls:List LK} (hk:dS P n kt=some (ag,ls)) (hn:n<=Op.maxDepth) {kc:List Value} {ens:List MapEntry} {ks:List (List Value)} {r:Option Nat}
  (hm:ens.map (·.key)=ks.map (fD ag)) (hf:jV ls kc ks 0=some r):∃ out,aAW ens 0 r out/\(Instr.findKey kt (fD ag kc) ens).run P w=.ok out w:=by
 cases n with
 | zero=>simp [dS] at hk
 | succ n =>
  have hk':=hk
  simp only [dS] at hk'
  split at hk'
  ·rename_i k hu
   injection hk' with hk';injection hk' with e1 e2;subst e1;subst e2
   obtain ⟨out,h1,h2⟩:=aNY (d:=.int k) (l:=.int k) rfl ens ks 0 r hm hf
   exact ⟨out,h1,by simp [Instr.findKey,run_underlying hu,h2]⟩
  ·rename_i hu
   injection hk' with hk';injection hk' with e1 e2;subst e1;subst e2
   obtain ⟨out,h1,h2⟩:=aNY (d:=.bool) (l:=.bool) rfl ens ks 0 r hm hf
   exact ⟨out,h1,by simp [Instr.findKey,run_underlying hu,h2]⟩
  ·rename_i hu
   injection hk' with hk';injection hk' with e1 e2;subst e1;subst e2
   obtain ⟨out,h1,h2⟩:=aNY (d:=.string) (l:=.str) rfl ens ks 0 r hm hf
   exact ⟨out,h1,by simp [Instr.findKey,run_underlying hu,h2]⟩
  ·rename_i fs hu
   obtain ⟨out,h1,h2⟩:=aWg (w:=w) hk hn ens ks 0 r hm hf
   cases ens with
   | nil =>
    cases ks with
    | nil =>
     simp only [jV,Option.some.injEq] at hf
     subst hf
     exact ⟨none,rfl,by simp [Instr.findKey,run_underlying hu,Instr.findNow]⟩
    | cons k ks=>simp at hm
   | cons e ens =>
    refine ⟨out,h1,?_⟩
    have:Instr.findNow (.struct fs) (fD ag kc) (e::ens) 0=none:=by
     simp only [Instr.findNow]
     cases fD ag kc<;>simp [Instr.sameNow]
    simp [Instr.findKey,run_underlying hu,this,h2]
  ·simp at hk'
theorem aMz {n:Nat} {em:Bool} {d:Nat} (ih:∀ t ag ks,dS P n t=some (ag,ks)->(ag=false->ks.length=1)/\∀ xs b,eqV ks xs xs=some b->(Instr.checkKey em d t (fD ag xs)).run P w=.ok () w)
    (X:Array Value):∀ (fs:List Field) (off:Nat) (ks:List LK) (b:Bool),aD0 P (dS P n) fs off=some ks ->
      eqV ks (X.toList.drop off) (X.toList.drop off)=some b->off<=X.size ->
      (forIn fs PUnit.unit (fun f _=>if f.name ≠ "_" then (do
          let y <-part f.type X f.offset
          Instr.checkKey em d f.type y
          pure (ForInStep.yield PUnit.unit)) else pure (ForInStep.yield PUnit.unit)):Sem PUnit).run P w=.ok () w
  | [],off,ks,b,hk,he,_=>by simp
  | f::fs,off,ks,b,hk,he,hX=>by
    simp only [aD0] at hk
    split at hk
    · rename_i ag ks1 hg
      split at hk
      · rename_i hc
        obtain ⟨hname,hoff,hag⟩:=hc
        split at hk
        · rename_i l hl
          injection hk with hk
          subst hk
          obtain ⟨b1,b2,h1,h2,h3⟩:=aDW he
          have hlen:=vA he
          simp only [List.length_drop,List.length_append,Array.length_toList] at hlen
          obtain ⟨hone,hi⟩:=ih _ _ _ hg
          have hpx:(part f.type X f.offset).run P w=.ok (fD ag ((X.toList.drop off).take ks1.length)) w:=by
            rw [hoff];exact aAT hag hone (by omega)
          have hr:=hi _ _ h1
          rw [List.drop_drop] at h2
          have hrec:=aMz ih X fs (off+ks1.length) l b2 hl h2 (by omega)
          simp only [List.forIn_cons,Sem.run_bind,hname,ne_eq,not_false_eq_true,if_true,Result.andThen_ok,hpx,hr,Sem.run_pure]
          exact hrec
        · simp at hk
      · simp at hk
    · simp at hk
theorem aPo {em:Bool}:∀ (n:Nat) (kt:TypeId) (ag:Bool) (ls:List LK),dS P n kt=some (ag,ls)->∀ d,n<=d->∀ kc b,eqV ls kc kc=some b->(Instr.checkKey em d kt (fD ag kc)).run P w=.ok () w
 | 0,_,_,_,hk=>by simp [dS] at hk
 | n+1,kt,ag,ls,hk=>by
  intro d hd kc b hb
  obtain ⟨d,rfl⟩:∃ d',d=d'+1:=⟨d-1,by omega⟩
  have hk':=hk
  simp only [dS] at hk'
  split at hk'
  ·rename_i k hu
   simp [Instr.checkKey,run_underlying hu]
  ·rename_i hu
   simp [Instr.checkKey,run_underlying hu]
  ·rename_i hu
   simp [Instr.checkKey,run_underlying hu]
  ·rename_i fs hu
   split at hk'
   ·simp at hk'
   ·split at hk'
    ·rename_i l hl
     injection hk' with hk';injection hk' with e1 e2;subst e1;subst e2
     have h:=aMz (w:=w) (em:=em) (d:=d) (fun t ag ks ht=>⟨(aBX (w:=w) n t ag ks ht).1,aPo n t ag ks ht d (by omega)⟩) kc.toArray fs.toList 0 l b hl (by simpa using hb) (by simp)
     simp only [Instr.checkKey,fD,if_true,Sem.run_bind,run_underlying hu,Result.andThen_ok]
     rw [<-Array.forIn_toList,h]
     simp
    ·simp at hk'
  ·simp at hk'
theorem wP:∀ {ls:List LK} {xs:List Value} {b:Bool},eqV ls xs xs=some b->∀ x∈xs,∀ n,Instr.sameBits n x x=true
 | [],xs,b,h,x,hx=>by cases xs<;>simp_all [eqV]
 | l::ls,[],b,h,x,hx=>by simp at hx
 | l::ls,y::xs,b,h,x,hx=>by
  have hrec:∃ b',eqV ls xs xs=some b':=by
   cases l<;>cases y<;>simp only [eqV] at h<;>(try (simp at h;done))
   ·split at h
    ·split at h
     ·rename_i r hr;exact ⟨r,hr⟩
     ·simp at h
    ·simp at h
   ·split at h
    ·rename_i r hr;exact ⟨r,hr⟩
    ·simp at h
   ·split at h
    ·rename_i r hr;exact ⟨r,hr⟩
    ·simp at h
  obtain ⟨b',hb'⟩:=hrec
  intro n
  rcases List.mem_cons.1 hx with rfl | hx
  ·cases l<;>cases x<;>simp only [eqV] at h<;>(try (simp at h;done))<;>cases n<;>simp [Instr.sameBits,aIH]
  ·exact wP hb' x hx n
theorem aPp {ag:Bool} {ls:List LK} {kc:List Value} {b:Bool} (hb:eqV ls kc kc=some b) (h1:ag=false->ls.length=1):(Instr.keyThatStays (fD ag kc) (fD ag kc)).run P w=.ok (fD ag kc) w:=by
 have:Instr.sameBits 10000 (fD ag kc) (fD ag kc)=true:=by
  cases ag with
  | false =>
   have hl:=vA hb
   rw [h1 rfl] at hl
   match kc,hl with
   | [x],_=>simpa [fD] using wP hb x (by simp) 10000
  | true =>
   have key:∀ m,Instr.sameBits (m+1) (fD true kc) (fD true kc)=true:=fun m=>by
    simp only [fD,if_true,Instr.sameBits,beq_self_eq_true,Bool.true_and,List.all_eq_true]
    rintro ⟨x,y⟩ hm
    have hxy:x=y/\x∈kc:=by
     rw [List.zip_eq_zipWith] at hm
     obtain ⟨i,hi⟩:=List.getElem?_of_mem hm
     rw [List.getElem?_zipWith] at hi
     split at hi
     ·rename_i p q hp hq
      rw [hp] at hq
      injection hq with hq
      simp only [Option.some.injEq,Prod.mk.injEq] at hi
      obtain ⟨rfl,rfl⟩:=hi
      exact ⟨hq,List.mem_of_getElem? hp⟩
     ·simp at hi
    rw [<-hxy.1]
    exact wP hb x hxy.2 m
   exact key 9999
 simp [Instr.keyThatStays,this]
end
end
section
section
variable {P:Program} {G:Nat->Option (List AV)} {h:GH} {φ:Nat->Value} {T:Tab} {w:World} {s:List (Nat×AV)} {a:Act}
theorem aMA {n:Nat}:∀ {cs:List AV} {us kc:List Value},yS cs=some kc->RpL h φ n cs us->us=kc
 | [],us,kc,e,hr=>by
  simp only [yS,Option.some.injEq] at e
  simp only [RpL] at hr
  subst e;exact hr
 | c::cs,us,kc,e,hr=>by
  cases c<;>simp only [yS] at e<;>(try (simp at e;done))
  simp only [RpL,Rp] at hr
  obtain ⟨u,us',rfl,rfl,h2⟩:=hr
  split at e
  ·rename_i l hl
   injection e with e
   subst e
   rw [aMA hl h2]
  ·simp at e
theorem aHZ {n:Nat} {x:AV} {u:Value} {ag:Bool} {ls:List LK} {kc:List Value} (hx:Rp h φ n x u) (e:aIq ag ls x=some kc):u=fD ag kc/\∃ b,eqV ls kc kc=some b:=by
 unfold aIq at e
 split at e
 ·rename_i k hk
  split at e
  ·rename_i b hb
   injection e with e
   subst e
   refine ⟨?_,b,hb⟩
   split at hk
   ·rename_i hag
    subst hag
    split at hk
    ·rename_i cs hcs
     have:∃ us:Array Value,u=.agg us/\RpL h φ n cs us.toList:=by
      unfold aPb at hcs
      split at hcs
      ·injection hcs with hcs;subst hcs
       simpa only [Rp] using hx
      ·injection hcs with hcs;subst hcs
       simp only [Rp] at hx
       exact ⟨_,hx,aIA h φ n _⟩
      ·simp at hcs
     obtain ⟨us,rfl,hr⟩:=this
     have:=aMA hk hr
     simp [fD,<-this]
    ·simp at hk
   ·rename_i hag
    split at hk
    ·rename_i v
     injection hk with hk
     subst hk
     simp only [Rp] at hx
     simp [fD,hag,hx]
    ·simp at hk
  ·simp at e
 ·simp at e
theorem yX (hI:Inv h φ w T) {i:Nat} {ag:Bool} {ks:List (List Value)} {vs:List AV} {bs:List Nat} {cl:Nat} (hg:bK T i=some (.map ag ks vs bs cl)) :
  ∃ (g:Nat) (ens:Array MapEntry),φ i=.map (some g)/\w.heap[g]?=some (.map ens cl)/\h g=none /\
   ens.toList.map (·.key)=ks.map (fD ag)/\ens.toList.map (·.born)=bs/\RpL h φ T.length vs (ens.toList.map (·.val)):=hI.obj i _ (aN hg)
theorem gN {r:Nat} {es:Array MapEntry} {clock:Nat} (hb:w.heap[r]?=some (.map es clock)):(getObj r).run P w=.ok (.map es clock) w:=by simp [getObj,Sem.run,hb]
theorem nP {r:Nat} {es:Array MapEntry} {clock:Nat} (o:Obj) (hb:w.heap[r]?=some (.map es clock)):(setObj r o).run P w=.ok () { w with heap:=w.heap.setIfInBounds r o }:=by simp [setObj,Sem.run,hb]
theorem yY (hI:Inv h φ w T) {i:Nat} {ag:Bool} {ks:List (List Value)} {vs:List AV} {bs:List Nat} {cl:Nat} (hg:bK T i=some (.map ag ks vs bs cl)) {g:Nat} {ens:Array MapEntry} (hφ:φ i=.map (some g)) (hw:w.heap[g]?=some (.map ens cl))
  {ens':Array MapEntry} {ks':List (List Value)} {vs':List AV} {bs':List Nat} {cl':Nat} (h1:ens'.toList.map (·.key)=ks'.map (fD ag)) (h2:ens'.toList.map (·.born)=bs') (h3:RpL h φ T.length vs' (ens'.toList.map (·.val))) :
  Inv h φ { w with heap:=w.heap.setIfInBounds g (.map ens' cl') } (T.set i (some (.map ag ks' vs' bs' cl'))) /\
  Evo h φ T w h φ (T.set i (some (.map ag ks' vs' bs' cl'))) { w with heap:=w.heap.setIfInBounds g (.map ens' cl') }:=by
 have hlt:g<w.heap.size:=by
  rcases Nat.lt_or_ge g w.heap.size with hh | hh
  ·exact hh
  ·rw [Array.getElem?_eq_none hh] at hw;simp at hw
 have hn:=(eU (hI.obj i _ (aN hg)) (g:=g) (by rw [hφ];rfl)).2
 refine aBY (w':={ w with heap:=w.heap.setIfInBounds g (.map ens' cl') }) hI rfl rfl rfl (by simp) (aN hg) (fun b _ hne=>?_) ⟨g,ens',hφ,by simp [hlt],hn,h1,h2,h3⟩
 have:g≠b:=fun e=>hne (by rw [hφ,e];rfl)
 simp [Array.getElem?_setIfInBounds_ne this]
theorem aUs (hI:Inv h φ w T) (t:TypeId) (ag:Bool):fE h φ T w ((Instr.makeMap t none).run P w) (.mp T.length) (T++[some (.map ag [] [] [] 0)]):=by
 have hn:h w.heap.size=none:=aBZ hI
 have:=nI (w':=w.alloc (.map #[] 0)) (o:=.map ag [] [] [] 0) (v:=.map (some w.heap.size)) hI rfl rfl rfl (by simp) (fun b hb=>gF w _ b hb)
  (fun g hg=>by simp only [blk,Option.some.injEq] at hg;omega)
  ⟨w.heap.size,#[],aO,heap_alloc_new w _,hn,by simp,by simp,by simp [RpL]⟩
 refine ⟨_,_,h,_,by simp [Instr.makeMap];rfl,this.2,this.1,?_⟩
 simp only [Rp]
 exact ⟨by simp,aO.symm,w.heap.size,rfl⟩
theorem aUt {ens:Array MapEntry} {vs:List AV} {n:Nat} (hv:RpL h φ n vs (ens.toList.map (·.val))) {j:Nat} {out:Option (Nat×Value)} (hf:aAW ens.toList 0 (some j) out) {x:AV} (hx:vs[j]?=some x) :
  ∃ e,ens[j]?=some e/\out=some (j,e.val)/\Rp h φ n x e.val:=by
 obtain ⟨_,e,h1,h2⟩:=hf
 obtain ⟨u,h3,h4⟩:=hv.get hx
 simp only [Nat.sub_zero] at h1
 rw [List.getElem?_map,h1] at h3
 simp only [Option.map_some,Option.some.injEq] at h3
 subst h3
 exact ⟨e,by simpa using h1,h2,h4⟩
theorem aUu {t kt et:TypeId} (ht:P.underlying t=some (.map kt et)) {ag:Bool} {ls:List LK} (hk:dS P 20 kt=some (ag,ls)) {i:TypeInfo} (hi:P.info? et=some i) {z:Value} (hz:i.zero=some z) {ok:Bool}
  (hG:GOk G h) (hI:Inv h φ w T) (hS:SOk h φ T.length s a) {m k:Operand} {x:AV} {T':Tab} (he:hop T (evO G s) (.lku ag ls z m k ok)=some (x,T')) :
  T'=T/\∃ v,(Instr.lookup t (a.eval m) (a.eval k) ok).run P w=.ok v w/\Rp h φ T.length x v:=by
 have hm:=bP hG hS m
 have hkv:=bP hG hS k
 simp only [hop] at he
 split at he
 ·rename_i ks vs kc hmap hkc
  obtain ⟨hku,b,hb⟩:=aHZ hkv hkc
  have hck:∀ em,(Instr.checkKey em 10000 kt (a.eval k)).run P w=.ok () w:=fun em=>by rw [hku];exact aPo 20 kt ag ls hk 10000 (by omega) kc b hb
  have hzr:(zeroValue et).run P w=.ok z w:=by simp [zeroValue,typeInfo,hi,hz]
  have hen:∃ ens:Array MapEntry,ens.toList.map (·.key)=ks.map (fD ag)/\RpL h φ T.length vs (ens.toList.map (·.val)) /\
    ∀ out,(Instr.findKey kt (a.eval k) ens.toList).run P w=.ok out w->(Instr.lookup t (a.eval m) (a.eval k) ok).run P w=.ok (match out with | some (_,v)=>if ok then .tuple #[v,.bool true] else v | none=>if ok then .tuple #[z,.bool false] else z) w:=by
   unfold aVZ at hmap
   split at hmap
   ·rename_i hev
    injection hmap with hmap
    injection hmap with e1 e2
    subst e1;subst e2
    refine ⟨#[],rfl,by simp [RpL],fun out hout=>?_⟩
    have:out=none:=by
     have:(Instr.findKey kt (a.eval k) []).run P w=.ok none w:=by
      obtain ⟨o,h1,h2⟩:=sO (w:=w) (kc:=kc) (ens:=[]) (ks:=[]) (r:=none) hk (by decide) rfl rfl
      rw [hku,h2];simp only [aAW] at h1;rw [h1]
     rw [this] at hout
     injection hout with hout _
     exact hout.symm
    subst this
    rw [iV hG hS hev]
    have hf:(Instr.findKey kt (a.eval k) (#[]:Array MapEntry).toList).run P w=.ok none w:=hout
    simp [Instr.lookup,run_underlying ht,hck,hf,hzr]
   ·rename_i i hev
    split at hmap
    ·rename_i ag' ks' vs' bs cl hg
     split at hmap
     ·rename_i hag
      subst hag
      injection hmap with hmap
      injection hmap with e1 e2
      subst e1;subst e2
      obtain ⟨g,ens,h1,h2,h3,h4,h5,h6⟩:=yX hI hg
      refine ⟨ens,h4,h6,fun out hout=>?_⟩
      rw [hev] at hm;simp only [Rp] at hm
      rw [hm.2.1,h1]
      cases out with
      | none=>simp [Instr.lookup,run_underlying ht,gN h2,hck,hout,hzr]
      | some p=>simp [Instr.lookup,run_underlying ht,gN h2,hck,hout]
     ·simp at hmap
    ·simp at hmap
   ·simp at hmap
  obtain ⟨ens,hkeys,hvals,hrun⟩:=hen
  split at he
  ·rename_i hf
   injection he with he;injection he with e1 e2;subst e1;subst e2
   obtain ⟨out,h1,h2⟩:=sO (w:=w) hk (by decide) hkeys hf
   simp only [aAW] at h1
   subst h1
   refine ⟨rfl,_,hrun none (by rw [hku];exact h2),?_⟩
   cases ok<;>simp [Rp,RpL]
  ·rename_i j hf
   split at he
   ·rename_i y hy
    injection he with he;injection he with e1 e2;subst e1;subst e2
    obtain ⟨out,h1,h2⟩:=sO (w:=w) hk (by decide) hkeys hf
    obtain ⟨e,h3,h4,h5⟩:=aUt hvals h1 hy
    subst h4
    refine ⟨rfl,_,hrun _ (by rw [hku];exact h2),?_⟩
    cases ok
    ·simpa using h5
    ·simp only [if_true,Rp,RpL]
     exact ⟨_,rfl,_,_,rfl,h5,_,_,rfl,rfl,rfl⟩
   ·simp at he
  ·simp at he
 ·simp at he
theorem aPq {ls:List LK} {kc:List Value}:∀ (ks:List (List Value)) (i:Nat) {j:Nat},jV ls kc ks i=some (some j)->i<=j
 | [],i,j,h=>by simp [jV] at h
 | k::ks,i,j,h=>by
  simp only [jV] at h
  split at h
  ·simp only [Option.some.injEq] at h;omega
  ·have:=aPq ks (i+1) h;omega
  ·simp at h
theorem aIJ {ls:List LK} {kc:List Value}:∀ (ks:List (List Value)) (i:Nat) {j:Nat},jV ls kc ks i=some (some j)->∀ {k':List Value},ks[j-i]?=some k'->eqV ls kc k'=some true
 | [],i,j,h,k',_=>by simp [jV] at h
 | k::ks,i,j,h,k',hk=>by
  simp only [jV] at h
  split at h
  ·rename_i hb
   simp only [Option.some.injEq] at h
   subst h
   simp only [Nat.sub_self,List.getElem?_cons_zero,Option.some.injEq] at hk
   subst hk
   exact hb
  ·have hij:=aPq ks (i+1) h
   rw [show j-i=(j-(i+1))+1 from by omega,List.getElem?_cons_succ] at hk
   exact aIJ ks (i+1) h hk
  ·simp at h
theorem iM (ens:Array MapEntry) (j:Nat) (f:MapEntry->MapEntry):(ens.modify j f).toList=ens.toList.modify j f:=by simp
theorem aAX (l:List MapEntry) (j:Nat) (f:MapEntry->MapEntry) (hf:∀ e,l[j]?=some e->(f e).key=e.key):(l.modify j f).map (·.key)=l.map (·.key):=by
 apply List.ext_getElem?
 intro i
 rw [List.getElem?_map,List.getElem?_map,List.getElem?_modify]
 split
 ·rename_i hij;subst hij
  cases he:l[j]? with
  | none=>rfl
  | some e=>simp [hf e he]
 ·simp
theorem rR (l:List MapEntry) (j:Nat) (f:MapEntry->MapEntry) (hf:∀ e,(f e).born=e.born):(l.modify j f).map (·.born)=l.map (·.born):=by
 apply List.ext_getElem?
 intro i
 rw [List.getElem?_map,List.getElem?_map,List.getElem?_modify]
 split
 ·cases he:l[i]? with
  | none=>rfl
  | some e=>simp [hf]
 ·simp
theorem aAY (l:List MapEntry) (j:Nat) (f:MapEntry->MapEntry) (v:Value) (hf:∀ e,(f e).val=v):(l.modify j f).map (·.val)=(l.map (·.val)).set j v:=by
 apply List.ext_getElem?
 intro i
 rw [List.getElem?_map,List.getElem?_modify,List.getElem?_set,List.getElem?_map]
 split
 ·rename_i hij;subst hij
  cases he:l[j]? with
  | none=>simp [List.getElem?_eq_none_iff.1 he]
  | some e =>
   have:j<l.length:=(List.getElem?_eq_some_iff.1 he).1
   simp [hf,this]
 ·simp
theorem RpL.setv {n:Nat} {vs:List AV} {us:List Value} (hr:RpL h φ n vs us) {j:Nat} {x:AV} {v:Value} (hx:Rp h φ n x v):RpL h φ n (vs.set j x) (us.set j v) :=
 RpL.mk (by simp [hr.length]) fun i c u hc hu=>by
  rw [List.getElem?_set] at hc hu
  rw [hr.length] at hc
  split at hc
  ·rename_i hij
   rw [if_pos hij] at hu
   split at hc
   ·rename_i hl
    rw [if_pos hl] at hu
    injection hc with hc;injection hu with hu
    subst hc;subst hu;exact hx
   ·simp at hc
  ·rename_i hij
   rw [if_neg hij] at hu
   obtain ⟨u',h1,h2⟩:=hr.get hc
   rw [hu] at h1;injection h1 with h1;subst h1;exact h2
theorem aMB {t kt et:TypeId} (ht:P.underlying t=some (.map kt et)) {ag:Bool} {ls:List LK} (hk:dS P 20 kt=some (ag,ls))
  (hG:GOk G h) (hI:Inv h φ w T) (hS:SOk h φ T.length s a) {m k q:Operand} {x:AV} {T':Tab} (he:hop T (evO G s) (.mup ag ls m k q)=some (x,T')) :
  ∃ w',(Instr.mapUpdate t (a.eval m) (a.eval k) (a.eval q)).run P w=.ok () w'/\x=.v undef/\Evo h φ T w h φ T' w'/\Inv h φ w' T':=by
 have hm:=bP hG hS m
 have hkv:=bP hG hS k
 have hq:=bP hG hS q
 simp only [hop] at he
 split at he
 ·rename_i i hev
  rw [hev] at hm;simp only [Rp] at hm
  split at he
  ·rename_i ag' ks vs bs cl kc hg hkc
   split at he
   ·rename_i hag
    subst hag
    obtain ⟨hku,b,hb⟩:=aHZ hkv hkc
    have hck:∀ em,(Instr.checkKey em 10000 kt (a.eval k)).run P w=.ok () w:=fun em=>by rw [hku];exact aPo 20 kt ag ls hk 10000 (by omega) kc b hb
    obtain ⟨g,ens,h1,h2,h3,h4,h5,h6⟩:=yX hI hg
    rw [hm.2.1,h1]
    split at he
    ·rename_i hf
     injection he with he;injection he with e1 e2;subst e1;subst e2
     obtain ⟨out,f1,f2⟩:=sO (w:=w) hk (by decide) h4 hf
     simp only [aAW] at f1
     subst f1
     rw [<-hku] at f2
     have hset:=yY hI hg h1 h2 (ens':=ens.push { key:=a.eval k,val:=a.eval q,born:=cl }) (ks':=ks++[kc]) (vs':=vs++[evO G s q]) (bs':=bs++[cl]) (cl':=cl+1)
      (by simp [h4,hku]) (by simp [h5]) (by simp only [Array.toList_push,List.map_append,List.map_cons,List.map_nil];exact h6.app (by simp [RpL,hq]))
     exact ⟨_,by simp [Instr.mapUpdate,run_underlying ht,gN h2,hck,f2,nP _ h2],rfl,hset.2,hset.1⟩
    ·rename_i j hf
     injection he with he;injection he with e1 e2;subst e1;subst e2
     obtain ⟨out,f1,f2⟩:=sO (w:=w) hk (by decide) h4 hf
     obtain ⟨_,e,f3,f4⟩:=f1
     subst f4
     rw [<-hku] at f2
     simp only [Nat.sub_zero] at f3
     have hek:e.key=a.eval k:=by
      have hkj:(ks.map (fD ag))[j]?=some e.key:=by rw [<-h4,List.getElem?_map,f3];rfl
      rw [List.getElem?_map] at hkj
      cases hkk:ks[j]? with
      | none=>simp [hkk] at hkj
      | some k' =>
       simp only [hkk,Option.map_some,Option.some.injEq] at hkj
       have:eqV ls kc k'=some true:=aIJ ks 0 hf (by simpa using hkk)
       rw [<-hkj,hku,aAV this]
     have f3':ens[j]?=some e:=by simpa using f3
     have hst:(Instr.keyThatStays e.key (a.eval k)).run P w=.ok (a.eval k) w:=by
      rw [hek,hku];exact aPp hb (aBX (P:=P) (w:=w) 20 kt ag ls hk).1
     have hset:=yY hI hg h1 h2 (ens':=ens.modify j fun e=>{ e with key:=a.eval k,val:=a.eval q }) (ks':=ks) (vs':=vs.set j (evO G s q)) (bs':=bs) (cl':=cl)
      (by rw [iM,aAX _ _ _ (fun e' he'=>by rw [f3] at he';injection he' with he';subst he';exact hek.symm)];exact h4)
      (by rw [iM,rR ens.toList j (fun e=>{ e with key:=a.eval k,val:=a.eval q }) (fun _=>rfl)];exact h5)
      (by rw [iM,aAY ens.toList j (fun e=>{ e with key:=a.eval k,val:=a.eval q }) (a.eval q) (fun _=>rfl)];exact h6.setv hq)
     exact ⟨_,by simp [Instr.mapUpdate,run_underlying ht,gN h2,hck,f2,f3',hst,nP _ h2],rfl,hset.2,hset.1⟩
    ·simp at he
   ·simp at he
  ·simp at he
 ·simp at he
theorem aRo {t kt et ty:TypeId} (ht:P.underlying t=some (.map kt et)) {ts:Array TypeId} (hts:ts[0]?=some t)
  (hG:GOk G h) (hI:Inv h φ w T) (hS:SOk h φ T.length s a) {p:Operand} {x:AV} {T':Tab} (he:hop T (evO G s) (.lenM p)=some (x,T')) :
  T'=T/\∃ v,(Builtin.len_ ts ty #[a.eval p]).run P w=.ok v w/\Rp h φ T.length x v:=by
 have hp:=bP hG hS p
 simp only [hop] at he
 split at he
 ·rename_i hev
  injection he with he;injection he with e1 e2;subst e1;subst e2
  rw [iV hG hS hev]
  exact ⟨rfl,goInt 0,by simp [Builtin.len_,hts,run_underlying ht],by simp [Rp,goInt]⟩
 ·rename_i i hev
  rw [hev] at hp;simp only [Rp] at hp
  split at he
  ·rename_i ag ks vs bs cl hg
   injection he with he;injection he with e1 e2;subst e1;subst e2
   obtain ⟨g,ens,h1,h2,h3,h4,h5,h6⟩:=yX hI hg
   have hl:ens.size=ks.length:=by
    have:=congrArg List.length h4
    simpa using this
   rw [hp.2.1,h1]
   exact ⟨rfl,goInt ens.size,by simp [Builtin.len_,hts,run_underlying ht,gN h2],by simp [Rp,goInt,hl]⟩
  ·simp at he
 ·simp at he
end
end
section
section
variable {P:Program} {G:Nat->Option (List AV)} {h:GH} {φ:Nat->Value} {T:Tab} {w:World} {s:List (Nat×AV)} {a:Act}
theorem aRp {t e:TypeId} (ht:P.underlying t=some (.slice e)) {i:TypeInfo} (hi:P.info? e=some i)
  (hI:Inv h φ w T) {ev:Operand->AV} {x:AV} {T':Tab} (he:hop T ev (.bsl i.size [] [] 0)=some (x,T')) :
  fE h φ T w ((Instr.buildSlice t 0 #[]).run P w) x T':=by
 simp only [hop,List.map_nil,aFf,List.all_nil,if_true,oQ,Option.some.injEq,Prod.mk.injEq] at he
 obtain ⟨rfl,rfl⟩:=he
 have hrun:(Instr.buildSlice t 0 #[]).run P w=.ok (.slice (some ⟨w.heap.size,0,none⟩) 0 0) (w.alloc (.cells #[] e)):=by
  simp [Instr.buildSlice,run_underlying ht,Go.sizeOf,typeInfo,hi,newRow,Instr.fill,Array.range_zero']
 rw [hrun]
 exact aSW (n:=0) (c:=0) (es:=[]) (k:=i.size) hI rfl rfl rfl rfl (fun d hd=>absurd hd (by simp)) rfl (Nat.le_refl _) (Nat.zero_le _) (by simp) (by simp [bC]) e
theorem aRq (h:GH):∀ us:List Value,bC h (us.map .v) us
 | []=>by simp [bC]
 | u::us=>by simp only [List.map_cons,bC];exact ⟨u,us,rfl,by simp [RpD],aRq h us⟩
theorem aIK (z:Array Value) (n m:Nat) (hz:0<z.size) (hnm:n<=m):(madeCells z (m*z.size)).toList.take (n*z.size)=(List.replicate n z.toList).flatten:=by
 have key:∀ n,(List.replicate n z.toList).flatten=aDV z.toList n:=by
  intro n
  induction n with
  | zero=>rfl
  | succ n ih=>simp [List.replicate_succ,aDV,ih]
 rw [key]
 apply List.ext_getElem?
 intro j
 have hle:n*z.size<=m*z.size:=Nat.mul_le_mul_right _ hnm
 by_cases hj:j<n*z.size
 ·have hm:j<m*z.size:=by omega
  rw [List.getElem?_take,if_pos hj,Array.getElem?_toList,madeCells,Array.getElem?_map,Array.getElem?_range,if_pos hm,aIB z.toList (by simpa using hz) n j (by simpa using hj)]
  have hmod:j%z.size<z.size:=Nat.mod_lt _ hz
  simp [getElem!_pos z (j%z.size) hmod,hmod]
 ·rw [List.getElem?_take,if_neg hj,List.getElem?_eq_none]
  rw [aDX]
  simpa using hj
theorem aUv {t e:TypeId} (ht:P.underlying t=some (.slice e)) {i:TypeInfo} (hi:P.info? e=some i) {z:Value} (hz:i.zero=some z) (hzs:z.cells.size=i.size) (h0:0<i.size) (hcl:(z.cells.toList.all fun x=>aP (.v x))=true)
  (hG:GOk G h) (hI:Inv h φ w T) (hS:SOk h φ T.length s a) {p q:Operand} {x:AV} {T':Tab} (he:hop T (evO G s) (.mks i.size z.cells.toList i.bytes p q)=some (x,T')) :
  fE h φ T w ((Instr.makeSlice t (a.eval p) (a.eval q)).run P w) x T':=by
 simp only [hop] at he
 split at he
 ·rename_i n c hp hq
  split at he
  ·rename_i hc
   obtain ⟨c1,c2,c3,c4⟩:=hc
   injection he with he;injection he with e1 e2;subst e1;subst e2
   have hc4:c<=9223372036854775807:=by have:=c4;simp only [maxLen] at this;omega
   rw [iV hG hS hp,iV hG hS hq,run_make w t e i z ht hi hz .i64 .i64 n c c1 c2 (by rw [Int.mul_comm];omega) hc4]
   have hcn:n.toNat<=c.toNat:=by omega
   have hcm:c.toNat<=maxLen:=by omega
   refine aSW hI rfl rfl rfl rfl (fun d hd=>?_) (List.length_replicate) hcn hcm ?_ ?_ e
   ·rw [(List.mem_replicate.1 hd).2]
    refine ⟨by simp [hzs],fun y hy=>?_⟩
    obtain ⟨u,hu,rfl⟩:=List.mem_map.1 hy
    exact List.all_eq_true.1 hcl u hu
   ·rw [size_madeCells]
   ·rw [<-hzs,aIK z.cells _ _ (by omega) hcn]
    have:(List.replicate n.toNat (z.cells.toList.map AV.v)).flatten=((List.replicate n.toNat z.cells.toList).flatten).map AV.v:=by
     simp [List.map_flatten,List.map_replicate]
    rw [this]
    exact aRq h _
  ·simp at he
 ·simp at he
def aPr (h:GH) (b:Nat) (cs:Array Value):GH:=fun g=>if g=b then some cs else h g
theorem aUw {w':World} (hI:Inv h φ w T) (hos:w'.os=w.os) (htp:w'.tape=w.tape) (hout:w'.output=w.output) (hsz:w.heap.size<=w'.heap.size)
  (hb:∀ b,b<w.heap.size->w'.heap[b]?=w.heap[b]?) {cs:Array Value} {E:TypeId} {fr:Nat×Nat} (hn:w'.heap[w.heap.size]?=some (.cells cs E fr)) (hdr:w.drawn<=w'.drawn) :
  Inv (aPr h w.heap.size cs) φ w' T/\Evo h φ T w (aPr h w.heap.size cs) φ T w':=by
 have le:GLe h (aPr h w.heap.size cs):=by
  intro b c e
  unfold aPr
  rw [if_neg (by have:=tI hI e;omega)]
  exact e
 have old:∀ i x,T[i]?=some (some x)->i<T.length:=by
  intro i x e
  rcases Nat.lt_or_ge i T.length with hh | hh
  ·exact hh
  ·rw [List.getElem?_eq_none hh] at e;simp at e
 refine ⟨⟨?_,?_,?_⟩,⟨hos,htp,hout,hsz,fun b hb' _=>hb b hb',le,?_,fun _ _=>rfl,fun i o b hi hbl=>.inr ⟨i,o,hi,hbl⟩,Nat.le_refl _,hdr⟩⟩
 ·intro b c e
  unfold aPr at e
  split at e
  ·rename_i hbe;subst hbe;injection e with e;subst e;exact ⟨E,fr,hn⟩
  ·obtain ⟨E',fr',hw⟩:=hI.gh b c e
   exact ⟨E',fr',by rw [hb b (tI hI e)];exact hw⟩
 ·intro i x e
  have h1:=hI.obj i x e
  refine nO h1 le (Nat.le_refl _) (fun _ _=>rfl) (old i x e) fun g hg=>?_
  obtain ⟨h2,h3⟩:=eU h1 hg
  exact ⟨hb g h2,by unfold aPr;rw [if_neg (by omega)];exact h3⟩
 ·exact hI.dis
 ·intro b c e
  unfold aPr at e
  split at e
  ·rename_i hbe;exact .inr (.inl (by omega))
  ·exact .inl e
theorem aIL {h:GH} {b:Nat}:∀ (l:List UInt8) (o:Nat),(∀ j u,l[j]?=some u->mH h b (o+j)=some (.int .u8 u.toNat))->fU h b 1 (l.map fun b=>[.v (.int .u8 b.toNat)]) o
 | [],_,_=>by simp [fU]
 | u::l,o,hh=>by
  simp only [List.map_cons,fU,iU]
  refine ⟨rfl,⟨⟨_,rfl,by simpa using hh 0 u rfl,by simp [RpD]⟩,trivial⟩,aIL l (o+1) fun j v hj=>?_⟩
  have:=hh (j+1) v (by simpa using hj)
  rw [<-this];congr 1;omega
theorem aUx {src d e:TypeId} {u:TypeDesc} (hs:P.underlying src=some u) (hd:P.underlying d=some (.slice e)) (hu8:P.underlying e=some (.int .u8))
  (hG:GOk G h) (hI:Inv h φ w T) (hS:SOk h φ T.length s a) {p:Operand} {x:AV} {T':Tab} (he:hop T (evO G s) (.s2b p)=some (x,T')) :
  fE h φ T w ((convert src d (a.eval p)).run P w) x T':=by
 simp only [hop] at he
 split at he
 ·rename_i sb hp
  split at he
  ·rename_i hc
   injection he with he;injection he with e1 e2;subst e1;subst e2
   rw [iV hG hS hp,Lib.run_convert_string_bytes w src d e sb hs hd hu8]
   obtain ⟨k1,k2⟩:=aUw (w':=Lib.bytesWorld w e sb) hI rfl rfl rfl (by rw [Lib.bytesWorld_size];omega) (fun b hb=>Lib.bytesWorld_at_old w e sb b hb) (Lib.bytesWorld_at_new w e sb) (by simp [Lib.bytesWorld,World.freeze,World.alloc,World.drew,-World.alloc_eq,-World.drew_eq])
   have hl:(iG sb).length=sb.size:=by simp [iG]
   refine ⟨_,_,_,_,rfl,k2,k1,?_⟩
   simp only [Rp,RpD]
   refine ⟨_,_,by rw [hl],by rw [hl];exact grownCap_ge w sb.size 0 e,grownCap_le_maxLen w sb.size 0 e hc,.inr ⟨_,0,rfl,?_⟩⟩
   refine aIL _ 0 fun j u hj=>?_
   have hjs:j<sb.data.size:=by
    rcases Nat.lt_or_ge j sb.data.size with hh | hh
    ·exact hh
    ·rw [List.getElem?_eq_none (by simpa using hh)] at hj;simp at hj
   have hju:sb.data[j]?=some u:=by simpa using hj
   simp only [mH,aPr,if_true,Option.bind_some,Nat.zero_add,Lib.bytesCells]
   rw [Array.getElem?_append_left (by simpa using hjs),Array.getElem?_map,hju]
   rfl
  ·simp at he
 ·simp at he
end
end
section
section
variable {P:Program} {G:Nat->Option (List AV)} {h:GH} {φ:Nat->Value} {T:Tab} {w:World} {s:List (Nat×AV)} {a:Act}
theorem aRr {T:Tab} {k:Nat} {x:AV} {es:List (List AV)} (e:aNO T k x=some es):aUm T k x=some (es,true):=by
 unfold aNO at e
 unfold aUm
 split at e
 ·split at e
  ·rename_i hk;subst hk;injection e with e;subst e;simp
  ·simp at e
 ·split at e
  ·rename_i hg
   simp only [hg,mI]
   split at e
   ·rename_i hk;subst hk;injection e with e;subst e;simp
   ·simp at e
  ·simp at e
 ·injection e with e;subst e;rfl
 ·split at e
  ·rename_i hg
   simp only [hg,mI]
   split at e
   ·rename_i hk;obtain ⟨rfl,rfl,hk⟩:=hk;injection e with e;subst e;simp [hk]
   ·simp at e
  ·simp at e
 ·simp at e
theorem aPs {h:GH}:∀ {es:List (List AV)} {l:List UInt8} {us:List Value},aGm es=some l->bC h es.flatten us->∃ ns:List Int,us=ns.map (Value.int .u8)/\l=ns.map fun n=>UInt8.ofNat n.toNat
 | [],l,us,e,hu=>by
  simp only [aGm,Option.some.injEq] at e
  simp only [List.flatten_nil,bC] at hu
  subst e;subst hu
  exact ⟨[],rfl,rfl⟩
 | [.v (.int .u8 n)]::r,l,us,e,hu=>by
  simp only [aGm] at e
  split at e
  ·rename_i l' hl
   injection e with e
   subst e
   simp only [List.flatten_cons,List.cons_append,List.nil_append,bC,RpD] at hu
   obtain ⟨u,us',rfl,rfl,h2⟩:=hu
   obtain ⟨ns,h3,h4⟩:=aPs hl h2
   exact ⟨n::ns,by simp [h3],by simp [h4]⟩
  ·simp at e
theorem aIM:∀ (ns:List Int) (s:ByteArray),ns.foldl (fun r n=>r.push (UInt8.ofNat n.toNat)) s=⟨(s.data.toList++ns.map fun n=>UInt8.ofNat n.toNat).toArray⟩
 | [],s=>by simp
 | n::ns,s=>by
  rw [List.foldl_cons,aIM ns]
  congr 1
  simp [ByteArray.push]
theorem aUy {src d e:TypeId} (hs:P.underlying src=some (.slice e)) (hd:P.underlying d=some .string) (hu8:P.underlying e=some (.int .u8))
  (hG:GOk G h) (hI:Inv h φ w T) (hS:SOk h φ T.length s a) {p:Operand} {x:AV} {T':Tab} (he:hop T (evO G s) (.b2s p)=some (x,T')) :
  T'=T/\∃ v,(convert src d (a.eval p)).run P w=.ok v w/\Rp h φ T.length x v:=by
 have hp:=bP hG hS p
 simp only [hop] at he
 split at he
 ·rename_i es hes
  split at he
  ·rename_i l hl
   injection he with he;injection he with e1 e2;subst e1;subst e2
   obtain ⟨hnew,A,c,news,hu,hnl,hcells⟩:=aW6 hI hp (aRr hes)
   obtain ⟨ns,h1,h2⟩:=aPs hl hnl
   refine ⟨rfl,.string ⟨l.toArray⟩,?_,by simp [Rp]⟩
   rw [hu,run_convert_bytes_string w src d e _ _ _ hs hu8 hd]
   have hlen:ns.length=es.length:=by
    have:=hnl.length
    rw [tH fun d hd=>(hnew d hd).1,h1] at this
    simpa using this.symm
   cases A with
   | none =>
    rcases hcells with rfl | ⟨b,o,hA,_⟩
    ·have:ns=[]:=List.eq_nil_of_length_eq_zero (by simpa using hlen)
     subst this
     subst h2
     simp [Conv.bytesToString]
     rfl
    ·simp at hA
   | some A =>
    have hload:(loadCells A es.length).run P w=.ok (ns.map (Value.int .u8)).toArray w:=by
     rcases hcells with rfl | ⟨b,o,hA,hc⟩
     ·have:ns=[]:=List.eq_nil_of_length_eq_zero (by simpa using hlen)
      subst this
      simp [loadCells,loadCellsFrom]
     ·injection hA with hA
      subst hA
      rw [<-h1]
      have hnn:es.length=news.length:=by rw [h1];simpa using hlen.symm
      rw [hnn]
      exact run_loadCells_list w ⟨b,o,none⟩ news fun j v hj=>by rw [dT];exact hc j v hj
    rw [run_bytesToString w A _ _ ns hload,aIM,h2]
    simp
  ·simp at he
 ·simp at he
theorem aNZ (hG:GOk G h) (hS:SOk h φ T.length s a) {o:Operand} {n:Nat} (e:aUd (evO G s o)=some n):∃ k i,a.eval o=.int k i/\0<=i/\n=i.toNat:=by
 unfold aUd at e
 split at e
 ·rename_i k i hx
  split at e
  ·rename_i h0
   injection e with e
   exact ⟨k,i,iV hG hS hx,h0,e.symm⟩
  ·simp at e
 ·simp at e
theorem tK {t e:TypeId} (ht:P.underlying t=some (.slice e)) {k:Nat} (hk:kL P e=some k) {A:Option Addr} {len cap l m x:Nat} {lo:Option Value} (hl:Bnd lo 0 l) {k1 k2:IntKind} {i1 i2:Int} (hm:0<=i1/\m=i1.toNat) (hx:0<=i2/\x=i2.toNat) (h1:l<=m) (h2:m<=x) (h3:x<=cap) :
  (Instr.sliceAt t (.slice A len cap) lo (some (.int k1 i1)) (some (.int k2 i2))).run P w=.ok (.slice (if x=l then A else A.map (·.add (l*k))) (m-l) (x-l)) w:=by
 obtain ⟨hm0,rfl⟩:=hm
 obtain ⟨hx0,rfl⟩:=hx
 rcases hl with ⟨rfl,rfl⟩ | ⟨k',i,rfl,h0,rfl⟩
 ·simp [Instr.sliceAt,Instr.slice,run_underlying ht,Instr.sliceBounds,dU hx0 h3,dU hm0 h2,lJ hk]
 ·simp [Instr.sliceAt,Instr.slice,run_underlying ht,Instr.sliceBounds,dU hx0 h3,dU hm0 h2,dU h0 h1,lJ hk]
theorem xM (hI:Inv h φ w T) (A:Option Addr) (k:Nat):fE h φ T w (.ok (.slice A 0 0) w) (.own T.length) (T++[some (.arr k [])]):=by
 have:=nI (w':=w) (o:=.arr k []) (v:=.slice A 0 0) hI rfl rfl rfl (Nat.le_refl _) (fun _ _=>rfl) (fun g hg=>by cases A<;>simp [blk] at hg) ⟨by simp,.inl ⟨A,aO,rfl⟩⟩
 refine ⟨_,w,h,_,rfl,this.2,this.1,?_⟩
 simp only [Rp]
 exact ⟨by simp,aO.symm,_,_,_,rfl⟩
theorem aAZ (hI:Inv h φ w T) {r:Result Value} {v:Value} {x:AV} (hr:r=.ok v w) (hx:Rp h φ T.length x v):fE h φ T w r x T:=⟨v,w,h,φ,hr,Evo.refl,hI,hx⟩
theorem aUz {t e:TypeId} (ht:P.underlying t=some (.slice e)) {k:Nat} (hk:kL P e=some k)
  (hG:GOk G h) (hI:Inv h φ w T) (hS:SOk h φ T.length s a) {p:Operand} {lo:Option Operand} {hi mx:Operand} {x:AV} {T':Tab} (he:hop T (evO G s) (.slx p lo hi mx k)=some (x,T')) :
  fE h φ T w ((Instr.sliceAt t (a.eval p) (lo.map a.eval) (some (a.eval hi)) (some (a.eval mx))).run P w) x T':=by
 have hp:=bP hG hS p
 simp only [hop] at he
 split at he
 ·rename_i l m y hl hm hy
  obtain ⟨k1,i1,m1,m2,m3⟩:=aNZ hG hS hm
  obtain ⟨k2,i2,y1,y2,y3⟩:=aNZ hG hS hy
  have hl':Bnd (lo.map a.eval) 0 l:=by
   cases lo with
   | none=>simp only [Option.some.injEq] at hl;exact .inl ⟨rfl,hl.symm⟩
   | some o=>obtain ⟨k',i',l1,l2,l3⟩:=aNZ hG hS hl;exact .inr ⟨k',i',by simp [l1],l2,l3⟩
  rw [m1,y1]
  split at he
  ·rename_i k' es hev
   rw [hev] at hp;simp only [Rp,RpD] at hp
   obtain ⟨A,c,hu,h1,h2,h3⟩:=hp
   split at he
   ·rename_i hc
    obtain ⟨rfl,hlm,hmy,hye⟩:=hc
    rw [hu,tK ht hk hl' ⟨m2,m3⟩ ⟨y2,y3⟩ hlm hmy (by omega)]
    split at he
    ·rename_i hyl
     injection he with he;injection he with e1 e2;subst e1;subst e2
     rw [show m-l=0 by omega,show y-l=0 by omega]
     exact xM hI _ _
    ·injection he with he;injection he with e1 e2;subst e1;subst e2
     refine aAZ hI rfl ?_
     have hlen:((es.drop l).take (m-l)).length=m-l:=by rw [List.length_take,List.length_drop];omega
     simp only [Rp,RpD]
     refine ⟨_,y-l,by rw [hlen],by rw [hlen];omega,by omega,?_⟩
     by_cases h0:m-l=0
     ·exact .inl (by rw [h0];simp)
     ·rcases h3 with rfl | ⟨b,o,rfl,hE⟩
      ·simp at hye;omega
      ·refine .inr ⟨b,o+l*k,by rw [if_neg (by omega)];simp [dT],?_⟩
       exact (hE.drop l).take _
   ·simp at he
  ·rename_i i hev
   rw [hev] at hp;simp only [Rp] at hp
   split at he
   ·rename_i k' es hg
    split at he
    ·rename_i hc
     obtain ⟨rfl,hlm,hmy,hye⟩:=hc
     obtain ⟨_,h1 | ⟨g,c,cur,E,hφ,_,h2,h3,_⟩⟩:=sZ hI hg
     ·obtain ⟨A,h1,rfl⟩:=h1
      rw [hp.2.1,h1]
      simp only [List.length_nil] at hye
      rw [tK ht hk hl' ⟨m2,m3⟩ ⟨y2,y3⟩ hlm hmy (by omega)]
      rw [if_pos (by omega)] at he
      injection he with he;injection he with e1 e2;subst e1;subst e2
      rw [show m-l=0 by omega,show y-l=0 by omega]
      exact xM hI _ _
     ·rw [hp.2.1,hφ,tK ht hk hl' ⟨m2,m3⟩ ⟨y2,y3⟩ hlm hmy (by omega)]
      split at he
      ·injection he with he;injection he with e1 e2;subst e1;subst e2
       rw [show m-l=0 by omega,show y-l=0 by omega]
       exact xM hI _ _
      ·injection he with he;injection he with e1 e2;subst e1;subst e2
       refine aAZ hI rfl ?_
       simp only [Rp]
       refine ⟨hp.1,_,_,rfl,by omega,by omega,?_⟩
       by_cases h0:m-l=0
       ·exact .inl h0
       ·exact .inr ⟨g,_,c+1,hφ,by rw [if_neg (by omega)];simp [dT],by omega⟩
    ·simp at he
   ·simp at he
  ·rename_i i k' lo' n hev
   rw [hev] at hp;simp only [Rp] at hp
   obtain ⟨hi0,A,c,hu,h1,h2,h3⟩:=hp
   split at he
   ·rename_i hc
    obtain ⟨rfl,hlm,hmy,hye⟩:=hc
    rw [hu,tK ht hk hl' ⟨m2,m3⟩ ⟨y2,y3⟩ hlm hmy (by omega)]
    split at he
    ·injection he with he;injection he with e1 e2;subst e1;subst e2
     rw [show m-l=0 by omega,show y-l=0 by omega]
     exact xM hI _ _
    ·injection he with he;injection he with e1 e2;subst e1;subst e2
     refine aAZ hI rfl ?_
     simp only [Rp]
     refine ⟨hi0,_,_,rfl,by omega,by omega,?_⟩
     by_cases h0:m-l=0
     ·exact .inl h0
     ·rcases h3 with rfl | ⟨g,l',c',hφ,rfl,h4⟩
      ·omega
      ·exact .inr ⟨g,l',c',hφ,by rw [if_neg (by omega)];simp [dT,Nat.add_mul],by omega⟩
   ·simp at he
  ·rename_i hev
   split at he
   ·rename_i hc
    obtain ⟨rfl,rfl,rfl⟩:=hc
    injection he with he;injection he with e1 e2;subst e1;subst e2
    rw [iV hG hS hev,tK ht hk hl' ⟨m2,m3⟩ ⟨y2,y3⟩ (Nat.le_refl _) (Nat.le_refl _) (Nat.le_refl _)]
    exact xM hI _ _
   ·simp at he
  ·simp at he
 ·simp at he
end
end
end Hud
