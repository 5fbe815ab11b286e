import Derived.Test.YthlndebkfkanbaaGreatDoorLib04
import Derived.Lib.ConvBytes
import Derived.Laws.BytesString
import Derived.Laws.MakeOwn
set_option linter.all false
namespace Hud
open Go
section
section
variable {P:Program} {G:Nat→Option (List AV)} {h:GH} {φ:Nat→Value} {T:aQ} {w:World} {s:List (Nat×AV)} {a:Act}
def Bnd (o:Option Value) (d n:Nat):Prop:=(o=none∧n=d)∨∃ k i,o=some (.int k i)∧0≤i∧n=i.toNat
def gC {k:IntKind} {i:Int} {y:Nat} {c:BoundsCode} (h0:0≤i) (h1:i.toNat≤y):(Instr.sliceBound (.int k i) y c).run P w=.ok i.toNat w:=by
 have:0≤i∧i≤y:=⟨h0,by omega⟩
 simp [Instr.sliceBound,asIntOf,this]
def CM {b:Bool} {len cap l m:Nat} {lo hi:Option Value} (hl:Bnd lo 0 l) (hh:Bnd hi len m) (h1:l≤m) (h2:m≤cap):(Instr.sliceBounds b len cap lo hi none).run P w=.ok (l,m,cap) w:=by
 rcases hl with ⟨rfl,rfl⟩ | ⟨k,i,rfl,h0,rfl⟩<;>rcases hh with ⟨rfl,rfl⟩ | ⟨k',i',rfl,h0',rfl⟩
 ·simp [Instr.sliceBounds]
 ·simp [Instr.sliceBounds,gC h0' h2]
 ·simp [Instr.sliceBounds,gC h0 h1]
 ·simp [Instr.sliceBounds,gC h0 h1,gC h0' h2]
def Ap {t e:TypeId} (ht:P.underlying t=some (.slice e)) {k:Nat} (hk:mU P e=some k) {A:Option Addr} {len cap l m:Nat} {lo hi:Option Value} (hl:Bnd lo 0 l) (hh:Bnd hi len m) (h1:l≤m) (h2:m≤cap) :
  (Instr.sliceAt t (.slice A len cap) lo hi none).run P w=.ok (.slice (if cap=l then A else A.map (·.add (l*k))) (m-l) (cap-l)) w:=by
 simp [Instr.sliceAt,Instr.slice,run_underlying ht,CM hl hh h1 h2,oB hk]
def S9 {t:TypeId} (ht:P.underlying t=some .string) {sb:ByteArray} {l m:Nat} {lo hi:Option Value} (hl:Bnd lo 0 l) (hh:Bnd hi sb.size m) (h1:l≤m) (h2:m≤sb.size) :
  (Instr.sliceAt t (.string sb) lo hi none).run P w=.ok (.string (sb.extract l m)) w:=by
 simp [Instr.sliceAt,Instr.slice,run_underlying ht,CM hl hh h1 h2]
def nO (ev:Operand→AV) (o:Option Operand) (d:Nat):Option Nat:=match o with
 | none=>some d
 | some o=>match ev o with
  | .v (.int _ n)=>if 0≤n then some n.toNat else none
  | _=>none
def mV (hG:rD G h) (hS:rP h φ T.length s a) {o:Option Operand} {d n:Nat} (e:nO (bX G s) o d=some n):Bnd (o.map a.eval) d n:=by
 unfold nO at e;split at e
 ·injection e with e;exact .inl ⟨rfl,e.symm⟩
 ·rename_i x;split at e
  ·rename_i k i hx;split at e
   ·rename_i h0;injection e with e;exact .inr ⟨k,i,by simp [lB hG hS hx],h0,e.symm⟩
   ·simp at e
  ·simp at e
def Wo {t e:TypeId} (ht:P.underlying t=some (.slice e)) {k:Nat} (hk:mU P e=some k)
  (hG:rD G h) (hI:Inv h φ w T) (hS:rP h φ T.length s a) {p:Operand} {lo hi:Option Operand} {x:AV} {T':aQ} (he:bK T (bX G s) (.slc p lo hi k)=some (x,T')) :
  T'=T∧∃ v,(Instr.sliceAt t (a.eval p) (lo.map a.eval) (hi.map a.eval) none).run P w=.ok v w∧Rp h φ T.length x v:=by
 have hp:=dA hG hS p
 change (match bX G s p with
  | .ls k' es=>match nO (bX G s) lo 0,nO (bX G s) hi es.length with
   | some l,some h=>if k=k'∧l≤h∧h≤es.length then some (.ls k ((es.drop l).take (h-l)),T) else none
   | _,_=>none
  | .own a=>match pO (cR T a) with
   | some (k',es,_)=>match nO (bX G s) lo 0,nO (bX G s) hi es.length with
    | some l,some h=>if k=k'∧l≤h∧h≤es.length then some (.vw a k l (h-l),T) else none
    | _,_=>none
   | _=>none
  | .vw a k' lo' m=>match nO (bX G s) lo 0,nO (bX G s) hi m with
   | some l,some h=>if k=k'∧l≤h∧h≤m then some (.vw a k (lo'+l) (h-l),T) else none
   | _,_=>none
  | .v (.slice none 0 0)=>match nO (bX G s) lo 0,nO (bX G s) hi 0 with
   | some l,some h=>if l=0∧h=0 then some (.v (.slice none 0 0),T) else none
   | _,_=>none
  | _=>none)=some (x,T') at he
 split at he
 ·rename_i k' es hev;rw [hev] at hp;simp only [Rp,mB] at hp;obtain ⟨A,c,hu,h1,h2,h3⟩:=hp;split at he
  ·rename_i l m hl hm;split at he
   ·rename_i hc;obtain ⟨rfl,hlm,hme⟩:=hc;injection he with he;injection he with e1 e2;subst e1;subst e2;rw [hu];refine ⟨rfl,_,Ap ht hk (mV hG hS hl) (mV hG hS hm) hlm (by omega),?_⟩;have hlen:((es.drop l).take (m-l)).length=m-l:=by rw [hZ,tT];omega
    simp only [Rp,mB];refine ⟨_,c-l,by rw [hlen],by rw [hlen];omega,by omega,?_⟩;by_cases h0:m-l=0
    ·exact .inl (by rw [h0];simp)
    ·rcases h3 with rfl | ⟨b,o,rfl,hE⟩
     ·simp at hme;omega
     ·refine .inr ⟨b,o+l*k,by rw [if_neg (by omega)];simp [gB],?_⟩;exact (hE.drop l).take _
   ·simp at he
  ·simp at he
 ·rename_i i hev;rw [hev] at hp;simp only [Rp] at hp;split at he
  ·rename_i k' es b hg;split at he
   ·rename_i l m hl hm;split at he
    ·rename_i hc;obtain ⟨rfl,hlm,hme⟩:=hc;injection he with he;injection he with e1 e2;subst e1;subst e2;obtain ⟨_,h1 | ⟨g,c,cur,E,hφ,_,h2,h3,_⟩⟩:=oV hI hg
     ·obtain ⟨A,h1,rfl⟩:=h1;rw [hp.2.1,h1];refine ⟨rfl,_,Ap ht hk (mV hG hS hl) (mV hG hS hm) hlm (by simpa using hme),?_⟩;simp only [Rp];simp only [kI] at hme;exact ⟨hp.1,_,_,rfl,by omega,by omega,.inl (by omega)⟩
     ·rw [hp.2.1,hφ];refine ⟨rfl,_,Ap ht hk (mV hG hS hl) (mV hG hS hm) hlm (by omega),?_⟩;simp only [Rp];refine ⟨hp.1,_,_,rfl,by omega,by omega,?_⟩;by_cases h0:m-l=0
      ·exact .inl h0
      ·exact .inr ⟨g,_,c+1,hφ,by rw [if_neg (by omega)];simp [gB],by omega⟩
    ·simp at he
   ·simp at he
  ·simp at he
 ·rename_i i k' lo' n hev;rw [hev] at hp;simp only [Rp] at hp;obtain ⟨hi0,A,c,hu,h1,h2,h3⟩:=hp;split at he
  ·rename_i l m hl hm;split at he
   ·rename_i hc;obtain ⟨rfl,hlm,hme⟩:=hc;injection he with he;injection he with e1 e2;subst e1;subst e2;rw [hu];refine ⟨rfl,_,Ap ht hk (mV hG hS hl) (mV hG hS hm) hlm (by omega),?_⟩;simp only [Rp];refine ⟨hi0,_,_,rfl,by omega,by omega,?_⟩;by_cases h0:m-l=0
    ·exact .inl h0
    ·rcases h3 with rfl | ⟨g,len,c',hφ,rfl,hle⟩
     ·omega
     ·exact .inr ⟨g,len,c',hφ,by rw [if_neg (by omega)];simp [gB,CW],by omega⟩
   ·simp at he
  ·simp at he
 ·rename_i hev;rw [lB hG hS hev];split at he
  ·rename_i l m hl hm;split at he
   ·rename_i hc;obtain ⟨rfl,rfl⟩:=hc;injection he with he;injection he with e1 e2;subst e1;subst e2;exact ⟨rfl,_,Ap ht hk (mV hG hS hl) (mV hG hS hm) (fW _) (fW _),by simp [Rp]⟩
   ·simp at he
  ·simp at he
 ·simp at he
def TB {t:TypeId} (ht:P.underlying t=some .string)
  (hG:rD G h) (hS:rP h φ T.length s a) {p:Operand} {lo hi:Option Operand} {x:AV} {T':aQ} (he:bK T (bX G s) (.slcS p lo hi)=some (x,T')) :
  T'=T∧∃ v,(Instr.sliceAt t (a.eval p) (lo.map a.eval) (hi.map a.eval) none).run P w=.ok v w∧Rp h φ T.length x v:=by
 change (match bX G s p with
  | .v (.string sb)=>match nO (bX G s) lo 0,nO (bX G s) hi sb.size with
   | some l,some h=>if l≤h∧h≤sb.size then some (.v (.string (sb.extract l h)),T) else none
   | _,_=>none
  | _=>none)=some (x,T') at he
 split at he
 ·rename_i sb hev;rw [lB hG hS hev];split at he
  ·rename_i l m hl hm;split at he
   ·rename_i hc;injection he with he;injection he with e1 e2;subst e1;subst e2;exact ⟨rfl,_,S9 ht (mV hG hS hl) (mV hG hS hm) hc.1 hc.2,by simp [Rp]⟩
   ·simp at he
  ·simp at he
 ·simp at he
def TC (d:TypeDesc) (c:Value):Option Nat :=
 match d,c with
 | .pointer _,.pointer none=>some 0
 | .slice _,.slice none 0 0=>some 1
 | .func _ _ _,.nilFunc=>some 2
 | _,_=>none
def GX:Value→Prop
 | .pointer _=>True
 | .slice _ _ _=>True
 | .nilFunc=>True
 | .func _ _ _=>True
 | _=>False
def xF:∃ d,Op.maxDepth=d+1:=⟨9999,rfl⟩
def Va {t:TypeId} {d:TypeDesc} {c u:Value} {kd:Nat} (hk:TC d c=some kd) {neg b:Bool} {p y:Operand} (h1:(Op.equal t u c).run P w=.ok b w)
  (h2:GX u) :
  (do eqGuard (if neg then .neq else .eql) t p y u c;binOp (if neg then .neq else .eql) t u c).run P w=.ok (.bool (if neg then !b else b)) w:=by
 unfold TC at hk;split at hk
 ·cases u<;>simp only [GX] at h2<;>cases neg<;>simp [eqGuard,binOp,h1]
 ·cases u<;>simp only [GX] at h2<;>cases neg<;>simp [eqGuard,binOp,h1]
 ·cases u<;>simp only [GX] at h2<;>cases neg<;>simp [eqGuard,binOp,h1]
 ·simp at hk
def TD {t:TypeId} {d:TypeDesc} (ht:P.underlying t=some d) {c:Value} {kd:Nat} (hk:TC d c=some kd) {neg:Bool} {p y:Operand}
  (hG:rD G h) (hI:Inv h φ w T) (hS:rP h φ T.length s a) {x:AV} {T':aQ} (he:bK T (bX G s) (.nilS neg kd p)=some (x,T')) :
  T'=T∧∃ v,(do eqGuard (if neg then .neq else .eql) t p y (a.eval p) c;binOp (if neg then .neq else .eql) t (a.eval p) c).run P w=.ok v w∧Rp h φ T.length x v:=by
 have hp:=dA hG hS p;have fin:∀ b:Bool,x=.v (.bool (if neg then !b else b))→(∀ u,u=a.eval p→(∃ g:Nat,(Op.equal t u c).run P w=.ok b w∧GX u)) →
   ∃ v,(do eqGuard (if neg then .neq else .eql) t p y (a.eval p) c;binOp (if neg then .neq else .eql) t (a.eval p) c).run P w=.ok v w∧Rp h φ T.length x v:=by
  intro b hx hrun;obtain ⟨g,h1,h2⟩:=hrun _ rfl;exact ⟨.bool (if neg then !b else b),Va hk h1 h2,by rw [hx];simp [Rp]⟩
 simp only [bK] at he;split at he
 ·rename_i b hb;injection he with he;injection he with e1 e2;subst e1;subst e2;refine ⟨rfl,fin b rfl λu hu=>?_⟩;subst hu;unfold TC at hk;split at hb
  all_goals
   (try injection hb with hb)
   (try subst hb)
  ·rename_i hev;rw [lB hG hS hev];split at hk<;>simp at hk;exact ⟨0,by obtain ⟨d',hd'⟩:=xF;simp [Op.equal,hd',Op.equalIn,run_underlying ht],trivial⟩
  ·rename_i i o hev;rw [hev] at hp;simp only [Rp] at hp;obtain ⟨_,g,_,hu⟩:=hp;rw [hu];split at hk<;>simp at hk;exact ⟨0,by obtain ⟨d',hd'⟩:=xF;simp [Op.equal,hd',Op.equalIn,run_underlying ht],trivial⟩
  ·rename_i i k j o hev;rw [hev] at hp;simp only [Rp] at hp;obtain ⟨_,g,l,cc,_,hu⟩:=hp;rw [hu];split at hk<;>simp at hk;exact ⟨0,by obtain ⟨d',hd'⟩:=xF;simp [Op.equal,hd',Op.equalIn,run_underlying ht],trivial⟩
  ·rename_i cs hev;rw [hev] at hp;simp only [Rp] at hp;obtain ⟨b',o,hu,_⟩:=hp;rw [hu];split at hk<;>simp at hk;exact ⟨0,by obtain ⟨d',hd'⟩:=xF;simp [Op.equal,hd',Op.equalIn,run_underlying ht],trivial⟩
  ·rename_i hev;rw [lB hG hS hev];split at hk<;>simp at hk;exact ⟨1,by obtain ⟨d',hd'⟩:=xF;simp [Op.equal,hd',Op.equalIn,run_underlying ht],trivial⟩
  ·rename_i i hev;split at hb
   ·rename_i k e es b hg;injection hb with hb;subst hb;rw [hev] at hp;simp only [Rp] at hp;obtain ⟨_,h1 | ⟨g,cc,cur,E,hφ,_⟩⟩:=oV hI hg
    ·simp at h1
    ·rw [hp.2.1,hφ];split at hk<;>simp at hk;exact ⟨1,by obtain ⟨d',hd'⟩:=xF;simp [Op.equal,hd',Op.equalIn,run_underlying ht],trivial⟩
   ·simp at hb
  ·rename_i k e es hev;rw [hev] at hp;simp only [Rp,mB] at hp;obtain ⟨A,cc,hu,_,_,h3⟩:=hp;rcases h3 with h3 | ⟨b',o,rfl,_⟩
   ·simp at h3
   ·rw [hu];split at hk<;>simp at hk;exact ⟨1,by obtain ⟨d',hd'⟩:=xF;simp [Op.equal,hd',Op.equalIn,run_underlying ht],trivial⟩
  ·rename_i hev;rw [lB hG hS hev];split at hk<;>simp at hk;exact ⟨2,by obtain ⟨d',hd'⟩:=xF;simp [Op.equal,hd',Op.equalIn,run_underlying ht],trivial⟩
  ·rename_i f cs hev;rw [hev] at hp;simp only [Rp] at hp;obtain ⟨us,hu,_⟩:=hp;rw [hu];split at hk<;>simp at hk;exact ⟨3,by obtain ⟨d',hd'⟩:=xF;simp [Op.equal,hd',Op.equalIn,run_underlying ht],trivial⟩
  ·simp at hb
 ·simp at he
def Q9 {ts:Array TypeId} {ty:TypeId} {mx:Bool} {p q:Operand}
  (hG:rD G h) (hS:rP h φ T.length s a) {x:AV} {T':aQ} (he:bK T (bX G s) (.mm mx p q)=some (x,T')) :
  T'=T∧∃ v,(if mx then Builtin.max_ ts ty #[a.eval p,a.eval q] else Builtin.min_ ts ty #[a.eval p,a.eval q]).run P w=.ok v w∧Rp h φ T.length x v:=by
 simp only [bK] at he;split at he
 ·rename_i k i k' j h1 h2;split at he
  ·rename_i hk;subst hk;injection he with he;injection he with e1 e2;subst e1;subst e2;rw [lB hG hS h1,lB hG hS h2];cases mx
   ·exact ⟨rfl,_,by simp [Builtin.min_,Builtin.min2];rfl,by simp [Rp]⟩
   ·exact ⟨rfl,_,by simp [Builtin.max_,Builtin.max2];rfl,by simp [Rp]⟩
  ·simp at he
 ·simp at he
end
def Jk (P:Program) (o:Oper):Option HOp :=
 match o.op with
 | .slice t x lo hi none=>match P.underlying t with
  | some (.slice e)=>match mU P e with
   | some k=>some (.slc x lo hi k)
   | none=>none
  | some .string=>some (.slcS x lo hi)
  | _=>none
 | .binOp op t x (.const c) _=>match P.underlying t with
  | some d=>match TC d c with
   | some k=>if op=.eql then some (.nilS false k x) else if op=.neq then some (.nilS true k x) else none
   | none=>none
  | none=>none
 | .call c=>match c.callee,c.args.toList with
  | .builtin .max,[x,y]=>some (.mm true x y)
  | .builtin .min,[x,y]=>some (.mm false x y)
  | _,_=>none
 | _=>none
section
variable {P:Program} {G:Nat→Option (List AV)} {h:GH} {φ:Nat→Value} {w:World} {a:Act} {st:St} {K:AV→aQ→Prop} {next:Act→World→Prop} {Q:Exit→Act→World→Prop}
def ZV {kd:Nat} {x:AV} (he:Oj kd x=true):kd=1∧∃ k,x=.ls k []:=by
 unfold Oj at he;split at he
 ·exact ⟨rfl,_,rfl⟩
 ·simp at he
def Vb {t:TypeId} {d:TypeDesc} (ht:P.underlying t=some d) {c:Value} {kd:Nat} (hk:TC d c=some kd) {neg:Bool} {p y:Operand}
  (hG:rD G h) (hI:Inv h φ w st.T) (hS:rP h φ st.T.length st.s a) (hw:tI P G st (.nilS neg kd p) K) :
  ∃ x,K x st.T∧∃ v,(do eqGuard (if neg then .neq else .eql) t p y (a.eval p) c;binOp (if neg then .neq else .eql) t (a.eval p) c).run P w=.ok v w∧Rp h φ st.T.length x v:=by
 simp only [tI] at hw;split at hw
 ·rename_i hn;obtain ⟨rfl,k,hev⟩:=ZV hn;have hp:=dA hG hS p;rw [hev] at hp;simp only [Rp,mB] at hp;obtain ⟨A,cc,hu,_,_,_⟩:=hp;have fin:∀ b:Bool,(Op.equal t (a.eval p) c).run P w=.ok b w→∃ x,K x st.T∧∃ v,(do eqGuard (if neg then .neq else .eql) t p y (a.eval p) c;binOp (if neg then .neq else .eql) t (a.eval p) c).run P w=.ok v w∧Rp h φ st.T.length x v:=λb hb=>by
   refine ⟨.v (.bool (if neg then !b else b)),?_,.bool (if neg then !b else b),Va hk hb (by rw [hu];trivial),by simp [Rp]⟩;cases (if neg then !b else b)
   ·exact hw.2
   ·exact hw.1
  unfold TC at hk;split at hk<;>simp at hk
  cases A with
  | none=>exact fin true (by rw [hu];obtain ⟨d',hd'⟩:=xF;simp [Op.equal,hd',Op.equalIn,run_underlying ht])
  | some b=>exact fin false (by rw [hu];obtain ⟨d',hd'⟩:=xF;simp [Op.equal,hd',Op.equalIn,run_underlying ht])
 ·split at hw
  ·rename_i x T' he;obtain ⟨rfl,v,h1,h2⟩:=TD (y:=y) ht hk hG hI hS he;exact ⟨x,hw,v,h1,h2⟩
  ·exact hw.elim
def Wp {o:Oper} {ho:HOp} (hc:Jk P o=some ho) (hw:tI P G st ho K) (hG:rD G h) (hI:Inv h φ w st.T) (hS:rP h φ st.T.length st.s a)
  (hn:∀ v w',Ce h φ st.T w K v w'→next (a.put o.dst v) w'):oW P o a w next:=by
 have pure_op:∀ {sv:Sem Value} (_:execOp a.eval o=(do pure (.value (←sv)))) (_:(∀ f l,ho≠.call f l)∧(∀ p,ho≠.nxt p)∧∀ n k x,ho≠.nilS n k x) (_:∀ x T',bK st.T (bX G st.s) ho=some (x,T')→T'=st.T∧∃ v,sv.run P w=.ok v w∧Rp h φ st.T.length x v),oW P o a w next:=by
  intro sv he hcall hrun;obtain ⟨x,T',e,hk⟩:=Eh hcall hw;obtain ⟨rfl,v,h1,h2⟩:=hrun x T' e;exact rZ he h1 (hn v w (qC hI h2 hk))
 obtain ⟨dst,op,ty,pos,after,guard⟩:=o;unfold Jk at hc;simp only at hc;split at hc
 ·rename_i t x lo hi;split at hc
  ·rename_i e ht;split at hc
   ·rename_i k hk;injection hc with hc;subst hc;exact pure_op (sv:=Instr.sliceAt t (a.eval x) (lo.map a.eval) (hi.map a.eval) none) rfl (by simp) λy T' he=>Wo ht hk hG hI hS he
   ·simp at hc
  ·rename_i ht;injection hc with hc;subst hc;exact pure_op (sv:=Instr.sliceAt t (a.eval x) (lo.map a.eval) (hi.map a.eval) none) rfl (by simp) λy T' he=>TB ht hG hS he
  ·simp at hc
 ·rename_i op t x c yt;split at hc
  ·rename_i d ht;split at hc
   ·rename_i k hk;split at hc
    ·rename_i bK;subst bK;injection hc with hc;subst hc;obtain ⟨y,hy,v,h1,h2⟩:=Vb (neg:=false) (y:=.const c) ht hk hG hI hS hw;exact rZ (sv:=do eqGuard .eql t x (.const c) (a.eval x) c;binOp .eql t (a.eval x) c) rfl h1 (hn v w (qC hI h2 hy))
    ·split at hc
     ·rename_i bK;subst bK;injection hc with hc;subst hc;obtain ⟨y,hy,v,h1,h2⟩:=Vb (neg:=true) (y:=.const c) ht hk hG hI hS hw;exact rZ (sv:=do eqGuard .neq t x (.const c) (a.eval x) c;binOp .neq t (a.eval x) c) rfl h1 (hn v w (qC hI h2 hy))
     ·simp at hc
   ·simp at hc
  ·simp at hc
 ·rename_i c;obtain ⟨callee,args,argTypes⟩:=c;simp only at hc;split at hc
  ·rename_i x y hargs;have ha:args=#[x,y]:=CV.1 (by rw [hargs]);subst ha;injection hc with hc;subst hc;exact pure_op (sv:=Builtin.max_ argTypes ty #[a.eval x,a.eval y]) (by simp [execOp,resolve,invoke,builtin]) (by simp) λz T' he=>Q9 (ts:=argTypes) (ty:=ty) (mx:=true) hG hS he
  ·rename_i x y hargs;have ha:args=#[x,y]:=CV.1 (by rw [hargs]);subst ha;injection hc with hc;subst hc;exact pure_op (sv:=Builtin.min_ argTypes ty #[a.eval x,a.eval y]) (by simp [execOp,resolve,invoke,builtin]) (by simp) λz T' he=>Q9 (ts:=argTypes) (ty:=ty) (mx:=false) hG hS he
  ·simp at hc
 ·simp at hc
end
end
section
section
variable {P:Program} {w:World}
def Kp (a b:ByteArray):(a==b)=true↔a=b:=by
 rw [beq_toListBytes,beq_iff_eq,ByteArray.toList_eq,ByteArray.toList_eq];constructor
 ·intro h;obtain ⟨a⟩:=a;obtain ⟨b⟩:=b;congr;exact CV.1 h
 ·rintro rfl;rfl
def Cr:∀ {ls:List LK} {xs ys:List Value},pZ ls xs ys=some true→xs=ys
 | [],xs,ys,e=>by cases xs<;>cases ys<;>simp_all [pZ]
 | k::ls,xs,ys,e=>by
  cases xs with
  | nil=>cases k<;>simp [pZ] at e
  | cons x xs =>
   cases ys with
   | nil=>cases k<;>cases x<;>simp [pZ] at e
   | cons y ys =>
    cases k<;>cases x<;>cases y<;>simp only [pZ] at e<;>(try (simp at e;done))
    ·split at e
     ·rename_i hk;split at e
      ·rename_i r hr;simp only [Option.some.injEq,eM,beq_iff_eq] at e;obtain ⟨rfl,rfl⟩:=e;rw [Cr hr,hk.1,hk.2]
      ·simp at e
     ·simp at e
    ·split at e
     ·rename_i r hr;simp only [Option.some.injEq,eM,beq_iff_eq] at e;obtain ⟨rfl,rfl⟩:=e;rw [Cr hr]
     ·simp at e
    ·split at e
     ·rename_i r hr;simp only [Option.some.injEq,eM] at e;obtain ⟨h1,rfl⟩:=e;rw [←beq_toListBytes,Kp] at h1;rw [Cr hr,h1]
     ·simp at e
def Cs (ens:List MapEntry) (i:Nat) (r:Option Nat) (out:Option (Nat×Value)):Prop :=
 match r with
 | none=>out=none
 | some j=>i≤j∧∃ e,ens[j-i]?=some e∧out=some (j,e.val)
def Kq {e:MapEntry} {ens:List MapEntry} {i:Nat} {r:Option Nat} {out:Option (Nat×Value)} (h:Cs ens (i+1) r out):Cs (e::ens) i r out:=by
 cases r with
 | none=>exact h
 | some j =>
  obtain ⟨h1,x,h2,h3⟩:=h;refine ⟨by omega,x,?_,h3⟩;rw [show j-i=(j-(i+1))+1 from by omega,I8];exact h2
def ZW {n:Nat} {kt:TypeId} {ag:Bool} {ls:List LK} (hk:fZ P n kt=some (ag,ls)) (hn:n≤Op.maxDepth) {kc:List Value}:∀ (ens:List MapEntry) (ks:List (List Value)) (i:Nat) (r:Option Nat),
  ens.map (·.key)=ks.map (iH ag)→nN ls kc ks i=some r→∃ out,Cs ens i r out∧(Instr.findAsking kt (iH ag kc) ens i).run P w=.ok out w
 | [],[],i,r,_,hf=>by
  simp only [nN,Option.some.injEq] at hf;subst hf;exact ⟨none,rfl,by simp [Instr.findAsking]⟩
 | [],_::_,_,_,hm,_=>by simp at hm
 | _::_,[],_,_,hm,_=>by simp at hm
 | e::ens,k::ks,i,r,hm,hf=>by
  simp only [cN,List.cons.injEq] at hm;simp only [nN] at hf;have heq:∀ b,pZ ls kc k=some b→(Op.equal kt (iH ag kc) e.key).run P w=.ok b w:=λb hb=>by
   rw [hm.1];exact (D6 n kt ag ls hk).2 Op.maxDepth hn _ _ _ hb
  split at hf
  ·rename_i hb;injection hf with hf;subst hf;exact ⟨some (i,e.val),⟨fW _,e,by simp,rfl⟩,by simp [Instr.findAsking,heq _ hb]⟩
  ·rename_i hb;obtain ⟨out,h1,h2⟩:=ZW hk hn ens ks (i+1) r hm.2 hf;exact ⟨out,Kq h1,by simp [Instr.findAsking,heq _ hb,h2]⟩
  ·simp at hf
def RA:LK→TypeDesc→Prop
 | .int k,d=>d=.int k
 | .bool,d=>d=.bool
 | .str,d=>d=.string
def Nq {l:LK} {d:TypeDesc} (hd:RA l d) {x y:List Value} {b:Bool} (h:pZ [l] x y=some b):Instr.sameNow d (iH false x) (iH false y)=some b:=by
 have hl:=yS h
 match x,y,hl with
 | [x],[y],_ =>
  cases l<;>cases x<;>cases y<;>simp only [pZ] at h<;>(try (simp at h;done))
  ·split at h
   ·rename_i hk;simp only [uO,Option.some.injEq] at h;simp only [RA] at hd;subst hd;simp [iH,Instr.sameNow,hk.1,hk.2,←h]
   ·simp at h
  ·simp only [uO,Option.some.injEq] at h;simp only [RA] at hd;subst hd;simp [iH,Instr.sameNow,←h]
  ·simp only [uO,Option.some.injEq] at h;simp only [RA] at hd;subst hd;simp [iH,Instr.sameNow,←h,beq_toListBytes]
def Ow {l:LK} {d:TypeDesc} (hd:RA l d) {kc:List Value}:∀ (ens:List MapEntry) (ks:List (List Value)) (i:Nat) (r:Option Nat),
  ens.map (·.key)=ks.map (iH false)→nN [l] kc ks i=some r→∃ out,Cs ens i r out∧Instr.findNow d (iH false kc) ens i=some out
 | [],[],i,r,_,hf=>by
  simp only [nN,Option.some.injEq] at hf;subst hf;exact ⟨none,rfl,by simp [Instr.findNow]⟩
 | [],_::_,_,_,hm,_=>by simp at hm
 | _::_,[],_,_,hm,_=>by simp at hm
 | e::ens,k::ks,i,r,hm,hf=>by
  simp only [cN,List.cons.injEq] at hm;simp only [nN] at hf;split at hf
  ·rename_i hb;injection hf with hf;subst hf;refine ⟨some (i,e.val),⟨fW _,e,by simp,rfl⟩,?_⟩;simp only [Instr.findNow,hm.1,Nq hd hb]
  ·rename_i hb;obtain ⟨out,h1,h2⟩:=Ow hd ens ks (i+1) r hm.2 hf;refine ⟨out,Kq h1,?_⟩;simp only [Instr.findNow,hm.1,Nq hd hb,h2]
  ·simp at hf
def wB {n:Nat} {kt:TypeId} {ag:Bool} {ls:List LK} (hk:fZ P n kt=some (ag,ls)) (hn:n≤Op.maxDepth) {kc:List Value} {ens:List MapEntry} {ks:List (List Value)} {r:Option Nat}
  (hm:ens.map (·.key)=ks.map (iH ag)) (hf:nN ls kc ks 0=some r):∃ out,Cs ens 0 r out∧(Instr.findKey kt (iH ag kc) ens).run P w=.ok out w:=by
 cases n with
 | zero=>simp [fZ] at hk
 | succ n =>
  have hk':=hk;simp only [fZ] at hk';split at hk'
  ·rename_i k hu;injection hk' with hk';injection hk' with e1 e2;subst e1;subst e2;obtain ⟨out,h1,h2⟩:=Ow (d:=.int k) (l:=.int k) rfl ens ks 0 r hm hf;exact ⟨out,h1,by simp [Instr.findKey,run_underlying hu,h2]⟩
  ·rename_i hu;injection hk' with hk';injection hk' with e1 e2;subst e1;subst e2;obtain ⟨out,h1,h2⟩:=Ow (d:=.bool) (l:=.bool) rfl ens ks 0 r hm hf;exact ⟨out,h1,by simp [Instr.findKey,run_underlying hu,h2]⟩
  ·rename_i hu;injection hk' with hk';injection hk' with e1 e2;subst e1;subst e2;obtain ⟨out,h1,h2⟩:=Ow (d:=.string) (l:=.str) rfl ens ks 0 r hm hf;exact ⟨out,h1,by simp [Instr.findKey,run_underlying hu,h2]⟩
  ·rename_i fs hu;obtain ⟨out,h1,h2⟩:=ZW (w:=w) hk hn ens ks 0 r hm hf
   cases ens with
   | nil =>
    cases ks with
    | nil =>
     simp only [nN,Option.some.injEq] at hf;subst hf;exact ⟨none,rfl,by simp [Instr.findKey,run_underlying hu,Instr.findNow]⟩
    | cons k ks=>simp at hm
   | cons e ens =>
    refine ⟨out,h1,?_⟩;have:Instr.findNow (.struct fs) (iH ag kc) (e::ens) 0=none:=by
     simp only [Instr.findNow];cases iH ag kc<;>simp [Instr.sameNow]
    simp [Instr.findKey,run_underlying hu,this,h2]
  ·simp at hk'
def Nr {n:Nat} {em:Bool} {d:Nat} (ih:∀ t ag ks,fZ P n t=some (ag,ks)→(ag=false→ks.length=1)∧∀ xs b,pZ ks xs xs=some b→(Instr.checkKey em d t (iH ag xs)).run P w=.ok () w)
    (X:Array Value):∀ (fs:List Field) (off:Nat) (ks:List LK) (b:Bool),FS P (fZ P n) fs off=some ks →
      pZ ks (X.toList.drop off) (X.toList.drop off)=some b→off≤X.size →
      (forIn fs PUnit.unit (λf _=>if f.name ≠ "_" then (do
          let y ←part f.type X f.offset
          Instr.checkKey em d f.type y
          pure (ForInStep.yield PUnit.unit)) else pure (ForInStep.yield PUnit.unit)):Sem PUnit).run P w=.ok () w
  | [],off,ks,b,hk,he,_=>by simp
  | f::fs,off,ks,b,hk,he,hX=>by
    simp only [FS] at hk;split at hk
    · rename_i ag ks1 hg
      split at hk
      · rename_i hc
        obtain ⟨hname,hoff,hag⟩:=hc
        split at hk
        · rename_i l hl
          injection hk with hk
          subst hk
          obtain ⟨b1,b2,h1,h2,h3⟩:=GR he
          have hlen:=yS he
          simp only [tT,dU,FM] at hlen
          obtain ⟨hone,hi⟩:=ih _ _ _ hg
          have hpx:(part f.type X f.offset).run P w=.ok (iH ag ((X.toList.drop off).take ks1.length)) w:=by
            rw [hoff];exact Cp hag hone (by omega)
          have hr:=hi _ _ h1
          rw [GF] at h2
          have hrec:=Nr ih X fs (off+ks1.length) l b2 hl h2 (by omega)
          simp only [List.forIn_cons,Sem.run_bind,hname,ne_eq,not_false_eq_true,if_true,Result.andThen_ok,hpx,hr,Sem.run_pure]
          exact hrec
        · simp at hk
      · simp at hk
    · simp at hk
def RB {em:Bool}:∀ (n:Nat) (kt:TypeId) (ag:Bool) (ls:List LK),fZ P n kt=some (ag,ls)→∀ d,n≤d→∀ kc b,pZ ls kc kc=some b→(Instr.checkKey em d kt (iH ag kc)).run P w=.ok () w
 | 0,_,_,_,hk=>by simp [fZ] at hk
 | n+1,kt,ag,ls,hk=>by
  intro d hd kc b hb;obtain ⟨d,rfl⟩:∃ d',d=d'+1:=⟨d-1,by omega⟩
  have hk':=hk;simp only [fZ] at hk';split at hk'
  ·rename_i k hu;simp [Instr.checkKey,run_underlying hu]
  ·rename_i hu;simp [Instr.checkKey,run_underlying hu]
  ·rename_i hu;simp [Instr.checkKey,run_underlying hu]
  ·rename_i fs hu;split at hk'
   ·simp at hk'
   ·split at hk'
    ·rename_i l hl;injection hk' with hk';injection hk' with e1 e2;subst e1;subst e2;have h:=Nr (w:=w) (em:=em) (d:=d) (λt ag ks ht=>⟨(D6 (w:=w) n t ag ks ht).1,RB n t ag ks ht d (by omega)⟩) kc.toArray fs.toList 0 l b hl (by simpa using hb) (by simp);simp only [Instr.checkKey,iH,if_true,Sem.run_bind,run_underlying hu,Result.andThen_ok];rw [←Array.forIn_toList,h];simp
    ·simp at hk'
  ·simp at hk'
def AJ:∀ {ls:List LK} {xs:List Value} {b:Bool},pZ ls xs xs=some b→∀ x∈xs,∀ n,Instr.sameBits n x x=true
 | [],xs,b,h,x,hx=>by cases xs<;>simp_all [pZ]
 | l::ls,[],b,h,x,hx=>by simp at hx
 | l::ls,y::xs,b,h,x,hx=>by
  have hrec:∃ b',pZ ls xs xs=some b':=by
   cases l<;>cases y<;>simp only [pZ] at h<;>(try (simp at h;done))
   ·split at h
    ·split at h
     ·rename_i r hr;exact ⟨r,hr⟩
     ·simp at h
    ·simp at h
   ·split at h
    ·rename_i r hr;exact ⟨r,hr⟩
    ·simp at h
   ·split at h
    ·rename_i r hr;exact ⟨r,hr⟩
    ·simp at h
  obtain ⟨b',hb'⟩:=hrec;intro n;rcases gK.1 hx with rfl | hx
  ·cases l<;>cases x<;>simp only [pZ] at h<;>(try (simp at h;done))<;>cases n<;>simp [Instr.sameBits,Kp]
  ·exact AJ hb' x hx n
def RC {ag:Bool} {ls:List LK} {kc:List Value} {b:Bool} (hb:pZ ls kc kc=some b) (h1:ag=false→ls.length=1):(Instr.keyThatStays (iH ag kc) (iH ag kc)).run P w=.ok (iH ag kc) w:=by
 have:Instr.sameBits 10000 (iH ag kc) (iH ag kc)=true:=by
  cases ag with
  | false =>
   have hl:=yS hb;rw [h1 rfl] at hl
   match kc,hl with
   | [x],_=>simpa [iH] using AJ hb x (by simp) 10000
  | true =>
   have key:∀ m,Instr.sameBits (m+1) (iH true kc) (iH true kc)=true:=λm=>by
    simp only [iH,if_true,Instr.sameBits,beq_self_eq_true,jG,kY];rintro ⟨x,y⟩ hm;have hxy:x=y∧x∈kc:=by
     rw [List.zip_eq_zipWith] at hm;obtain ⟨i,hi⟩:=NV hm;rw [Yg] at hi;split at hi
     ·rename_i p q hp hq;rw [hp] at hq;injection hq with hq;simp only [Option.some.injEq,Prod.mk.injEq] at hi;obtain ⟨rfl,rfl⟩:=hi;exact ⟨hq,IR hp⟩
     ·simp at hi
    rw [←hxy.1];exact AJ hb x hxy.2 m
   exact key 9999
 simp [Instr.keyThatStays,this]
end
end
section
section
variable {P:Program} {G:Nat→Option (List AV)} {h:GH} {φ:Nat→Value} {T:aQ} {w:World} {s:List (Nat×AV)} {a:Act}
def Ns {n:Nat}:∀ {cs:List AV} {us kc:List Value},BY cs=some kc→bW h φ n cs us→us=kc
 | [],us,kc,e,hr=>by
  simp only [BY,Option.some.injEq] at e;simp only [bW] at hr;subst e;exact hr
 | c::cs,us,kc,e,hr=>by
  cases c<;>simp only [BY] at e<;>(try (simp at e;done))
  simp only [bW,Rp] at hr;obtain ⟨u,us',rfl,rfl,h2⟩:=hr;split at e
  ·rename_i l hl;injection e with e;subst e;rw [Ns hl h2]
  ·simp at e
def Jl {n:Nat} {x:AV} {u:Value} {ag:Bool} {ls:List LK} {kc:List Value} (hx:Rp h φ n x u) (e:KZ ag ls x=some kc):u=iH ag kc∧∃ b,pZ ls kc kc=some b:=by
 unfold KZ at e;split at e
 ·rename_i k hk;split at e
  ·rename_i b hb;injection e with e;subst e;refine ⟨?_,b,hb⟩;split at hk
   ·rename_i hag;subst hag;split at hk
    ·rename_i cs hcs;have:∃ us:Array Value,u=.agg us∧bW h φ n cs us.toList:=by
      unfold Qx at hcs;split at hcs
      ·injection hcs with hcs;subst hcs;simpa only [Rp] using hx
      ·injection hcs with hcs;subst hcs;simp only [Rp] at hx;exact ⟨_,hx,Ki h φ n _⟩
      ·simp at hcs
     obtain ⟨us,rfl,hr⟩:=this;have:=Ns hk hr;simp [iH,←this]
    ·simp at hk
   ·rename_i hag;split at hk
    ·rename_i v;injection hk with hk;subst hk;simp only [Rp] at hx;simp [iH,hag,hx]
    ·simp at hk
  ·simp at e
 ·simp at e
def Bd (hI:Inv h φ w T) {i:Nat} {ag:Bool} {ks:List (List Value)} {vs:List AV} {bs:List Nat} {cl:Nat} (hg:cR T i=some (.map ag ks vs bs cl)) :
  ∃ (g:Nat) (ens:Array MapEntry),φ i=.map (some g)∧w.heap[g]?=some (.map ens cl)∧h g=none ∧
   ens.toList.map (·.key)=ks.map (iH ag)∧ens.toList.map (·.born)=bs∧bW h φ T.length vs (ens.toList.map (·.val)):=hI.obj i _ (bD hg)
def kA {r:Nat} {es:Array MapEntry} {clock:Nat} (hb:w.heap[r]?=some (.map es clock)):(getObj r).run P w=.ok (.map es clock) w:=by simp [getObj,Sem.run,hb]
def qR {r:Nat} {es:Array MapEntry} {clock:Nat} (o:Obj) (hb:w.heap[r]?=some (.map es clock)):(setObj r o).run P w=.ok () { w with heap:=w.heap.setIfInBounds r o }:=by simp [setObj,Sem.run,hb]
def Bf (hI:Inv h φ w T) {i:Nat} {ag:Bool} {ks:List (List Value)} {vs:List AV} {bs:List Nat} {cl:Nat} (hg:cR T i=some (.map ag ks vs bs cl)) {g:Nat} {ens:Array MapEntry} (hφ:φ i=.map (some g)) (hw:w.heap[g]?=some (.map ens cl))
  {ens':Array MapEntry} {ks':List (List Value)} {vs':List AV} {bs':List Nat} {cl':Nat} (h1:ens'.toList.map (·.key)=ks'.map (iH ag)) (h2:ens'.toList.map (·.born)=bs') (h3:bW h φ T.length vs' (ens'.toList.map (·.val))) :
  Inv h φ { w with heap:=w.heap.setIfInBounds g (.map ens' cl') } (T.set i (some (.map ag ks' vs' bs' cl'))) ∧
  Evo h φ T w h φ (T.set i (some (.map ag ks' vs' bs' cl'))) { w with heap:=w.heap.setIfInBounds g (.map ens' cl') }:=by
 have hlt:g<w.heap.size:=by
  rcases bY g w.heap.size with hh | hh
  ·exact hh
  ·rw [GA hh] at hw;simp at hw
 have hn:=(gM (hI.obj i _ (bD hg)) (g:=g) (by rw [hφ];rfl)).2;refine D7 (w':={ w with heap:=w.heap.setIfInBounds g (.map ens' cl') }) hI rfl rfl rfl (by simp) (bD hg) (λb _ hne=>?_) ⟨g,ens',hφ,by simp [hlt],hn,h1,h2,h3⟩;have:g≠b:=λe=>hne (by rw [hφ,e];rfl);simp [Array.getElem?_setIfInBounds_ne this]
def Wq (hI:Inv h φ w T) (t:TypeId) (ag:Bool):gY h φ T w ((Instr.makeMap t none).run P w) (.mp T.length) (T++[some (.map ag [] [] [] 0)]):=by
 have hn:h w.heap.size=none:=D8 hI;have:=qL (w':=w.alloc (.map #[] 0)) (o:=.map ag [] [] [] 0) (v:=.map (some w.heap.size)) hI rfl rfl rfl (by simp) (λb hb=>jN w _ b hb)
  (λg hg=>by simp only [mC,Option.some.injEq] at hg;omega)
  ⟨w.heap.size,#[],bE,heap_alloc_new w _,hn,by simp,by simp,by simp [bW]⟩
 refine ⟨_,_,h,_,by simp [Instr.makeMap];rfl,this.2,this.1,?_⟩;simp only [Rp];exact ⟨by simp,bE.symm,w.heap.size,rfl⟩
def Wr {ens:Array MapEntry} {vs:List AV} {n:Nat} (hv:bW h φ n vs (ens.toList.map (·.val))) {j:Nat} {out:Option (Nat×Value)} (hf:Cs ens.toList 0 (some j) out) {x:AV} (hx:vs[j]?=some x) :
  ∃ e,ens[j]?=some e∧out=some (j,e.val)∧Rp h φ n x e.val:=by
 obtain ⟨_,e,h1,h2⟩:=hf;obtain ⟨u,h3,h4⟩:=hv.get hx;simp only [E4] at h1;rw [eD,h1] at h3;simp only [kZ,Option.some.injEq] at h3;subst h3;exact ⟨e,by simpa using h1,h2,h4⟩
def Ws {t kt et:TypeId} (ht:P.underlying t=some (.map kt et)) {ag:Bool} {ls:List LK} (hk:fZ P 20 kt=some (ag,ls)) {i:TypeInfo} (hi:P.info? et=some i) {z:Value} (hz:i.zero=some z) {ok:Bool}
  (hG:rD G h) (hI:Inv h φ w T) (hS:rP h φ T.length s a) {m k:Operand} {x:AV} {T':aQ} (he:bK T (bX G s) (.lku ag ls z m k ok)=some (x,T')) :
  T'=T∧∃ v,(Instr.lookup t (a.eval m) (a.eval k) ok).run P w=.ok v w∧Rp h φ T.length x v:=by
 have hm:=dA hG hS m;have hkv:=dA hG hS k;simp only [bK] at he;split at he
 ·rename_i ks vs kc hmap hkc;obtain ⟨hku,b,hb⟩:=Jl hkv hkc;have hck:∀ em,(Instr.checkKey em 10000 kt (a.eval k)).run P w=.ok () w:=λem=>by rw [hku];exact RB 20 kt ag ls hk 10000 (by omega) kc b hb
  have hzr:(zeroValue et).run P w=.ok z w:=by simp [zeroValue,typeInfo,hi,hz]
  have hen:∃ ens:Array MapEntry,ens.toList.map (·.key)=ks.map (iH ag)∧bW h φ T.length vs (ens.toList.map (·.val)) ∧
    ∀ out,(Instr.findKey kt (a.eval k) ens.toList).run P w=.ok out w→(Instr.lookup t (a.eval m) (a.eval k) ok).run P w=.ok (match out with | some (_,v)=>if ok then .tuple #[v,.bool true] else v | none=>if ok then .tuple #[z,.bool false] else z) w:=by
   unfold ZD at hmap;split at hmap
   ·rename_i hev;injection hmap with hmap;injection hmap with e1 e2;subst e1;subst e2;refine ⟨#[],rfl,by simp [bW],λout hout=>?_⟩;have:out=none:=by
     have:(Instr.findKey kt (a.eval k) []).run P w=.ok none w:=by
      obtain ⟨o,h1,h2⟩:=wB (w:=w) (kc:=kc) (ens:=[]) (ks:=[]) (r:=none) hk (by decide) rfl rfl;rw [hku,h2];simp only [Cs] at h1;rw [h1]
     rw [this] at hout;injection hout with hout _;exact hout.symm
    subst this;rw [lB hG hS hev];have hf:(Instr.findKey kt (a.eval k) (#[]:Array MapEntry).toList).run P w=.ok none w:=hout;simp [Instr.lookup,run_underlying ht,hck,hf,hzr]
   ·rename_i i hev;split at hmap
    ·rename_i ag' ks' vs' bs cl hg;split at hmap
     ·rename_i hag;subst hag;injection hmap with hmap;injection hmap with e1 e2;subst e1;subst e2;obtain ⟨g,ens,h1,h2,h3,h4,h5,h6⟩:=Bd hI hg;refine ⟨ens,h4,h6,λout hout=>?_⟩;rw [hev] at hm;simp only [Rp] at hm;rw [hm.2.1,h1]
      cases out with
      | none=>simp [Instr.lookup,run_underlying ht,kA h2,hck,hout,hzr]
      | some p=>simp [Instr.lookup,run_underlying ht,kA h2,hck,hout]
     ·simp at hmap
    ·simp at hmap
   ·simp at hmap
  obtain ⟨ens,hkeys,hvals,hrun⟩:=hen;split at he
  ·rename_i hf;injection he with he;injection he with e1 e2;subst e1;subst e2;obtain ⟨out,h1,h2⟩:=wB (w:=w) hk (by decide) hkeys hf;simp only [Cs] at h1;subst h1;refine ⟨rfl,_,hrun none (by rw [hku];exact h2),?_⟩;cases ok<;>simp [Rp,bW]
  ·rename_i j hf;split at he
   ·rename_i y hy;injection he with he;injection he with e1 e2;subst e1;subst e2;obtain ⟨out,h1,h2⟩:=wB (w:=w) hk (by decide) hkeys hf;obtain ⟨e,h3,h4,h5⟩:=Wr hvals h1 hy;subst h4;refine ⟨rfl,_,hrun _ (by rw [hku];exact h2),?_⟩;cases ok
    ·simpa using h5
    ·simp only [if_true,Rp,bW];exact ⟨_,rfl,_,_,rfl,h5,_,_,rfl,rfl,rfl⟩
   ·simp at he
  ·simp at he
 ·simp at he
def RD {ls:List LK} {kc:List Value}:∀ (ks:List (List Value)) (i:Nat) {j:Nat},nN ls kc ks i=some (some j)→i≤j
 | [],i,j,h=>by simp [nN] at h
 | k::ks,i,j,h=>by
  simp only [nN] at h;split at h
  ·simp only [Option.some.injEq] at h;omega
  ·have:=RD ks (i+1) h;omega
  ·simp at h
def Kr {ls:List LK} {kc:List Value}:∀ (ks:List (List Value)) (i:Nat) {j:Nat},nN ls kc ks i=some (some j)→∀ {k':List Value},ks[j-i]?=some k'→pZ ls kc k'=some true
 | [],i,j,h,k',_=>by simp [nN] at h
 | k::ks,i,j,h,k',hk=>by
  simp only [nN] at h;split at h
  ·rename_i hb;simp only [Option.some.injEq] at h;subst h;simp only [Nh,KH,Option.some.injEq] at hk;subst hk;exact hb
  ·have hij:=RD ks (i+1) h;rw [show j-i=(j-(i+1))+1 from by omega,I8] at hk;exact Kr ks (i+1) h hk
  ·simp at h
def kU (ens:Array MapEntry) (j:Nat) (f:MapEntry→MapEntry):(ens.modify j f).toList=ens.toList.modify j f:=by simp
def Ct (l:List MapEntry) (j:Nat) (f:MapEntry→MapEntry) (hf:∀ e,l[j]?=some e→(f e).key=e.key):(l.modify j f).map (·.key)=l.map (·.key):=by
 apply BV;intro i;rw [eD,eD,Qd];split
 ·rename_i hij;subst hij
  cases he:l[j]? with
  | none=>rfl
  | some e=>simp [hf e he]
 ·simp
def vJ (l:List MapEntry) (j:Nat) (f:MapEntry→MapEntry) (hf:∀ e,(f e).born=e.born):(l.modify j f).map (·.born)=l.map (·.born):=by
 apply BV;intro i;rw [eD,eD,Qd];split
 ·cases he:l[i]? with
  | none=>rfl
  | some e=>simp [hf]
 ·simp
def Cu (l:List MapEntry) (j:Nat) (f:MapEntry→MapEntry) (v:Value) (hf:∀ e,(f e).val=v):(l.modify j f).map (·.val)=(l.map (·.val)).set j v:=by
 apply BV;intro i;rw [eD,Qd,Ec,eD];split
 ·rename_i hij;subst hij
  cases he:l[j]? with
  | none=>simp [List.getElem?_eq_none_iff.1 he]
  | some e =>
   have:j<l.length:=(HM.1 he).1;simp [hf,this]
 ·simp
def bW.setv {n:Nat} {vs:List AV} {us:List Value} (hr:bW h φ n vs us) {j:Nat} {x:AV} {v:Value} (hx:Rp h φ n x v):bW h φ n (vs.set j x) (us.set j v) :=
 bW.mk (by simp [hr.length]) λi c u hc hu=>by
  rw [Ec] at hc hu;rw [hr.length] at hc;split at hc
  ·rename_i hij;rw [if_pos hij] at hu;split at hc
   ·rename_i hl;rw [if_pos hl] at hu;injection hc with hc;injection hu with hu;subst hc;subst hu;exact hx
   ·simp at hc
  ·rename_i hij;rw [if_neg hij] at hu;obtain ⟨u',h1,h2⟩:=hr.get hc;rw [hu] at h1;injection h1 with h1;subst h1;exact h2
def Nt {t kt et:TypeId} (ht:P.underlying t=some (.map kt et)) {ag:Bool} {ls:List LK} (hk:fZ P 20 kt=some (ag,ls))
  (hG:rD G h) (hI:Inv h φ w T) (hS:rP h φ T.length s a) {m k q:Operand} {x:AV} {T':aQ} (he:bK T (bX G s) (.mup ag ls m k q)=some (x,T')) :
  ∃ w',(Instr.mapUpdate t (a.eval m) (a.eval k) (a.eval q)).run P w=.ok () w'∧x=.v undef∧Evo h φ T w h φ T' w'∧Inv h φ w' T':=by
 have hm:=dA hG hS m;have hkv:=dA hG hS k;have hq:=dA hG hS q;simp only [bK] at he;split at he
 ·rename_i i hev;rw [hev] at hm;simp only [Rp] at hm;split at he
  ·rename_i ag' ks vs bs cl kc hg hkc;split at he
   ·rename_i hag;subst hag;obtain ⟨hku,b,hb⟩:=Jl hkv hkc;have hck:∀ em,(Instr.checkKey em 10000 kt (a.eval k)).run P w=.ok () w:=λem=>by rw [hku];exact RB 20 kt ag ls hk 10000 (by omega) kc b hb
    obtain ⟨g,ens,h1,h2,h3,h4,h5,h6⟩:=Bd hI hg;rw [hm.2.1,h1];split at he
    ·rename_i hf;injection he with he;injection he with e1 e2;subst e1;subst e2;obtain ⟨out,f1,f2⟩:=wB (w:=w) hk (by decide) h4 hf;simp only [Cs] at f1;subst f1;rw [←hku] at f2;have hset:=Bf hI hg h1 h2 (ens':=ens.push { key:=a.eval k,val:=a.eval q,born:=cl }) (ks':=ks++[kc]) (vs':=vs++[bX G s q]) (bs':=bs++[cl]) (cl':=cl+1)
      (by simp [h4,hku]) (by simp [h5]) (by simp only [Array.toList_push,gQ,cN,eQ];exact h6.app (by simp [bW,hq]))
     exact ⟨_,by simp [Instr.mapUpdate,run_underlying ht,kA h2,hck,f2,qR _ h2],rfl,hset.2,hset.1⟩
    ·rename_i j hf;injection he with he;injection he with e1 e2;subst e1;subst e2;obtain ⟨out,f1,f2⟩:=wB (w:=w) hk (by decide) h4 hf;obtain ⟨_,e,f3,f4⟩:=f1;subst f4;rw [←hku] at f2;simp only [E4] at f3;have hek:e.key=a.eval k:=by
      have hkj:(ks.map (iH ag))[j]?=some e.key:=by rw [←h4,eD,f3];rfl
      rw [eD] at hkj
      cases hkk:ks[j]? with
      | none=>simp [hkk] at hkj
      | some k' =>
       simp only [hkk,kZ,Option.some.injEq] at hkj;have:pZ ls kc k'=some true:=Kr ks 0 hf (by simpa using hkk);rw [←hkj,hku,Cr this]
     have f3':ens[j]?=some e:=by simpa using f3
     have rT:(Instr.keyThatStays e.key (a.eval k)).run P w=.ok (a.eval k) w:=by
      rw [hek,hku];exact RC hb (D6 (P:=P) (w:=w) 20 kt ag ls hk).1
     have hset:=Bf hI hg h1 h2 (ens':=ens.modify j λe=>{ e with key:=a.eval k,val:=a.eval q }) (ks':=ks) (vs':=vs.set j (bX G s q)) (bs':=bs) (cl':=cl)
      (by rw [kU,Ct _ _ _ (λe' he'=>by rw [f3] at he';injection he' with he';subst he';exact hek.symm)];exact h4)
      (by rw [kU,vJ ens.toList j (λe=>{ e with key:=a.eval k,val:=a.eval q }) (λ_=>rfl)];exact h5)
      (by rw [kU,Cu ens.toList j (λe=>{ e with key:=a.eval k,val:=a.eval q }) (a.eval q) (λ_=>rfl)];exact h6.setv hq)
     exact ⟨_,by simp [Instr.mapUpdate,run_underlying ht,kA h2,hck,f2,f3',rT,qR _ h2],rfl,hset.2,hset.1⟩
    ·simp at he
   ·simp at he
  ·simp at he
 ·simp at he
def TF {t kt et ty:TypeId} (ht:P.underlying t=some (.map kt et)) {ts:Array TypeId} (hts:ts[0]?=some t)
  (hG:rD G h) (hI:Inv h φ w T) (hS:rP h φ T.length s a) {p:Operand} {x:AV} {T':aQ} (he:bK T (bX G s) (.lenM p)=some (x,T')) :
  T'=T∧∃ v,(Builtin.len_ ts ty #[a.eval p]).run P w=.ok v w∧Rp h φ T.length x v:=by
 have hp:=dA hG hS p;simp only [bK] at he;split at he
 ·rename_i hev;injection he with he;injection he with e1 e2;subst e1;subst e2;rw [lB hG hS hev];exact ⟨rfl,goInt 0,by simp [Builtin.len_,hts,run_underlying ht],by simp [Rp,goInt]⟩
 ·rename_i i hev;rw [hev] at hp;simp only [Rp] at hp;split at he
  ·rename_i ag ks vs bs cl hg;injection he with he;injection he with e1 e2;subst e1;subst e2;obtain ⟨g,ens,h1,h2,h3,h4,h5,h6⟩:=Bd hI hg;have hl:ens.size=ks.length:=by
    have:=congrArg List.length h4;simpa using this
   rw [hp.2.1,h1];exact ⟨rfl,goInt ens.size,by simp [Builtin.len_,hts,run_underlying ht,kA h2],by simp [Rp,goInt,hl]⟩
  ·simp at he
 ·simp at he
end
end
section
section
variable {P:Program} {G:Nat→Option (List AV)} {h:GH} {φ:Nat→Value} {T:aQ} {w:World} {s:List (Nat×AV)} {a:Act}
def TI {t e:TypeId} (ht:P.underlying t=some (.slice e)) {i:TypeInfo} (hi:P.info? e=some i)
  (hI:Inv h φ w T) {ev:Operand→AV} {x:AV} {T':aQ} (he:bK T ev (.bsl i.size [] [] 0)=some (x,T')) :
  gY h φ T w ((Instr.buildSlice t 0 #[]).run P w) x T':=by
 simp only [bK,eQ,HT,VM,if_true,rX,Option.some.injEq,Prod.mk.injEq] at he;obtain ⟨rfl,rfl⟩:=he;have hrun:(Instr.buildSlice t 0 #[]).run P w=.ok (.slice (some ⟨w.heap.size,0,none⟩) 0 0) (w.alloc (.cells #[] e)):=by
  simp [Instr.buildSlice,run_underlying ht,Go.sizeOf,typeInfo,hi,newRow,Instr.fill,Array.range_zero']
 rw [hrun];exact VS (n:=0) (c:=0) (es:=[]) (k:=i.size) hI rfl rfl rfl rfl (λd hd=>absurd hd (by simp)) rfl (fW _) (xC _) (by simp) (by simp [cB]) e
def TJ (h:GH):∀ us:List Value,cB h (us.map .v) us
 | []=>by simp [cB]
 | u::us=>by simp only [cN,cB];exact ⟨u,us,rfl,by simp [mB],TJ h us⟩
def Ks (z:Array Value) (n m:Nat) (hz:0<z.size) (hnm:n≤m):(madeCells z (m*z.size)).toList.take (n*z.size)=(List.replicate n z.toList).flatten:=by
 have key:∀ n,(List.replicate n z.toList).flatten=GQ z.toList n:=by
  intro n
  induction n with
  | zero=>rfl
  | succ n ih=>simp [Qf,GQ,ih]
 rw [key];apply BV;intro j;have hle:n*z.size≤m*z.size:=Mr _ hnm;by_cases hj:j<n*z.size
 ·have hm:j<m*z.size:=by omega
  rw [AI,if_pos hj,Array.getElem?_toList,madeCells,Array.getElem?_map,Array.getElem?_range,if_pos hm,Kj z.toList (by simpa using hz) n j (by simpa using hj)];have hmod:j%z.size<z.size:=Aj _ hz;simp [getElem!_pos z (j%z.size) hmod,hmod]
 ·rw [AI,if_neg hj,gV];rw [GS];simpa using hj
def Wt {t e:TypeId} (ht:P.underlying t=some (.slice e)) {i:TypeInfo} (hi:P.info? e=some i) {z:Value} (hz:i.zero=some z) (hzs:z.cells.size=i.size) (h0:0<i.size) (hcl:(z.cells.toList.all λx=>bB (.v x))=true)
  (hG:rD G h) (hI:Inv h φ w T) (hS:rP h φ T.length s a) {p q:Operand} {x:AV} {T':aQ} (he:bK T (bX G s) (.mks i.size z.cells.toList i.bytes p q)=some (x,T')) :
  gY h φ T w ((Instr.makeSlice t (a.eval p) (a.eval q)).run P w) x T':=by
 simp only [bK] at he;split at he
 ·rename_i n c hp hq;split at he
  ·rename_i hc;obtain ⟨c1,c2,c3,c4⟩:=hc;injection he with he;injection he with e1 e2;subst e1;subst e2;have hc4:c≤9223372036854775807:=by have:=c4;simp only [maxLen] at this;omega
   rw [lB hG hS hp,lB hG hS hq,run_make w t e i z ht hi hz .i64 .i64 n c c1 c2 (by rw [Int.mul_comm];omega) hc4];have hcn:n.toNat≤c.toNat:=by omega
   have hcm:c.toNat≤maxLen:=by omega
   refine VS hI rfl rfl rfl rfl (λd hd=>?_) (KI) hcn hcm ?_ ?_ e
   ·rw [(List.mem_replicate.1 hd).2];refine ⟨by simp [hzs],λy hy=>?_⟩;obtain ⟨u,hu,rfl⟩:=dE.1 hy;exact kY.1 hcl u hu
   ·rw [size_madeCells]
   ·rw [←hzs,Ks z.cells _ _ (by omega) hcn];have:(List.replicate n.toNat (z.cells.toList.map AV.v)).flatten=((List.replicate n.toNat z.cells.toList).flatten).map AV.v:=by
     simp [List.map_flatten,U7]
    rw [this];exact TJ h _
  ·simp at he
 ·simp at he
def FU (h:GH) (b:Nat) (cs:Array Value):GH:=λg=>if g=b then some cs else h g
def Wu {w':World} (hI:Inv h φ w T) (hos:w'.os=w.os) (htp:w'.tape=w.tape) (hout:w'.output=w.output) (hsz:w.heap.size≤w'.heap.size)
  (hb:∀ b,b<w.heap.size→w'.heap[b]?=w.heap[b]?) {cs:Array Value} {E:TypeId} {fr:Nat×Nat} (hn:w'.heap[w.heap.size]?=some (.cells cs E fr)) (hdr:w.drawn≤w'.drawn) :
  Inv (FU h w.heap.size cs) φ w' T∧Evo h φ T w (FU h w.heap.size cs) φ T w':=by
 have le:Ad h (FU h w.heap.size cs):=by
  intro b c e;unfold FU;rw [if_neg (by have:=xE hI e;omega)];exact e
 have old:∀ i x,T[i]?=some (some x)→i<T.length:=by
  intro i x e;rcases bY i T.length with hh | hh
  ·exact hh
  ·rw [gV hh] at e;simp at e
 refine ⟨⟨?_,?_,?_⟩,⟨hos,htp,hout,hsz,λb hb' _=>hb b hb',le,?_,λ_ _=>rfl,λi o b hi hbl=>.inr ⟨i,o,hi,hbl⟩,fW _,hdr⟩⟩
 ·intro b c e;unfold FU at e;split at e
  ·rename_i hbe;subst hbe;injection e with e;subst e;exact ⟨E,fr,hn⟩
  ·obtain ⟨E',fr',hw⟩:=hI.gh b c e;exact ⟨E',fr',by rw [hb b (xE hI e)];exact hw⟩
 ·intro i x e;have h1:=hI.obj i x e;refine oC h1 le (fW _) (λ_ _=>rfl) (old i x e) λg hg=>?_;obtain ⟨h2,h3⟩:=gM h1 hg;exact ⟨hb g h2,by unfold FU;rw [if_neg (by omega)];exact h3⟩
 ·exact hI.dis
 ·intro b c e;unfold FU at e;split at e
  ·rename_i hbe;exact .inr (.inl (by omega))
  ·exact .inl e
def Kt {h:GH} {b:Nat}:∀ (l:List UInt8) (o:Nat),(∀ j u,l[j]?=some u→nZ h b (o+j)=some (.int .u8 u.toNat))→iY h b 1 (l.map λb=>[.v (.int .u8 b.toNat)]) o
 | [],_,_=>by simp [iY]
 | u::l,o,hh=>by
  simp only [cN,iY,lA];refine ⟨rfl,⟨⟨_,rfl,by simpa using hh 0 u rfl,by simp [mB]⟩,trivial⟩,Kt l (o+1) λj v hj=>?_⟩;have:=hh (j+1) v (by simpa using hj);rw [←this];congr 1;omega
def Wv {src d e:TypeId} {u:TypeDesc} (hs:P.underlying src=some u) (hd:P.underlying d=some (.slice e)) (hu8:P.underlying e=some (.int .u8))
  (hG:rD G h) (hI:Inv h φ w T) (hS:rP h φ T.length s a) {p:Operand} {x:AV} {T':aQ} (he:bK T (bX G s) (.s2b p)=some (x,T')) :
  gY h φ T w ((convert src d (a.eval p)).run P w) x T':=by
 simp only [bK] at he;split at he
 ·rename_i sb hp;split at he
  ·rename_i hc;injection he with he;injection he with e1 e2;subst e1;subst e2;rw [lB hG hS hp,Lib.run_convert_string_bytes w src d e sb hs hd hu8];obtain ⟨k1,k2⟩:=Wu (w':=Lib.bytesWorld w e sb) hI rfl rfl rfl (by rw [Lib.bytesWorld_size];omega) (λb hb=>Lib.bytesWorld_at_old w e sb b hb) (Lib.bytesWorld_at_new w e sb) (by simp [Lib.bytesWorld,World.freeze,World.alloc,World.drew,-World.alloc_eq,-World.drew_eq]);have hl:(jH sb).length=sb.size:=by simp [jH]
   refine ⟨_,_,_,_,rfl,k2,k1,?_⟩;simp only [Rp,mB];refine ⟨_,_,by rw [hl],by rw [hl];exact grownCap_ge w sb.size 0 e,grownCap_le_maxLen w sb.size 0 e hc,.inr ⟨_,0,rfl,?_⟩⟩;refine Kt _ 0 λj u hj=>?_;have hjs:j<sb.data.size:=by
    rcases bY j sb.data.size with hh | hh
    ·exact hh
    ·rw [gV (by simpa using hh)] at hj;simp at hj
   have hju:sb.data[j]?=some u:=by simpa using hj
   simp only [nZ,FU,if_true,KQ,rW,Lib.bytesCells];rw [Ur (by simpa using hjs),Array.getElem?_map,hju];rfl
  ·simp at he
 ·simp at he
end
section
variable {P:Program} {h:GH} {φ:Nat→Value} {T:aQ} {w:World}
def aC0 {t e:TypeId} (ht:P.underlying t=some (.slice e)) (hu8:P.underlying e=some (.int .u8)) (hI:Inv h φ w T) {i:Nat} {e0:List AV} {es:List (List AV)} (hi:T[i]?=some (some (.arr 1 (e0::es)))) :
  gY h φ T w ((convert t t (φ i)).run P w) (.ls 1 (e0::es)) (T.set i none):=by
 obtain ⟨hc,hobj⟩:=hI.obj i _ hi;rcases hobj with ⟨A,_,h0⟩ | ⟨g,c,cur,E,e1,e2,e3,e4,e5,e6,e7⟩
 ·simp at h0
 have hsh:w.shape? g=some (E,cur.size):=by unfold World.shape?;rw [e2]
 have hrun:(convert t t (φ i)).run P w=.ok (φ i) (w.freeze ⟨g,cur.size,none⟩ 1):=by
  rw [e1];simp [convert,run_underlying ht,run_underlying hu8,markStringish,hsh]
 have hgl:g<w.heap.size:=by
  rcases bY g w.heap.size with hh | hh
  ·exact hh
  ·rw [GA hh] at e2;simp at e2
 have hfz:w.freeze ⟨g,cur.size,none⟩ 1={ w with heap:=w.heap.modify g fun
   | .cells c elem (lo,hi)=>.cells c elem (if lo==hi then (cur.size,cur.size+1) else (min lo cur.size,max hi (cur.size+1)))
   | o=>o }:=by
  unfold World.freeze;rw [if_neg (by decide)];rfl
 have hnew:(w.freeze ⟨g,cur.size,none⟩ 1).heap[g]?=some (.cells cur E (cur.size,cur.size+1)):=by
  rw [hfz];simp only [Uy,e2,if_true,kZ];rfl
 have hold:∀ b,b≠g→(w.freeze ⟨g,cur.size,none⟩ 1).heap[b]?=w.heap[b]?:=by
  intro b hb;rw [hfz];simp only [Uy,if_neg (Ne.symm hb)]
 have hsz:(w.freeze ⟨g,cur.size,none⟩ 1).heap.size=w.heap.size:=by rw [hfz];simp
 have hbi:mC (φ i)=some g:=by rw [e1];rfl
 have le:Ad h (FU h g cur):=by
  intro b cs eb;unfold FU;rw [if_neg (by rintro rfl;rw [e6] at eb;simp at eb)];exact eb
 have get:∀ {j:Nat} {x:AObj},(T.set i none)[j]?=some (some x)→j≠i∧T[j]?=some (some x):=by
  intro j x ej;rw [Ec] at ej;split at ej
  ·split at ej<;>simp at ej
  ·rename_i hh;exact ⟨λh=>hh h.symm,ej⟩
 refine ⟨_,_,FU h g cur,φ,hrun,⟨by rw [hfz],by rw [hfz],by rw [hfz],by rw [hsz];exact fW _,λb _ hn=>hold b (by rintro rfl;exact hn i _ hi hbi),le,?_,λ_ _=>rfl,λj o b hj hb=>.inr ⟨j,o,(get hj).2,hb⟩,by simp,by rw [hfz];exact fW _⟩,⟨?_,?_,?_⟩,?_⟩
 ·intro b cs eb;unfold FU at eb;split at eb
  ·rename_i hbg;subst hbg;exact .inr (.inr ⟨i,_,hi,hbi⟩)
  ·exact .inl eb
 ·intro b cs eb;unfold FU at eb;split at eb
  ·rename_i hbg;subst hbg;injection eb with eb;subst eb;exact ⟨E,_,hnew⟩
  ·rename_i hbg;obtain ⟨E',fr,hw⟩:=hI.gh b cs eb;exact ⟨E',fr,by rw [hold b hbg];exact hw⟩
 ·intro j o hj;obtain ⟨hji,hj⟩:=get hj;have hjl:j<T.length:=by
   rcases bY j T.length with hh | hh
   ·exact hh
   ·rw [gV hh] at hj;simp at hj
  refine oC (hI.obj j o hj) le (by simp) (λ_ _=>rfl) hjl λb hb=>?_;have hbg:b≠g:=by rintro rfl;exact hji (hI.dis j i _ _ _ hj hi hb hbi)
  refine ⟨hold b hbg,?_⟩;unfold FU;rw [if_neg hbg];exact (gM (hI.obj j o hj) hb).2
 ·intro j1 j2 o1 o2 b h1 h2 k1 k2;exact hI.dis j1 j2 o1 o2 b (get h1).2 (get h2).2 k1 k2
 ·simp only [Rp,mB];refine ⟨_,c+1,e1,e3,e4,.inr ⟨g,0,rfl,?_⟩⟩;refine iY.of_list (e7.mono le) hc λj v hj=>?_;unfold nZ FU;rw [if_pos rfl];rw [AI] at hj;split at hj
  ·simpa using hj
  ·simp at hj
def Ww {G:Nat→Option (List AV)} {s:List (Nat×AV)} {a:Act} {t e:TypeId} (ht:P.underlying t=some (.slice e)) (hu8:P.underlying e=some (.int .u8))
  (hG:rD G h) (hI:Inv h φ w T) (hS:rP h φ T.length s a) {p:Operand} {x:AV} {T':aQ} (he:bK T (bX G s) (.b2b p)=some (x,T')) :
  gY h φ T w ((convert t t (a.eval p)).run P w) x T':=by
 simp only [bK] at he;split at he
 ·rename_i i hp;have hr:=dA hG hS p;rw [hp] at hr;simp only [Rp] at hr;split at he
  ·rename_i k e0 es hT;split at he
   ·rename_i hk;subst hk;injection he with he;injection he with e1 e2;subst e1;subst e2;rw [hr.2.1];refine aC0 ht hu8 hI ?_;unfold cR at hT;split at hT
    ·rename_i o ho;rw [ho];injection hT with hT;rw [hT]
    ·simp at hT
   ·simp at he
  ·simp at he
 ·simp at he
end
end
section
section
variable {P:Program} {G:Nat→Option (List AV)} {h:GH} {φ:Nat→Value} {T:aQ} {w:World} {s:List (Nat×AV)} {a:Act}
def TM {T:aQ} {k:Nat} {x:AV} {es:List (List AV)} (e:Oi T k x=some es):Wj T k x=some (es,true):=by
 unfold Oi at e;unfold Wj;split at e
 ·split at e
  ·rename_i hk;subst hk;injection e with e;subst e;simp
  ·simp at e
 ·split at e
  ·rename_i hg;simp only [hg,pO];split at e
   ·rename_i hk;subst hk;injection e with e;subst e;simp
   ·simp at e
  ·simp at e
 ·injection e with e;subst e;rfl
 ·split at e
  ·rename_i hg;simp only [hg,pO];split at e
   ·rename_i hk;obtain ⟨rfl,rfl,hk⟩:=hk;injection e with e;subst e;simp [hk]
   ·simp at e
  ·simp at e
 ·simp at e
def RE {h:GH}:∀ {es:List (List AV)} {l:List UInt8} {us:List Value},Ia es=some l→cB h es.flatten us→∃ ns:List Int,us=ns.map (Value.int .u8)∧l=ns.map λn=>UInt8.ofNat n.toNat
 | [],l,us,e,hu=>by
  simp only [Ia,Option.some.injEq] at e;simp only [yM,cB] at hu;subst e;subst hu;exact ⟨[],rfl,rfl⟩
 | [.v (.int .u8 n)]::r,l,us,e,hu=>by
  simp only [Ia] at e;split at e
  ·rename_i l' hl;injection e with e;subst e;simp only [qP,Ag,FQ,cB,mB] at hu;obtain ⟨u,us',rfl,rfl,h2⟩:=hu;obtain ⟨ns,h3,h4⟩:=RE hl h2;exact ⟨n::ns,by simp [h3],by simp [h4]⟩
  ·simp at e
def Ku:∀ (ns:List Int) (s:ByteArray),ns.foldl (λr n=>r.push (UInt8.ofNat n.toNat)) s=⟨(s.data.toList++ns.map λn=>UInt8.ofNat n.toNat).toArray⟩
 | [],s=>by simp
 | n::ns,s=>by
  rw [HO,Ku ns];congr 1;simp [ByteArray.push]
def Wx {src d e:TypeId} (hs:P.underlying src=some (.slice e)) (hd:P.underlying d=some .string) (hu8:P.underlying e=some (.int .u8))
  (hG:rD G h) (hI:Inv h φ w T) (hS:rP h φ T.length s a) {p:Operand} {x:AV} {T':aQ} (he:bK T (bX G s) (.b2s p)=some (x,T')) :
  T'=T∧∃ v,(convert src d (a.eval p)).run P w=.ok v w∧Rp h φ T.length x v:=by
 have hp:=dA hG hS p;simp only [bK] at he;split at he
 ·rename_i es hes;split at he
  ·rename_i l hl;injection he with he;injection he with e1 e2;subst e1;subst e2;obtain ⟨hnew,A,c,news,hu,hnl,hcells⟩:=ZM hI hp (TM hes);obtain ⟨ns,h1,h2⟩:=RE hl hnl;refine ⟨rfl,.string ⟨l.toArray⟩,?_,by simp [Rp]⟩;rw [hu,run_convert_bytes_string w src d e _ _ _ hs hu8 hd];have hlen:ns.length=es.length:=by
    have:=hnl.length;rw [xD λd hd=>(hnew d hd).1,h1] at this;simpa using this.symm
   cases A with
   | none =>
    rcases hcells with rfl | ⟨b,o,hA,_⟩
    ·have:ns=[]:=CR (by simpa using hlen);subst this;subst h2;simp [Conv.bytesToString];rfl
    ·simp at hA
   | some A =>
    have hload:(loadCells A es.length).run P w=.ok (ns.map (Value.int .u8)).toArray w:=by
     rcases hcells with rfl | ⟨b,o,hA,hc⟩
     ·have:ns=[]:=CR (by simpa using hlen);subst this;simp [loadCells,loadCellsFrom]
     ·injection hA with hA;subst hA;rw [←h1];have hnn:es.length=news.length:=by rw [h1];simpa using hlen.symm
      rw [hnn];exact run_loadCells_list w ⟨b,o,none⟩ news λj v hj=>by rw [gB];exact hc j v hj
    rw [run_bytesToString w A _ _ ns hload,Ku,h2];simp
  ·simp at he
 ·simp at he
def Ox (hG:rD G h) (hS:rP h φ T.length s a) {o:Operand} {n:Nat} (e:WZ (bX G s o)=some n):∃ k i,a.eval o=.int k i∧0≤i∧n=i.toNat:=by
 unfold WZ at e;split at e
 ·rename_i k i hx;split at e
  ·rename_i h0;injection e with e;exact ⟨k,i,lB hG hS hx,h0,e.symm⟩
  ·simp at e
 ·simp at e
def xG {t e:TypeId} (ht:P.underlying t=some (.slice e)) {k:Nat} (hk:mU P e=some k) {A:Option Addr} {len cap l m x:Nat} {lo:Option Value} (hl:Bnd lo 0 l) {k1 k2:IntKind} {i1 i2:Int} (hm:0≤i1∧m=i1.toNat) (hx:0≤i2∧x=i2.toNat) (h1:l≤m) (h2:m≤x) (h3:x≤cap) :
  (Instr.sliceAt t (.slice A len cap) lo (some (.int k1 i1)) (some (.int k2 i2))).run P w=.ok (.slice (if x=l then A else A.map (·.add (l*k))) (m-l) (x-l)) w:=by
 obtain ⟨hm0,rfl⟩:=hm;obtain ⟨hx0,rfl⟩:=hx;rcases hl with ⟨rfl,rfl⟩ | ⟨k',i,rfl,h0,rfl⟩
 ·simp [Instr.sliceAt,Instr.slice,run_underlying ht,Instr.sliceBounds,gC hx0 h3,gC hm0 h2,oB hk]
 ·simp [Instr.sliceAt,Instr.slice,run_underlying ht,Instr.sliceBounds,gC hx0 h3,gC hm0 h2,gC h0 h1,oB hk]
def Aq (hI:Inv h φ w T) (A:Option Addr) (k:Nat):gY h φ T w (.ok (.slice A 0 0) w) (.own T.length) (T++[some (.arr k [])]):=by
 have:=qL (w':=w) (o:=.arr k []) (v:=.slice A 0 0) hI rfl rfl rfl (fW _) (λ_ _=>rfl) (λg hg=>by cases A<;>simp [mC] at hg) ⟨by simp,.inl ⟨A,bE,rfl⟩⟩;refine ⟨_,w,h,_,rfl,this.2,this.1,?_⟩;simp only [Rp];exact ⟨by simp,bE.symm,_,_,_,rfl⟩
def Cv (hI:Inv h φ w T) {r:Result Value} {v:Value} {x:AV} (hr:r=.ok v w) (hx:Rp h φ T.length x v):gY h φ T w r x T:=⟨v,w,h,φ,hr,Evo.refl,hI,hx⟩
def Wy {t e:TypeId} (ht:P.underlying t=some (.slice e)) {k:Nat} (hk:mU P e=some k)
  (hG:rD G h) (hI:Inv h φ w T) (hS:rP h φ T.length s a) {p:Operand} {lo:Option Operand} {hi mx:Operand} {x:AV} {T':aQ} (he:bK T (bX G s) (.slx p lo hi mx k)=some (x,T')) :
  gY h φ T w ((Instr.sliceAt t (a.eval p) (lo.map a.eval) (some (a.eval hi)) (some (a.eval mx))).run P w) x T':=by
 have hp:=dA hG hS p;simp only [bK] at he;split at he
 ·rename_i l m y hl hm hy;obtain ⟨k1,i1,m1,m2,m3⟩:=Ox hG hS hm;obtain ⟨k2,i2,y1,y2,y3⟩:=Ox hG hS hy;have hl':Bnd (lo.map a.eval) 0 l:=by
   cases lo with
   | none=>simp only [Option.some.injEq] at hl;exact .inl ⟨rfl,hl.symm⟩
   | some o=>obtain ⟨k',i',l1,l2,l3⟩:=Ox hG hS hl;exact .inr ⟨k',i',by simp [l1],l2,l3⟩
  rw [m1,y1];split at he
  ·rename_i k' es hev;rw [hev] at hp;simp only [Rp,mB] at hp;obtain ⟨A,c,hu,h1,h2,h3⟩:=hp;split at he
   ·rename_i hc;obtain ⟨rfl,hlm,hmy,hye⟩:=hc;rw [hu,xG ht hk hl' ⟨m2,m3⟩ ⟨y2,y3⟩ hlm hmy (by omega)];split at he
    ·rename_i hyl;injection he with he;injection he with e1 e2;subst e1;subst e2;rw [show m-l=0 by omega,show y-l=0 by omega];exact Aq hI _ _
    ·injection he with he;injection he with e1 e2;subst e1;subst e2;refine Cv hI rfl ?_;have hlen:((es.drop l).take (m-l)).length=m-l:=by rw [hZ,tT];omega
     simp only [Rp,mB];refine ⟨_,y-l,by rw [hlen],by rw [hlen];omega,by omega,?_⟩;by_cases h0:m-l=0
     ·exact .inl (by rw [h0];simp)
     ·rcases h3 with rfl | ⟨b,o,rfl,hE⟩
      ·simp at hye;omega
      ·refine .inr ⟨b,o+l*k,by rw [if_neg (by omega)];simp [gB],?_⟩;exact (hE.drop l).take _
   ·simp at he
  ·rename_i i hev;rw [hev] at hp;simp only [Rp] at hp;split at he
   ·rename_i k' es hg;split at he
    ·rename_i hc;obtain ⟨rfl,hlm,hmy,hye⟩:=hc;obtain ⟨_,h1 | ⟨g,c,cur,E,hφ,_,h2,h3,_⟩⟩:=wU hI hg
     ·obtain ⟨A,h1,rfl⟩:=h1;rw [hp.2.1,h1];simp only [kI] at hye;rw [xG ht hk hl' ⟨m2,m3⟩ ⟨y2,y3⟩ hlm hmy (by omega)];rw [if_pos (by omega)] at he;injection he with he;injection he with e1 e2;subst e1;subst e2;rw [show m-l=0 by omega,show y-l=0 by omega];exact Aq hI _ _
     ·rw [hp.2.1,hφ,xG ht hk hl' ⟨m2,m3⟩ ⟨y2,y3⟩ hlm hmy (by omega)];split at he
      ·injection he with he;injection he with e1 e2;subst e1;subst e2;rw [show m-l=0 by omega,show y-l=0 by omega];exact Aq hI _ _
      ·injection he with he;injection he with e1 e2;subst e1;subst e2;refine Cv hI rfl ?_;simp only [Rp];refine ⟨hp.1,_,_,rfl,by omega,by omega,?_⟩;by_cases h0:m-l=0
       ·exact .inl h0
       ·exact .inr ⟨g,_,c+1,hφ,by rw [if_neg (by omega)];simp [gB],by omega⟩
    ·simp at he
   ·simp at he
  ·rename_i i k' lo' n hev;rw [hev] at hp;simp only [Rp] at hp;obtain ⟨hi0,A,c,hu,h1,h2,h3⟩:=hp;split at he
   ·rename_i hc;obtain ⟨rfl,hlm,hmy,hye⟩:=hc;rw [hu,xG ht hk hl' ⟨m2,m3⟩ ⟨y2,y3⟩ hlm hmy (by omega)];split at he
    ·injection he with he;injection he with e1 e2;subst e1;subst e2;rw [show m-l=0 by omega,show y-l=0 by omega];exact Aq hI _ _
    ·injection he with he;injection he with e1 e2;subst e1;subst e2;refine Cv hI rfl ?_;simp only [Rp];refine ⟨hi0,_,_,rfl,by omega,by omega,?_⟩;by_cases h0:m-l=0
     ·exact .inl h0
     ·rcases h3 with rfl | ⟨g,l',c',hφ,rfl,h4⟩
      ·omega
      ·exact .inr ⟨g,l',c',hφ,by rw [if_neg (by omega)];simp [gB,CW],by omega⟩
   ·simp at he
  ·rename_i hev;split at he
   ·rename_i hc;obtain ⟨rfl,rfl,rfl⟩:=hc;injection he with he;injection he with e1 e2;subst e1;subst e2;rw [lB hG hS hev,xG ht hk hl' ⟨m2,m3⟩ ⟨y2,y3⟩ (fW _) (fW _) (fW _)];exact Aq hI _ _
   ·simp at he
  ·simp at he
 ·simp at he
end
end
end Hud
