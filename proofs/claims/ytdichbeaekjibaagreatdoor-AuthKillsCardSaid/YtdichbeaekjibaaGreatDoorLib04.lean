import Derived.Test.YtdichbeaekjibaaGreatDoorLib03
import Derived.Lib.ConvBytes
import Derived.Laws.BytesString
import Derived.Laws.MakeOwn
import Derived.Maps.RangeRun
import Derived.Lib.AppendStr
import Derived.Laws.Append
set_option linter.all false
namespace Hud
open Go
section
section
variable {P:Program} {G:Nat→Option (List AV)} {h:GH} {φ:Nat→Value} {T:aH} {w:World} {s:List (Nat×AV)} {a:Act}
def Bnd (o:Option Value) (d n:Nat):Prop:=(o=none∧n=d)∨∃ k i,o=some (.int k i)∧0≤i∧n=i.toNat
def fJ {k:IntKind} {i:Int} {y:Nat} {c:BoundsCode} (h0:0≤i) (h1:i.toNat≤y):(Instr.sliceBound (.int k i) y c).run P w=.ok i.toNat w:=by
 have:0≤i∧i≤y:=⟨h0,by omega⟩
 simp [Instr.sliceBound,asIntOf,this]
def Bw {b:Bool} {len cap l m:Nat} {lo hi:Option Value} (hl:Bnd lo 0 l) (hh:Bnd hi len m) (h1:l≤m) (h2:m≤cap):(Instr.sliceBounds b len cap lo hi none).run P w=.ok (l,m,cap) w:=by
 rcases hl with ⟨rfl,rfl⟩ | ⟨k,i,rfl,h0,rfl⟩<;>rcases hh with ⟨rfl,rfl⟩ | ⟨k',i',rfl,h0',rfl⟩
 ·rfl
 ·simp [Instr.sliceBounds,fJ h0' h2]
 ·simp [Instr.sliceBounds,fJ h0 h1]
 ·simp [Instr.sliceBounds,fJ h0 h1,fJ h0' h2]
def AN {t e:TypeId} (ht:P.underlying t=some (.slice e)) {k:Nat} (hk:lU P e=some k) {A:Option Addr} {len cap l m:Nat} {lo hi:Option Value} (hl:Bnd lo 0 l) (hh:Bnd hi len m) (h1:l≤m) (h2:m≤cap) :
  (Instr.sliceAt t (.slice A len cap) lo hi none).run P w=.ok (.slice (if cap=l then A else A.map (·.add (l*k))) (m-l) (cap-l)) w:=by
 simp [Instr.sliceAt,Instr.slice,run_underlying ht,Bw hl hh h1 h2,mU hk]
def R8 {t:TypeId} (ht:P.underlying t=some .string) {sb:ByteArray} {l m:Nat} {lo hi:Option Value} (hl:Bnd lo 0 l) (hh:Bnd hi sb.size m) (h1:l≤m) (h2:m≤sb.size) :
  (Instr.sliceAt t (.string sb) lo hi none).run P w=.ok (.string (sb.extract l m)) w:=by
 simp [Instr.sliceAt,Instr.slice,run_underlying ht,Bw hl hh h1 h2]
def mL (ev:Operand→AV) (o:Option Operand) (d:Nat):Option Nat:=match o with
 | none=>some d
 | some o=>match ev o with
  | .v (.int _ n)=>if 0≤n then some n.toNat else none
  | _=>none
def lV (hG:pS G h) (hS:qU h φ T.length s a) {o:Option Operand} {d n:Nat} (e:mL (cQ G s) o d=some n):Bnd (o.map a.eval) d n:=by
 unfold mL at e;split at e
 ·injection e with e;exact .inl ⟨rfl,e.symm⟩
 ·rename_i x;split at e
  ·rename_i k i hx;split at e
   ·rename_i h0;injection e with e;exact .inr ⟨k,i,by simp [jO hG hS hx],h0,e.symm⟩
   ·simp at e
  ·simp at e
def Vo {t e:TypeId} (ht:P.underlying t=some (.slice e)) {k:Nat} (hk:lU P e=some k)
  (hG:pS G h) (hI:Inv h φ w T) (hS:qU h φ T.length s a) {p:Operand} {lo hi:Option Operand} {x:AV} {T':aH} (he:bO T (cQ G s) (.slc p lo hi k)=some (x,T')) :
  T'=T∧∃ v,(Instr.sliceAt t (a.eval p) (lo.map a.eval) (hi.map a.eval) none).run P w=.ok v w∧Rp h φ T.length x v:=by
 have hp:=cJ hG hS p
 change (match cQ G s p with
  | .ls k' es=>match mL (cQ G s) lo 0,mL (cQ G s) hi es.length with
   | some l,some h=>if k=k'∧l≤h∧h≤es.length then some (.ls k ((es.drop l).take (h-l)),T) else none
   | _,_=>none
  | .own a=>match oX (bZ T a) with
   | some (k',es,_)=>match mL (cQ G s) lo 0,mL (cQ G s) hi es.length with
    | some l,some h=>if k=k'∧l≤h∧h≤es.length then some (.vw a k l (h-l),T) else none
    | _,_=>none
   | _=>none
  | .vw a k' lo' m=>match mL (cQ G s) lo 0,mL (cQ G s) hi m with
   | some l,some h=>if k=k'∧l≤h∧h≤m then some (.vw a k (lo'+l) (h-l),T) else none
   | _,_=>none
  | .v (.slice none 0 0)=>match mL (cQ G s) lo 0,mL (cQ G s) hi 0 with
   | some l,some h=>if l=0∧h=0 then some (.v (.slice none 0 0),T) else none
   | _,_=>none
  | _=>none)=some (x,T') at he
 split at he
 ·rename_i k' es hev;rw [hev] at hp;simp only [Rp,kY] at hp;obtain ⟨A,c,hu,h1,h2,h3⟩:=hp;split at he
  ·rename_i l m hl hm;split at he
   ·rename_i hc;obtain ⟨rfl,hlm,hme⟩:=hc;injection he with he;injection he with e1 e2;subst e1;subst e2;rw [hu];refine ⟨rfl,_,AN ht hk (lV hG hS hl) (lV hG hS hm) hlm (by omega),?_⟩;have hlen:((es.drop l).take (m-l)).length=m-l:=by simp_all;omega
    simp only [Rp,kY];refine ⟨_,c-l,by rw [hlen],by rw [hlen];omega,by omega,?_⟩;by_cases h0:m-l=0
    ·simp_all
    ·rcases h3 with rfl | ⟨b,o,rfl,hE⟩
     ·simp
     ·refine .inr ⟨b,o+l*k,by rw [if_neg (by omega)];simp [fI],?_⟩;exact (hE.drop l).take _
   ·simp at he
  ·simp at he
 ·rename_i i hev;rw [hev] at hp;simp only [Rp] at hp;split at he
  ·rename_i k' es b hg;split at he
   ·rename_i l m hl hm;split at he
    ·rename_i hc;obtain ⟨rfl,hlm,hme⟩:=hc;injection he with he;injection he with e1 e2;subst e1;subst e2;obtain ⟨_,h1 | ⟨g,c,cur,E,hφ,_,h2,h3,_⟩⟩:=nS hI hg
     ·obtain ⟨A,h1,rfl⟩:=h1;rw [hp.2.1,h1];refine ⟨rfl,_,AN ht hk (lV hG hS hl) (lV hG hS hm) hlm (by simpa using hme),?_⟩;grind [Rp,List.length_nil]
     ·rw [hp.2.1,hφ];refine ⟨rfl,_,AN ht hk (lV hG hS hl) (lV hG hS hm) hlm (by omega),?_⟩;simp only [Rp];refine ⟨hp.1,_,_,rfl,by omega,by omega,?_⟩;by_cases h0:m-l=0
      ·exact .inl h0
      ·exact .inr ⟨g,_,c+1,hφ,by rw [if_neg (by omega)];simp [fI],by omega⟩
    ·simp at he
   ·simp at he
  ·simp at he
 ·rename_i i k' lo' n hev;rw [hev] at hp;simp only [Rp] at hp;obtain ⟨hi0,A,c,hu,h1,h2,h3⟩:=hp;split at he
  ·rename_i l m hl hm;split at he
   ·rename_i hc;obtain ⟨rfl,hlm,hme⟩:=hc;injection he with he;injection he with e1 e2;subst e1;subst e2;rw [hu];refine ⟨rfl,_,AN ht hk (lV hG hS hl) (lV hG hS hm) hlm (by omega),?_⟩;simp only [Rp];refine ⟨hi0,_,_,rfl,by omega,by omega,?_⟩;by_cases h0:m-l=0
    ·exact .inl h0
    ·rcases h3 with rfl | ⟨g,len,c',hφ,rfl,hle⟩
     ·omega
     ·exact .inr ⟨g,len,c',hφ,by rw [if_neg (by omega)];simp [fI,CM],by omega⟩
   ·simp at he
  ·simp at he
 ·rename_i hev;rw [jO hG hS hev];split at he
  ·rename_i l m hl hm;split at he
   ·rename_i hc;obtain ⟨rfl,rfl⟩:=hc;injection he with he;injection he with e1 e2;subst e1;subst e2;exact ⟨rfl,_,AN ht hk (lV hG hS hl) (lV hG hS hm) (cT _) (cT _),by simp [Rp]⟩
   ·simp at he
  ·simp at he
 ·simp at he
def R9 {t:TypeId} (ht:P.underlying t=some .string)
  (hG:pS G h) (hS:qU h φ T.length s a) {p:Operand} {lo hi:Option Operand} {x:AV} {T':aH} (he:bO T (cQ G s) (.slcS p lo hi)=some (x,T')) :
  T'=T∧∃ v,(Instr.sliceAt t (a.eval p) (lo.map a.eval) (hi.map a.eval) none).run P w=.ok v w∧Rp h φ T.length x v:=by
 change (match cQ G s p with
  | .v (.string sb)=>match mL (cQ G s) lo 0,mL (cQ G s) hi sb.size with
   | some l,some h=>if l≤h∧h≤sb.size then some (.v (.string (sb.extract l h)),T) else none
   | _,_=>none
  | _=>none)=some (x,T') at he
 split at he
 ·rename_i sb hev;rw [jO hG hS hev];split at he
  ·rename_i l m hl hm;split at he
   ·rename_i hc;injection he with he;injection he with e1 e2;subst e1;subst e2;exact ⟨rfl,_,R8 ht (lV hG hS hl) (lV hG hS hm) hc.1 hc.2,by simp [Rp]⟩
   ·simp at he
  ·simp at he
 ·simp at he
def SA (d:TypeDesc) (c:Value):Option Nat :=
 match d,c with
 | .pointer _,.pointer none=>some 0
 | .slice _,.slice none 0 0=>some 1
 | .func _ _ _,.nilFunc=>some 2
 | _,_=>none
def Fk:Value→Prop
 | .pointer _=>True
 | .slice _ _ _=>True
 | .nilFunc=>True
 | .func _ _ _=>True
 | _=>False
def uH:∃ d,Op.maxDepth=d+1:=⟨9999,rfl⟩
def UP {t:TypeId} {d:TypeDesc} {c u:Value} {kd:Nat} (hk:SA d c=some kd) {neg b:Bool} {p y:Operand} (h1:(Op.equal t u c).run P w=.ok b w)
  (h2:Fk u) :
  (do eqGuard (if neg then .neq else .eql) t p y u c;binOp (if neg then .neq else .eql) t u c).run P w=.ok (.bool (if neg then !b else b)) w:=by
 unfold SA at hk;split at hk
 ·cases u<;>simp only [Fk] at h2<;>cases neg<;>simp [eqGuard,binOp,h1]
 ·cases u<;>simp only [Fk] at h2<;>cases neg<;>simp [eqGuard,binOp,h1]
 ·cases u<;>simp only [Fk] at h2<;>cases neg<;>simp [eqGuard,binOp,h1]
 ·simp at hk
def SB {t:TypeId} {d:TypeDesc} (ht:P.underlying t=some d) {c:Value} {kd:Nat} (hk:SA d c=some kd) {neg:Bool} {p y:Operand}
  (hG:pS G h) (hI:Inv h φ w T) (hS:qU h φ T.length s a) {x:AV} {T':aH} (he:bO T (cQ G s) (.nilS neg kd p)=some (x,T')) :
  T'=T∧∃ v,(do eqGuard (if neg then .neq else .eql) t p y (a.eval p) c;binOp (if neg then .neq else .eql) t (a.eval p) c).run P w=.ok v w∧Rp h φ T.length x v:=by
 have hp:=cJ hG hS p;have fin:∀ b:Bool,x=.v (.bool (if neg then !b else b))→(∀ u,u=a.eval p→(∃ g:Nat,(Op.equal t u c).run P w=.ok b w∧Fk u)) →
   ∃ v,(do eqGuard (if neg then .neq else .eql) t p y (a.eval p) c;binOp (if neg then .neq else .eql) t (a.eval p) c).run P w=.ok v w∧Rp h φ T.length x v:=by
  intro b hx hrun;obtain ⟨g,h1,h2⟩:=hrun _ rfl;exact ⟨.bool (if neg then !b else b),UP hk h1 h2,by rw [hx];simp [Rp]⟩
 simp only [bO] at he;split at he
 ·rename_i b hb;injection he with he;injection he with e1 e2;subst e1;subst e2;refine ⟨rfl,fin b rfl λu hu=>?_⟩;subst hu;unfold SA at hk;split at hb
  all_goals
   (try injection hb with hb)
   (try subst hb)
  ·rename_i hev;rw [jO hG hS hev];split at hk<;>simp at hk;exact ⟨0,by obtain ⟨d',hd'⟩:=uH;simp [Op.equal,hd',Op.equalIn,run_underlying ht],trivial⟩
  ·rename_i i o hev;rw [hev] at hp;simp only [Rp] at hp;obtain ⟨_,g,_,hu⟩:=hp;rw [hu];split at hk<;>simp at hk;exact ⟨0,by obtain ⟨d',hd'⟩:=uH;simp [Op.equal,hd',Op.equalIn,run_underlying ht],trivial⟩
  ·rename_i i k j o hev;rw [hev] at hp;simp only [Rp] at hp;obtain ⟨_,g,l,cc,_,hu⟩:=hp;rw [hu];split at hk<;>simp at hk;exact ⟨0,by obtain ⟨d',hd'⟩:=uH;simp [Op.equal,hd',Op.equalIn,run_underlying ht],trivial⟩
  ·rename_i cs hev;rw [hev] at hp;simp only [Rp] at hp;obtain ⟨b',o,hu,_⟩:=hp;rw [hu];split at hk<;>simp at hk;exact ⟨0,by obtain ⟨d',hd'⟩:=uH;simp [Op.equal,hd',Op.equalIn,run_underlying ht],trivial⟩
  ·rename_i hev;rw [jO hG hS hev];split at hk<;>simp at hk;exact ⟨1,by obtain ⟨d',hd'⟩:=uH;simp [Op.equal,hd',Op.equalIn,run_underlying ht],trivial⟩
  ·rename_i i hev;split at hb
   ·rename_i k e es b hg;injection hb with hb;subst hb;rw [hev] at hp;simp only [Rp] at hp;obtain ⟨_,h1 | ⟨g,cc,cur,E,hφ,_⟩⟩:=nS hI hg
    ·simp at h1
    ·rw [hp.2.1,hφ];split at hk<;>simp at hk;exact ⟨1,by obtain ⟨d',hd'⟩:=uH;simp [Op.equal,hd',Op.equalIn,run_underlying ht],trivial⟩
   ·simp at hb
  ·rename_i k e es hev;rw [hev] at hp;simp only [Rp,kY] at hp;obtain ⟨A,cc,hu,_,_,h3⟩:=hp;rcases h3 with h3 | ⟨b',o,rfl,_⟩
   ·simp at h3
   ·rw [hu];split at hk<;>simp at hk;exact ⟨1,by obtain ⟨d',hd'⟩:=uH;simp [Op.equal,hd',Op.equalIn,run_underlying ht],trivial⟩
  ·rename_i hev;rw [jO hG hS hev];split at hk<;>simp at hk;exact ⟨2,by obtain ⟨d',hd'⟩:=uH;simp [Op.equal,hd',Op.equalIn,run_underlying ht],trivial⟩
  ·rename_i f cs hev;rw [hev] at hp;simp only [Rp] at hp;obtain ⟨us,hu,_⟩:=hp;rw [hu];split at hk<;>simp at hk;exact ⟨3,by obtain ⟨d',hd'⟩:=uH;simp [Op.equal,hd',Op.equalIn,run_underlying ht],trivial⟩
  ·rename_i f a b hev;rw [jO hG hS hev];split at hk<;>simp at hk;exact ⟨3,by obtain ⟨d',hd'⟩:=uH;simp [Op.equal,hd',Op.equalIn,run_underlying ht],trivial⟩
  ·simp at hb
 ·simp at he
def P4 {ts:Array TypeId} {ty:TypeId} {mx:Bool} {p q:Operand}
  (hG:pS G h) (hS:qU h φ T.length s a) {x:AV} {T':aH} (he:bO T (cQ G s) (.mm mx p q)=some (x,T')) :
  T'=T∧∃ v,(if mx then Builtin.max_ ts ty #[a.eval p,a.eval q] else Builtin.min_ ts ty #[a.eval p,a.eval q]).run P w=.ok v w∧Rp h φ T.length x v:=by
 simp only [bO] at he;split at he
 ·rename_i k i k' j h1 h2;split at he
  ·rename_i hk;subst hk;injection he with he;injection he with e1 e2;subst e1;subst e2;rw [jO hG hS h1,jO hG hS h2];cases mx
   ·simp_all [Builtin.min_,Builtin.min2,Rp]
   ·simp_all [Builtin.max_,Builtin.max2,Rp]
  ·simp at he
 ·simp at he
end
def Ir (P:Program) (o:Oper):Option HOp :=
 match o.op with
 | .slice t x lo hi none=>match P.underlying t with
  | some (.slice e)=>match lU P e with
   | some k=>some (.slc x lo hi k)
   | none=>none
  | some .string=>some (.slcS x lo hi)
  | _=>none
 | .binOp op t x (.const c) _=>match P.underlying t with
  | some d=>match SA d c with
   | some k=>if op=.eql then some (.nilS false k x) else if op=.neq then some (.nilS true k x) else none
   | none=>none
  | none=>none
 | .call c=>match c.callee,c.args.toList with
  | .builtin .max,[x,y]=>some (.mm true x y)
  | .builtin .min,[x,y]=>some (.mm false x y)
  | _,_=>none
 | _=>none
section
variable {P:Program} {G:Nat→Option (List AV)} {h:GH} {φ:Nat→Value} {w:World} {a:Act} {st:St} {K:AV→aH→Prop} {next:Act→World→Prop} {Q:Exit→Act→World→Prop}
def YD {kd:Nat} {x:AV} (he:N2 kd x=true):kd=1∧∃ k,x=.ls k []:=by
 unfold N2 at he;grind
def UQ {t:TypeId} {d:TypeDesc} (ht:P.underlying t=some d) {c:Value} {kd:Nat} (hk:SA d c=some kd) {neg:Bool} {p y:Operand}
  (hG:pS G h) (hI:Inv h φ w st.T) (hS:qU h φ st.T.length st.s a) (hw:rV P G st (.nilS neg kd p) K) :
  ∃ x,K x st.T∧∃ v,(do eqGuard (if neg then .neq else .eql) t p y (a.eval p) c;binOp (if neg then .neq else .eql) t (a.eval p) c).run P w=.ok v w∧Rp h φ st.T.length x v:=by
 simp only [rV] at hw;split at hw
 ·rename_i hn;obtain ⟨rfl,k,hev⟩:=YD hn;have hp:=cJ hG hS p;rw [hev] at hp;simp only [Rp,kY] at hp;obtain ⟨A,cc,hu,_,_,_⟩:=hp;have fin:∀ b:Bool,(Op.equal t (a.eval p) c).run P w=.ok b w→∃ x,K x st.T∧∃ v,(do eqGuard (if neg then .neq else .eql) t p y (a.eval p) c;binOp (if neg then .neq else .eql) t (a.eval p) c).run P w=.ok v w∧Rp h φ st.T.length x v:=λb hb=>by
   refine ⟨.v (.bool (if neg then !b else b)),?_,.bool (if neg then !b else b),UP hk hb (by rw [hu];trivial),by simp [Rp]⟩;cases (if neg then !b else b)
   ·exact hw.2
   ·exact hw.1
  unfold SA at hk;split at hk<;>simp at hk
  cases A with
  | none=>exact fin true (by rw [hu];obtain ⟨d',hd'⟩:=uH;simp [Op.equal,hd',Op.equalIn,run_underlying ht])
  | some b=>exact fin false (by rw [hu];obtain ⟨d',hd'⟩:=uH;simp [Op.equal,hd',Op.equalIn,run_underlying ht])
 ·split at hw
  ·rename_i x T' he;obtain ⟨rfl,v,h1,h2⟩:=SB (y:=y) ht hk hG hI hS he;exact ⟨x,hw,v,h1,h2⟩
  ·exact hw.elim
def Vp {o:Oper} {ho:HOp} (hc:Ir P o=some ho) (hw:rV P G st ho K) (hG:pS G h) (hI:Inv h φ w st.T) (hS:qU h φ st.T.length st.s a)
  (hn:∀ v w',Bv h φ st.T w K v w'→next (a.put o.dst v) w'):nT P o a w next:=by
 have pure_op:∀ {sv:Sem Value} (_:execOp a.eval o=(do pure (.value (←sv)))) (_:(∀ f l,ho≠.call f l)∧(∀ p,ho≠.nxt p)∧∀ n k x,ho≠.nilS n k x) (_:∀ x T',bO st.T (cQ G st.s) ho=some (x,T')→T'=st.T∧∃ v,sv.run P w=.ok v w∧Rp h φ st.T.length x v),nT P o a w next:=by
  intro sv he hcall hrun;obtain ⟨x,T',e,hk⟩:=D3 hcall hw;obtain ⟨rfl,v,h1,h2⟩:=hrun x T' e;exact qZ he h1 (hn v w (pA hI h2 hk))
 obtain ⟨dst,op,ty,pos,after,guard⟩:=o;unfold Ir at hc;simp only at hc;split at hc
 ·rename_i t x lo hi;split at hc
  ·rename_i e ht;split at hc
   ·rename_i k hk;injection hc with hc;subst hc;exact pure_op (sv:=Instr.sliceAt t (a.eval x) (lo.map a.eval) (hi.map a.eval) none) rfl (by simp) λy T' he=>Vo ht hk hG hI hS he
   ·simp at hc
  ·rename_i ht;injection hc with hc;subst hc;exact pure_op (sv:=Instr.sliceAt t (a.eval x) (lo.map a.eval) (hi.map a.eval) none) rfl (by simp) λy T' he=>R9 ht hG hS he
  ·simp at hc
 ·rename_i op t x c yt;split at hc
  ·rename_i d ht;split at hc
   ·rename_i k hk;split at hc
    ·rename_i bO;subst bO;injection hc with hc;subst hc;obtain ⟨y,hy,v,h1,h2⟩:=UQ (neg:=false) (y:=.const c) ht hk hG hI hS hw;exact qZ (sv:=do eqGuard .eql t x (.const c) (a.eval x) c;binOp .eql t (a.eval x) c) rfl h1 (hn v w (pA hI h2 hy))
    ·split at hc
     ·rename_i bO;subst bO;injection hc with hc;subst hc;obtain ⟨y,hy,v,h1,h2⟩:=UQ (neg:=true) (y:=.const c) ht hk hG hI hS hw;exact qZ (sv:=do eqGuard .neq t x (.const c) (a.eval x) c;binOp .neq t (a.eval x) c) rfl h1 (hn v w (pA hI h2 hy))
     ·simp at hc
   ·simp at hc
  ·simp at hc
 ·rename_i c;obtain ⟨callee,args,argTypes⟩:=c;simp only at hc;split at hc
  ·rename_i x y hargs;have ha:args=#[x,y]:=CK.1 (by rw [hargs]);subst ha;injection hc with hc;subst hc;exact pure_op (sv:=Builtin.max_ argTypes ty #[a.eval x,a.eval y]) (by simp [execOp,resolve,invoke,builtin]) (by simp) λz T' he=>P4 (ts:=argTypes) (ty:=ty) (mx:=true) hG hS he
  ·rename_i x y hargs;have ha:args=#[x,y]:=CK.1 (by rw [hargs]);subst ha;injection hc with hc;subst hc;exact pure_op (sv:=Builtin.min_ argTypes ty #[a.eval x,a.eval y]) (by simp [execOp,resolve,invoke,builtin]) (by simp) λz T' he=>P4 (ts:=argTypes) (ty:=ty) (mx:=false) hG hS he
  ·simp at hc
 ·simp at hc
end
end
section
section
variable {P:Program} {w:World}
def Jq (a b:ByteArray):(a==b)=true↔a=b:=by
 rw [beq_toListBytes,beq_iff_eq,ByteArray.toList_eq,ByteArray.toList_eq];constructor
 ·intro h;obtain ⟨a⟩:=a;simp_all
 ·rintro rfl;rfl
def CU:∀ {ls:List LK} {xs ys:List Value},oU ls xs ys=some true→xs=ys
 | [],xs,ys,e=>by cases xs<;>cases ys<;>simp_all [oU]
 | k::ls,xs,ys,e=>by
  cases xs with
  | nil=>cases k<;>simp [oU] at e
  | cons x xs =>
   cases ys with
   | nil=>cases k<;>cases x<;>simp [oU] at e
   | cons y ys =>
    cases k<;>cases x<;>cases y<;>simp only [oU] at e<;>(try (simp at e;done))
    ·split at e
     ·rename_i hk;split at e
      ·rename_i r hr;simp only [Option.some.injEq,lN,beq_iff_eq] at e;obtain ⟨rfl,rfl⟩:=e;rw [CU hr,hk.1,hk.2]
      ·simp at e
     ·simp at e
    ·split at e
     ·rename_i r hr;simp only [Option.some.injEq,lN,beq_iff_eq] at e;obtain ⟨rfl,rfl⟩:=e;rw [CU hr]
     ·simp at e
    ·split at e
     ·rename_i r hr;simp only [Option.some.injEq,lN] at e;obtain ⟨h1,rfl⟩:=e;rw [←beq_toListBytes,Jq] at h1;rw [CU hr,h1]
     ·simp at e
def CV (ens:List MapEntry) (i:Nat) (r:Option Nat) (out:Option (Nat×Value)):Prop :=
 match r with
 | none=>out=none
 | some j=>i≤j∧∃ e,ens[j-i]?=some e∧out=some (j,e.val)
def Jr {e:MapEntry} {ens:List MapEntry} {i:Nat} {r:Option Nat} {out:Option (Nat×Value)} (h:CV ens (i+1) r out):CV (e::ens) i r out:=by
 cases r with
 | none=>exact h
 | some j =>
  obtain ⟨h1,x,h2,h3⟩:=h;refine ⟨by omega,x,?_,h3⟩;grind
def YE {n:Nat} {kt:TypeId} {ag:Bool} {ls:List LK} (hk:fH P n kt=some (ag,ls)) (hn:n≤Op.maxDepth) {kc:List Value}:∀ (ens:List MapEntry) (ks:List (List Value)) (i:Nat) (r:Option Nat),
  ens.map (·.key)=ks.map (gY ag)→mK ls kc ks i=some r→∃ out,CV ens i r out∧(Instr.findAsking kt (gY ag kc) ens i).run P w=.ok out w
 | [],[],i,r,_,hf=>by
  simp only [mK,Option.some.injEq] at hf;subst hf;exact ⟨none,rfl,by simp [Instr.findAsking]⟩
 | [],_::_,_,_,hm,_=>by simp at hm
 | _::_,[],_,_,hm,_=>by simp at hm
 | e::ens,k::ks,i,r,hm,hf=>by
  simp only [fE,List.cons.injEq] at hm;simp only [mK] at hf;have heq:∀ b,oU ls kc k=some b→(Op.equal kt (gY ag kc) e.key).run P w=.ok b w:=λb hb=>by
   rw [hm.1];exact (DV n kt ag ls hk).2 Op.maxDepth hn _ _ _ hb
  split at hf
  ·rename_i hb;injection hf with hf;subst hf;exact ⟨some (i,e.val),⟨cT _,e,by simp,rfl⟩,by simp [Instr.findAsking,heq _ hb]⟩
  ·rename_i hb;obtain ⟨out,h1,h2⟩:=YE hk hn ens ks (i+1) r hm.2 hf;exact ⟨out,Jr h1,by simp [Instr.findAsking,heq _ hb,h2]⟩
  ·simp at hf
def P5:LK→TypeDesc→Prop
 | .int k,d=>d=.int k
 | .bool,d=>d=.bool
 | .str,d=>d=.string
def M1 {l:LK} {d:TypeDesc} (hd:P5 l d) {x y:List Value} {b:Bool} (h:oU [l] x y=some b):Instr.sameNow d (gY false x) (gY false y)=some b:=by
 have hl:=xW h
 match x,y,hl with
 | [x],[y],_ =>
  cases l<;>cases x<;>cases y<;>simp only [oU] at h<;>(try (simp at h;done))
  ·simp_all [AI,Option.some.injEq,P5,gY,Instr.sameNow]
  ·simp_all [AI,Option.some.injEq,P5,gY,Instr.sameNow]
  ·simp only [AI,Option.some.injEq] at h;simp only [P5] at hd;subst hd;simp [gY,Instr.sameNow,←h,beq_toListBytes]
def OA {l:LK} {d:TypeDesc} (hd:P5 l d) {kc:List Value}:∀ (ens:List MapEntry) (ks:List (List Value)) (i:Nat) (r:Option Nat),
  ens.map (·.key)=ks.map (gY false)→mK [l] kc ks i=some r→∃ out,CV ens i r out∧Instr.findNow d (gY false kc) ens i=some out
 | [],[],i,r,_,hf=>by
  simp only [mK,Option.some.injEq] at hf;subst hf;exact ⟨none,rfl,by simp [Instr.findNow]⟩
 | [],_::_,_,_,hm,_=>by simp at hm
 | _::_,[],_,_,hm,_=>by simp at hm
 | e::ens,k::ks,i,r,hm,hf=>by
  simp only [fE,List.cons.injEq] at hm;simp only [mK] at hf;split at hf
  ·rename_i hb;injection hf with hf;subst hf;refine ⟨some (i,e.val),⟨cT _,e,by simp,rfl⟩,?_⟩;simp only [Instr.findNow,hm.1,M1 hd hb]
  ·rename_i hb;obtain ⟨out,h1,h2⟩:=OA hd ens ks (i+1) r hm.2 hf;refine ⟨out,Jr h1,?_⟩;simp only [Instr.findNow,hm.1,M1 hd hb,h2]
  ·simp at hf
def vH {n:Nat} {kt:TypeId} {ag:Bool} {ls:List LK} (hk:fH P n kt=some (ag,ls)) (hn:n≤Op.maxDepth) {kc:List Value} {ens:List MapEntry} {ks:List (List Value)} {r:Option Nat}
  (hm:ens.map (·.key)=ks.map (gY ag)) (hf:mK ls kc ks 0=some r):∃ out,CV ens 0 r out∧(Instr.findKey kt (gY ag kc) ens).run P w=.ok out w:=by
 cases n with
 | zero=>simp [fH] at hk
 | succ n =>
  have hk':=hk;simp only [fH] at hk';split at hk'
  ·rename_i k hu;injection hk' with hk';injection hk' with e1 e2;subst e1;subst e2;obtain ⟨out,h1,h2⟩:=OA (d:=.int k) (l:=.int k) rfl ens ks 0 r hm hf;exact ⟨out,h1,by simp [Instr.findKey,run_underlying hu,h2]⟩
  ·rename_i hu;injection hk' with hk';injection hk' with e1 e2;subst e1;subst e2;obtain ⟨out,h1,h2⟩:=OA (d:=.bool) (l:=.bool) rfl ens ks 0 r hm hf;exact ⟨out,h1,by simp [Instr.findKey,run_underlying hu,h2]⟩
  ·rename_i hu;injection hk' with hk';injection hk' with e1 e2;subst e1;subst e2;obtain ⟨out,h1,h2⟩:=OA (d:=.string) (l:=.str) rfl ens ks 0 r hm hf;exact ⟨out,h1,by simp [Instr.findKey,run_underlying hu,h2]⟩
  ·rename_i fs hu;obtain ⟨out,h1,h2⟩:=YE (w:=w) hk hn ens ks 0 r hm hf
   cases ens with
   | nil =>
    cases ks with
    | nil =>
     simp only [mK,Option.some.injEq] at hf;subst hf;exact ⟨none,rfl,by simp [Instr.findKey,run_underlying hu,Instr.findNow]⟩
    | cons k ks=>simp at hm
   | cons e ens =>
    refine ⟨out,h1,?_⟩;have:Instr.findNow (.struct fs) (gY ag kc) (e::ens) 0=none:=by
     rfl
    simp [Instr.findKey,run_underlying hu,this,h2]
  ·simp at hk'
def M2 {n:Nat} {em:Bool} {d:Nat} (ih:∀ t ag ks,fH P n t=some (ag,ks)→(ag=false→ks.length=1)∧∀ xs b,oU ks xs xs=some b→(Instr.checkKey em d t (gY ag xs)).run P w=.ok () w)
    (X:Array Value):∀ (fs:List Field) (off:Nat) (ks:List LK) (b:Bool),Ei P (fH P n) fs off=some ks →
      oU ks (X.toList.drop off) (X.toList.drop off)=some b→off≤X.size →
      (forIn fs PUnit.unit (λf _=>if f.name ≠ "_" then (do
          let y ←part f.type X f.offset
          Instr.checkKey em d f.type y
          pure (ForInStep.yield PUnit.unit)) else pure (ForInStep.yield PUnit.unit)):Sem PUnit).run P w=.ok () w
  | [],off,ks,b,hk,he,_=>by simp
  | f::fs,off,ks,b,hk,he,hX=>by
    simp only [Ei] at hk;split at hk
    · rename_i ag ks1 hg
      split at hk
      · rename_i hc
        obtain ⟨hname,hoff,hag⟩:=hc
        split at hk
        · rename_i l hl
          injection hk with hk
          subst hk
          obtain ⟨b1,b2,h1,h2,h3⟩:=Fg he
          have hlen:=xW he
          simp only [xS,gK,Dx] at hlen
          obtain ⟨hone,hi⟩:=ih _ _ _ hg
          have hpx:(part f.type X f.offset).run P w=.ok (gY ag ((X.toList.drop off).take ks1.length)) w:=by
            rw [hoff];exact CR hag hone (by omega)
          have hr:=hi _ _ h1
          rw [Hi] at h2
          have hrec:=M2 ih X fs (off+ks1.length) l b2 hl h2 (by omega)
          simp only [List.forIn_cons,Sem.run_bind,hname,ne_eq,not_false_eq_true,if_true,Result.andThen_ok,hpx,hr,Sem.run_pure]
          exact hrec
        · simp at hk
      · simp at hk
    · simp at hk
def P6 {em:Bool}:∀ (n:Nat) (kt:TypeId) (ag:Bool) (ls:List LK),fH P n kt=some (ag,ls)→∀ d,n≤d→∀ kc b,oU ls kc kc=some b→(Instr.checkKey em d kt (gY ag kc)).run P w=.ok () w
 | 0,_,_,_,hk=>by simp [fH] at hk
 | n+1,kt,ag,ls,hk=>by
  intro d hd kc b hb;obtain ⟨d,rfl⟩:∃ d',d=d'+1:=⟨d-1,by omega⟩
  have hk':=hk;simp only [fH] at hk';split at hk'
  ·rename_i k hu;simp [Instr.checkKey,run_underlying hu]
  ·rename_i hu;simp [Instr.checkKey,run_underlying hu]
  ·rename_i hu;simp [Instr.checkKey,run_underlying hu]
  ·rename_i fs hu;split at hk'
   ·simp at hk'
   ·split at hk'
    ·rename_i l hl;injection hk' with hk';injection hk' with e1 e2;subst e1;subst e2;have h:=M2 (w:=w) (em:=em) (d:=d) (λt ag ks ht=>⟨(DV (w:=w) n t ag ks ht).1,P6 n t ag ks ht d (by omega)⟩) kc.toArray fs.toList 0 l b hl (by simpa using hb) (by simp);simp only [Instr.checkKey,gY,if_true,Sem.run_bind,run_underlying hu,Result.andThen_ok];rw [←Array.forIn_toList,h];simp
    ·simp at hk'
  ·simp at hk'
def zJ:∀ {ls:List LK} {xs:List Value} {b:Bool},oU ls xs xs=some b→∀ x∈xs,∀ n,Instr.sameBits n x x=true
 | [],xs,b,h,x,hx=>by cases xs<;>simp_all [oU]
 | l::ls,[],b,h,x,hx=>by simp at hx
 | l::ls,y::xs,b,h,x,hx=>by
  have hrec:∃ b',oU ls xs xs=some b':=by
   cases l<;>cases y<;>simp only [oU] at h<;>(try (simp at h;done))
   ·grind
   ·grind
   ·grind
  obtain ⟨b',hb'⟩:=hrec;intro n;rcases jB.1 hx with rfl | hx
  ·cases l<;>cases x<;>simp only [oU] at h<;>(try (simp at h;done))<;>cases n<;>simp [Instr.sameBits,Jq]
  ·exact zJ hb' x hx n
def P7 {ag:Bool} {ls:List LK} {kc:List Value} {b:Bool} (hb:oU ls kc kc=some b) (h1:ag=false→ls.length=1):(Instr.keyThatStays (gY ag kc) (gY ag kc)).run P w=.ok (gY ag kc) w:=by
 have:Instr.sameBits 10000 (gY ag kc) (gY ag kc)=true:=by
  cases ag with
  | false =>
   have hl:=xW hb;rw [h1 rfl] at hl
   match kc,hl with
   | [x],_=>simpa [gY] using zJ hb x (by simp) 10000
  | true =>
   have key:∀ m,Instr.sameBits (m+1) (gY true kc) (gY true kc)=true:=λm=>by
    simp only [gY,if_true,Instr.sameBits,beq_self_eq_true,kN,lF];rintro ⟨x,y⟩ hm;have hxy:x=y∧x∈kc:=by
     rw [List.zip_eq_zipWith] at hm;obtain ⟨i,hi⟩:=Md hm;grind
    rw [←hxy.1];exact zJ hb x hxy.2 m
   exact key 9999
 simp [Instr.keyThatStays,this]
end
end
section
section
variable {P:Program} {G:Nat→Option (List AV)} {h:GH} {φ:Nat→Value} {T:aH} {w:World} {s:List (Nat×AV)} {a:Act}
def M3 {n:Nat}:∀ {cs:List AV} {us kc:List Value},Eh cs=some kc→bK h φ n cs us→us=kc
 | [],us,kc,e,hr=>by
  grind [Eh,Option.some.injEq,bK]
 | c::cs,us,kc,e,hr=>by
  cases c<;>simp only [Eh] at e<;>(try (simp at e;done))
  simp only [bK,Rp] at hr;obtain ⟨u,us',rfl,rfl,h2⟩:=hr;split at e
  ·rename_i l hl;injection e with e;subst e;rw [M3 hl h2]
  ·simp at e
def Iu {n:Nat} {x:AV} {u:Value} {ag:Bool} {ls:List LK} {kc:List Value} (hx:Rp h φ n x u) (e:IB ag ls x=some kc):u=gY ag kc∧∃ b,oU ls kc kc=some b:=by
 unfold IB at e;split at e
 ·rename_i k hk;split at e
  ·rename_i b hb;injection e with e;subst e;refine ⟨?_,b,hb⟩;split at hk
   ·rename_i hag;subst hag;split at hk
    ·rename_i cs hcs;have:∃ us:Array Value,u=.agg us∧bK h φ n cs us.toList:=by
      unfold Rv at hcs;split at hcs
      ·grind [Rp]
      ·injection hcs with hcs;subst hcs;simp only [Rp] at hx;exact ⟨_,hx,Jh h φ n _⟩
      ·simp at hcs
     obtain ⟨us,rfl,hr⟩:=this;have:=M3 hk hr;simp [gY,←this]
    ·simp at hk
   ·grind [Rp,gY]
  ·simp at e
 ·simp at e
def Ax (hI:Inv h φ w T) {i:Nat} {ag:Bool} {ks:List (List Value)} {vs:List AV} {bs:List Nat} {cl:Nat} (hg:bZ T i=some (.map ag ks vs bs cl)) :
  ∃ (g:Nat) (ens:Array MapEntry),φ i=.map (some g)∧w.heap[g]?=some (.map ens cl)∧h g=none ∧
   ens.toList.map (·.key)=ks.map (gY ag)∧ens.toList.map (·.born)=bs∧bK h φ T.length vs (ens.toList.map (·.val)):=hI.obj i _ (aZ hg)
def jD {r:Nat} {es:Array MapEntry} {clock:Nat} (hb:w.heap[r]?=some (.map es clock)):(getObj r).run P w=.ok (.map es clock) w:=by simp [getObj,Sem.run,hb]
def pU {r:Nat} {es:Array MapEntry} {clock:Nat} (o:Obj) (hb:w.heap[r]?=some (.map es clock)):(setObj r o).run P w=.ok () { w with heap:=w.heap.setIfInBounds r o }:=by simp [setObj,Sem.run,hb]
def Ay (hI:Inv h φ w T) {i:Nat} {ag:Bool} {ks:List (List Value)} {vs:List AV} {bs:List Nat} {cl:Nat} (hg:bZ T i=some (.map ag ks vs bs cl)) {g:Nat} {ens:Array MapEntry} (hφ:φ i=.map (some g)) (hw:w.heap[g]?=some (.map ens cl))
  {ens':Array MapEntry} {ks':List (List Value)} {vs':List AV} {bs':List Nat} {cl':Nat} (h1:ens'.toList.map (·.key)=ks'.map (gY ag)) (h2:ens'.toList.map (·.born)=bs') (h3:bK h φ T.length vs' (ens'.toList.map (·.val))) :
  Inv h φ { w with heap:=w.heap.setIfInBounds g (.map ens' cl') } (T.set i (some (.map ag ks' vs' bs' cl'))) ∧
  Evo h φ T w h φ (T.set i (some (.map ag ks' vs' bs' cl'))) { w with heap:=w.heap.setIfInBounds g (.map ens' cl') }:=by
 have hlt:g<w.heap.size:=by
  grind
 have hn:=(fO (hI.obj i _ (aZ hg)) (g:=g) (by rw [hφ];rfl)).2;refine DW (w':={ w with heap:=w.heap.setIfInBounds g (.map ens' cl') }) hI rfl rfl rfl (by simp) (aZ hg) (λb _ hne=>?_) ⟨g,ens',hφ,by simp [hlt],hn,h1,h2,h3⟩;have:g≠b:=λe=>hne (by rw [hφ,e];rfl);simp_all
def Vq (hI:Inv h φ w T) (t:TypeId) (ag:Bool):fV h φ T w ((Instr.makeMap t none).run P w) (.mp T.length) (T++[some (.map ag [] [] [] 0)]):=by
 have hn:h w.heap.size=none:=DX hI;have:=pG (w':=w.alloc (.map #[] 0)) (o:=.map ag [] [] [] 0) (v:=.map (some w.heap.size)) hI rfl rfl rfl (by simp) (λb hb=>iO w _ b hb)
  (λg hg=>by simp only [iE,Option.some.injEq] at hg;omega)
  ⟨w.heap.size,#[],bA,heap_alloc_new w _,hn,by simp,by simp,by simp [bK]⟩
 refine ⟨_,_,h,_,by simp [Instr.makeMap];rfl,this.2,this.1,?_⟩;simp only [Rp];exact ⟨by simp,bA.symm,w.heap.size,rfl⟩
def Vr {ens:Array MapEntry} {vs:List AV} {n:Nat} (hv:bK h φ n vs (ens.toList.map (·.val))) {j:Nat} {out:Option (Nat×Value)} (hf:CV ens.toList 0 (some j) out) {x:AV} (hx:vs[j]?=some x) :
  ∃ e,ens[j]?=some e∧out=some (j,e.val)∧Rp h φ n x e.val:=by
 obtain ⟨_,e,h1,h2⟩:=hf;obtain ⟨u,h3,h4⟩:=hv.get hx;simp_all
def Vs {t kt et:TypeId} (ht:P.underlying t=some (.map kt et)) {ag:Bool} {ls:List LK} (hk:fH P 20 kt=some (ag,ls)) {i:TypeInfo} (hi:P.info? et=some i) {z:Value} (hz:i.zero=some z) {ok:Bool}
  (hG:pS G h) (hI:Inv h φ w T) (hS:qU h φ T.length s a) {m k:Operand} {x:AV} {T':aH} (he:bO T (cQ G s) (.lku ag ls z m k ok)=some (x,T')) :
  T'=T∧∃ v,(Instr.lookup t (a.eval m) (a.eval k) ok).run P w=.ok v w∧Rp h φ T.length x v:=by
 have hm:=cJ hG hS m;have hkv:=cJ hG hS k;simp only [bO] at he;split at he
 ·rename_i ks vs kc hmap hkc;obtain ⟨hku,b,hb⟩:=Iu hkv hkc;have hck:∀ em,(Instr.checkKey em 10000 kt (a.eval k)).run P w=.ok () w:=λem=>by rw [hku];exact P6 20 kt ag ls hk 10000 (by omega) kc b hb
  have hzr:(zeroValue et).run P w=.ok z w:=by simp [zeroValue,typeInfo,hi,hz]
  have hen:∃ ens:Array MapEntry,ens.toList.map (·.key)=ks.map (gY ag)∧bK h φ T.length vs (ens.toList.map (·.val)) ∧
    ∀ out,(Instr.findKey kt (a.eval k) ens.toList).run P w=.ok out w→(Instr.lookup t (a.eval m) (a.eval k) ok).run P w=.ok (match out with | some (_,v)=>if ok then .tuple #[v,.bool true] else v | none=>if ok then .tuple #[z,.bool false] else z) w:=by
   unfold Xw at hmap;split at hmap
   ·rename_i hev;injection hmap with hmap;injection hmap with e1 e2;subst e1;subst e2;refine ⟨#[],rfl,by simp [bK],λout hout=>?_⟩;have:out=none:=by
     have:(Instr.findKey kt (a.eval k) []).run P w=.ok none w:=by
      obtain ⟨o,h1,h2⟩:=vH (w:=w) (kc:=kc) (ens:=[]) (ks:=[]) (r:=none) hk (by decide) rfl rfl;rw [hku,h2];simp only [CV] at h1;rw [h1]
     rw [this] at hout;injection hout with hout _;exact hout.symm
    subst this;rw [jO hG hS hev];have hf:(Instr.findKey kt (a.eval k) (#[]:Array MapEntry).toList).run P w=.ok none w:=hout;simp [Instr.lookup,run_underlying ht,hck,hf,hzr]
   ·rename_i i hev;split at hmap
    ·rename_i ag' ks' vs' bs cl hg;split at hmap
     ·rename_i hag;subst hag;injection hmap with hmap;injection hmap with e1 e2;subst e1;subst e2;obtain ⟨g,ens,h1,h2,h3,h4,h5,h6⟩:=Ax hI hg;refine ⟨ens,h4,h6,λout hout=>?_⟩;rw [hev] at hm;simp only [Rp] at hm;rw [hm.2.1,h1]
      cases out with
      | none=>simp [Instr.lookup,run_underlying ht,jD h2,hck,hout,hzr]
      | some p=>simp [Instr.lookup,run_underlying ht,jD h2,hck,hout]
     ·simp at hmap
    ·simp at hmap
   ·simp at hmap
  obtain ⟨ens,hkeys,hvals,hrun⟩:=hen;split at he
  ·rename_i hf;injection he with he;injection he with e1 e2;subst e1;subst e2;obtain ⟨out,h1,h2⟩:=vH (w:=w) hk (by decide) hkeys hf;simp only [CV] at h1;subst h1;refine ⟨rfl,_,hrun none (by rw [hku];exact h2),?_⟩;cases ok<;>simp [Rp,bK]
  ·rename_i j hf;split at he
   ·rename_i y hy;injection he with he;injection he with e1 e2;subst e1;subst e2;obtain ⟨out,h1,h2⟩:=vH (w:=w) hk (by decide) hkeys hf;obtain ⟨e,h3,h4,h5⟩:=Vr hvals h1 hy;subst h4;refine ⟨rfl,_,hrun _ (by rw [hku];exact h2),?_⟩;cases ok
    ·simpa using h5
    ·simp only [if_true,Rp,bK];exact ⟨_,rfl,_,_,rfl,h5,_,_,rfl,rfl,rfl⟩
   ·simp at he
  ·simp at he
 ·simp at he
def P8 {ls:List LK} {kc:List Value}:∀ (ks:List (List Value)) (i:Nat) {j:Nat},mK ls kc ks i=some (some j)→i≤j
 | [],i,j,h=>by simp [mK] at h
 | k::ks,i,j,h=>by
  simp only [mK] at h;split at h
  ·simp_all
  ·have:=P8 ks (i+1) h;omega
  ·simp at h
def Js {ls:List LK} {kc:List Value}:∀ (ks:List (List Value)) (i:Nat) {j:Nat},mK ls kc ks i=some (some j)→∀ {k':List Value},ks[j-i]?=some k'→oU ls kc k'=some true
 | [],i,j,h,k',_=>by simp [mK] at h
 | k::ks,i,j,h,k',hk=>by
  simp only [mK] at h;split at h
  ·simp_all
  ·have hij:=P8 ks (i+1) h;rw [show j-i=(j-(i+1))+1 from by omega,B6] at hk;exact Js ks (i+1) h hk
  ·simp at h
def jT (ens:Array MapEntry) (j:Nat) (f:MapEntry→MapEntry):(ens.modify j f).toList=ens.toList.modify j f:=by simp
def CW (l:List MapEntry) (j:Nat) (f:MapEntry→MapEntry) (hf:∀ e,l[j]?=some e→(f e).key=e.key):(l.modify j f).map (·.key)=l.map (·.key):=by
 apply Dy;grind
def uI (l:List MapEntry) (j:Nat) (f:MapEntry→MapEntry) (hf:∀ e,(f e).born=e.born):(l.modify j f).map (·.born)=l.map (·.born):=by
 apply Dy;grind
def CX (l:List MapEntry) (j:Nat) (f:MapEntry→MapEntry) (v:Value) (hf:∀ e,(f e).val=v):(l.modify j f).map (·.val)=(l.map (·.val)).set j v:=by
 apply Dy;grind
def bK.setv {n:Nat} {vs:List AV} {us:List Value} (hr:bK h φ n vs us) {j:Nat} {x:AV} {v:Value} (hx:Rp h φ n x v):bK h φ n (vs.set j x) (us.set j v) :=
 bK.mk (by simp [hr.length]) λi c u hc hu=>by
  rw [Hf] at hc hu;rw [hr.length] at hc;split at hc
  ·simp_all
  ·rename_i hij;rw [if_neg hij] at hu;obtain ⟨u',h1,h2⟩:=hr.get hc;simp_all
def M4 {t kt et:TypeId} (ht:P.underlying t=some (.map kt et)) {ag:Bool} {ls:List LK} (hk:fH P 20 kt=some (ag,ls))
  (hG:pS G h) (hI:Inv h φ w T) (hS:qU h φ T.length s a) {m k q:Operand} {x:AV} {T':aH} (he:bO T (cQ G s) (.mup ag ls m k q)=some (x,T')) :
  ∃ w',(Instr.mapUpdate t (a.eval m) (a.eval k) (a.eval q)).run P w=.ok () w'∧x=.v undef∧Evo h φ T w h φ T' w'∧Inv h φ w' T':=by
 have hm:=cJ hG hS m;have hkv:=cJ hG hS k;have hq:=cJ hG hS q;simp only [bO] at he;split at he
 ·rename_i i hev;rw [hev] at hm;simp only [Rp] at hm;split at he
  ·rename_i ag' ks vs bs cl kc hg hkc;split at he
   ·rename_i hag;subst hag;obtain ⟨hku,b,hb⟩:=Iu hkv hkc;have hck:∀ em,(Instr.checkKey em 10000 kt (a.eval k)).run P w=.ok () w:=λem=>by rw [hku];exact P6 20 kt ag ls hk 10000 (by omega) kc b hb
    obtain ⟨g,ens,h1,h2,h3,h4,h5,h6⟩:=Ax hI hg;rw [hm.2.1,h1];split at he
    ·rename_i hf;injection he with he;injection he with e1 e2;subst e1;subst e2;obtain ⟨out,f1,f2⟩:=vH (w:=w) hk (by decide) h4 hf;simp only [CV] at f1;subst f1;rw [←hku] at f2;have hset:=Ay hI hg h1 h2 (ens':=ens.push { key:=a.eval k,val:=a.eval q,born:=cl }) (ks':=ks++[kc]) (vs':=vs++[cQ G s q]) (bs':=bs++[cl]) (cl':=cl+1)
      (by simp [h4,hku]) (by simp [h5]) (by simp only [Array.toList_push,jA,fE,mE];exact h6.app (by simp [bK,hq]))
     exact ⟨_,by simp [Instr.mapUpdate,run_underlying ht,jD h2,hck,f2,pU _ h2],rfl,hset.2,hset.1⟩
    ·rename_i j hf;injection he with he;injection he with e1 e2;subst e1;subst e2;obtain ⟨out,f1,f2⟩:=vH (w:=w) hk (by decide) h4 hf;obtain ⟨_,e,f3,f4⟩:=f1;subst f4;rw [←hku] at f2;simp only [Pp] at f3;have hek:e.key=a.eval k:=by
      have hkj:(ks.map (gY ag))[j]?=some e.key:=by grind
      rw [lO] at hkj
      cases hkk:ks[j]? with
      | none=>simp [hkk] at hkj
      | some k' =>
       simp only [hkk,lA,Option.some.injEq] at hkj;have:oU ls kc k'=some true:=Js ks 0 hf (by simpa using hkk);rw [←hkj,hku,CU this]
     have f3':ens[j]?=some e:=by simpa using f3
     have vT:(Instr.keyThatStays e.key (a.eval k)).run P w=.ok (a.eval k) w:=by
      rw [hek,hku];exact P7 hb (DV (P:=P) (w:=w) 20 kt ag ls hk).1
     have hset:=Ay hI hg h1 h2 (ens':=ens.modify j λe=>{ e with key:=a.eval k,val:=a.eval q }) (ks':=ks) (vs':=vs.set j (cQ G s q)) (bs':=bs) (cl':=cl)
      (by rw [jT,CW _ _ _ (λe' he'=>by rw [f3] at he';injection he' with he';subst he';exact hek.symm)];exact h4)
      (by rw [jT,uI ens.toList j (λe=>{ e with key:=a.eval k,val:=a.eval q }) (λ_=>rfl)];exact h5)
      (by rw [jT,CX ens.toList j (λe=>{ e with key:=a.eval k,val:=a.eval q }) (a.eval q) (λ_=>rfl)];exact h6.setv hq)
     exact ⟨_,by simp [Instr.mapUpdate,run_underlying ht,jD h2,hck,f2,f3',vT,pU _ h2],rfl,hset.2,hset.1⟩
    ·simp at he
   ·simp at he
  ·simp at he
 ·simp at he
def SC {t kt et ty:TypeId} (ht:P.underlying t=some (.map kt et)) {ts:Array TypeId} (hts:ts[0]?=some t)
  (hG:pS G h) (hI:Inv h φ w T) (hS:qU h φ T.length s a) {p:Operand} {x:AV} {T':aH} (he:bO T (cQ G s) (.lenM p)=some (x,T')) :
  T'=T∧∃ v,(Builtin.len_ ts ty #[a.eval p]).run P w=.ok v w∧Rp h φ T.length x v:=by
 have hp:=cJ hG hS p;simp only [bO] at he;split at he
 ·rename_i hev;injection he with he;injection he with e1 e2;subst e1;subst e2;rw [jO hG hS hev];exact ⟨rfl,goInt 0,by simp [Builtin.len_,hts,run_underlying ht],by simp [Rp,goInt]⟩
 ·rename_i i hev;rw [hev] at hp;simp only [Rp] at hp;split at he
  ·rename_i ag ks vs bs cl hg;injection he with he;injection he with e1 e2;subst e1;subst e2;obtain ⟨g,ens,h1,h2,h3,h4,h5,h6⟩:=Ax hI hg;have hl:ens.size=ks.length:=by
    have:=congrArg List.length h4;simpa using this
   rw [hp.2.1,h1];exact ⟨rfl,goInt ens.size,by simp [Builtin.len_,hts,run_underlying ht,jD h2],by simp [Rp,goInt,hl]⟩
  ·simp at he
 ·simp at he
end
end
section
section
variable {P:Program} {G:Nat→Option (List AV)} {h:GH} {φ:Nat→Value} {T:aH} {w:World} {s:List (Nat×AV)} {a:Act}
def SD {t e:TypeId} (ht:P.underlying t=some (.slice e)) {i:TypeInfo} (hi:P.info? e=some i)
  (hI:Inv h φ w T) {ev:Operand→AV} {x:AV} {T':aH} (he:bO T ev (.bsl i.size [] [] 0)=some (x,T')) :
  fV h φ T w ((Instr.buildSlice t 0 #[]).run P w) x T':=by
 simp only [bO,mE,Gp,UC,if_true,uE,Option.some.injEq,Prod.mk.injEq] at he;obtain ⟨rfl,rfl⟩:=he;have hrun:(Instr.buildSlice t 0 #[]).run P w=.ok (.slice (some ⟨w.heap.size,0,none⟩) 0 0) (w.alloc (.cells #[] e)):=by
  simp [Instr.buildSlice,run_underlying ht,Go.sizeOf,typeInfo,hi,newRow,Instr.fill,Array.range_zero']
 rw [hrun];exact UH (n:=0) (c:=0) (es:=[]) (k:=i.size) hI rfl rfl rfl rfl (λd hd=>absurd hd (by simp)) rfl (cT _) (B8 _) (by simp) (by simp [bQ]) e
def OB (h:GH):∀ us:List Value,bQ h (us.map .v) us
 | []=>by simp [bQ]
 | u::us=>by simp only [fE,bQ];exact ⟨u,us,rfl,by simp [kY],OB h us⟩
def Jt (z:Array Value) (n m:Nat) (hz:0<z.size) (hnm:n≤m):(madeCells z (m*z.size)).toList.take (n*z.size)=(List.replicate n z.toList).flatten:=by
 have key:∀ n,(List.replicate n z.toList).flatten=Ff z.toList n:=by
  intro n
  induction n with
  | zero=>rfl
  | succ n ih=>simp [Pg,Ff,ih]
 rw [key];apply Dy;intro j;have hle:n*z.size≤m*z.size:=Ny _ hnm;by_cases hj:j<n*z.size
 ·have hm:j<m*z.size:=by omega
  rw [zD,if_pos hj,Array.getElem?_toList,madeCells,Array.getElem?_map,Array.getElem?_range,if_pos hm,Jj z.toList (by simpa using hz) n j (by simpa using hj)];have hmod:j%z.size<z.size:=vF _ hz;simp [hmod]
 ·rw [zD,if_neg hj,oW];rw [Ji];simpa using hj
def Vt {t e:TypeId} (ht:P.underlying t=some (.slice e)) {i:TypeInfo} (hi:P.info? e=some i) {z:Value} (hz:i.zero=some z) (hzs:z.cells.size=i.size) (h0:0<i.size) (hcl:(z.cells.toList.all λx=>aO (.v x))=true)
  (hG:pS G h) (hI:Inv h φ w T) (hS:qU h φ T.length s a) {p q:Operand} {x:AV} {T':aH} (he:bO T (cQ G s) (.mks i.size z.cells.toList i.bytes p q)=some (x,T')) :
  fV h φ T w ((Instr.makeSlice t (a.eval p) (a.eval q)).run P w) x T':=by
 simp only [bO] at he;split at he
 ·rename_i n c hp hq;split at he
  ·rename_i hc;obtain ⟨c1,c2,c3,c4⟩:=hc;injection he with he;injection he with e1 e2;subst e1;subst e2;have hc4:c≤9223372036854775807:=by have:=c4;simp only [maxLen] at this;omega
   rw [jO hG hS hp,jO hG hS hq,run_make w t e i z ht hi hz .i64 .i64 n c c1 c2 (by rw [Int.mul_comm];omega) hc4];have hcn:n.toNat≤c.toNat:=by omega
   have hcm:c.toNat≤maxLen:=by omega
   refine UH hI rfl rfl rfl rfl (λd hd=>?_) (Tw) hcn hcm ?_ ?_ e
   ·rw [(List.mem_replicate.1 hd).2];refine ⟨by simp [hzs],λy hy=>?_⟩;obtain ⟨u,hu,rfl⟩:=cZ.1 hy;exact lF.1 hcl u hu
   ·rw [size_madeCells]
   ·rw [←hzs,Jt z.cells _ _ (by omega) hcn];have:(List.replicate n.toNat (z.cells.toList.map AV.v)).flatten=((List.replicate n.toNat z.cells.toList).flatten).map AV.v:=by
     simp [List.map_flatten,Xl]
    rw [this];exact OB h _
  ·simp at he
 ·simp at he
def Ek (h:GH) (b:Nat) (cs:Array Value):GH:=λg=>if g=b then some cs else h g
def Vu {w':World} (hI:Inv h φ w T) (hos:w'.os=w.os) (htp:w'.tape=w.tape) (hout:w'.output=w.output) (hsz:w.heap.size≤w'.heap.size)
  (hb:∀ b,b<w.heap.size→w'.heap[b]?=w.heap[b]?) {cs:Array Value} {E:TypeId} {fr:Nat×Nat} (hn:w'.heap[w.heap.size]?=some (.cells cs E fr)) (hdr:w.drawn≤w'.drawn) :
  Inv (Ek h w.heap.size cs) φ w' T∧Evo h φ T w (Ek h w.heap.size cs) φ T w':=by
 have le:zG h (Ek h w.heap.size cs):=by
  intro b c e;unfold Ek;rw [if_neg (by have:=AL hI e;omega)];exact e
 have old:∀ i x,T[i]?=some (some x)→i<T.length:=by
  intro i x e;rcases gM i T.length with hh | hh
  ·exact hh
  ·rw [oW hh] at e;simp at e
 refine ⟨⟨?_,?_,?_⟩,⟨hos,htp,hout,hsz,λb hb' _=>hb b hb',le,?_,λ_ _=>rfl,λi o b hi hbl=>.inr ⟨i,o,hi,hbl⟩,cT _,hdr⟩⟩
 ·intro b c e;unfold Ek at e;split at e
  ·rename_i hbe;subst hbe;injection e with e;subst e;exact ⟨E,fr,hn⟩
  ·obtain ⟨E',fr',hw⟩:=hI.gh b c e;exact ⟨E',fr',by rw [hb b (AL hI e)];exact hw⟩
 ·intro i x e;have h1:=hI.obj i x e;refine mV h1 le (cT _) (λ_ _=>rfl) (old i x e) λg hg=>?_;obtain ⟨h2,h3⟩:=fO h1 hg;exact ⟨hb g h2,by unfold Ek;rw [if_neg (by omega)];exact h3⟩
 ·exact hI.dis
 ·intro b c e;unfold Ek at e;split at e
  ·rename_i hbe;exact .inr (.inl (by omega))
  ·exact .inl e
def Ju {h:GH} {b:Nat}:∀ (l:List UInt8) (o:Nat),(∀ j u,l[j]?=some u→lS h b (o+j)=some (.int .u8 u.toNat))→iC h b 1 (l.map λb=>[.v (.int .u8 b.toNat)]) o
 | [],_,_=>by simp [iC]
 | u::l,o,hh=>by
  simp only [fE,iC,kD];refine ⟨rfl,⟨⟨_,rfl,by simpa using hh 0 u rfl,by simp [kY]⟩,trivial⟩,Ju l (o+1) λj v hj=>?_⟩;have:=hh (j+1) v (by simpa using hj);rw [←this];congr 1;omega
def Vv {src d e:TypeId} {u:TypeDesc} (hs:P.underlying src=some u) (hd:P.underlying d=some (.slice e)) (hu8:P.underlying e=some (.int .u8))
  (hG:pS G h) (hI:Inv h φ w T) (hS:qU h φ T.length s a) {p:Operand} {x:AV} {T':aH} (he:bO T (cQ G s) (.s2b p)=some (x,T')) :
  fV h φ T w ((convert src d (a.eval p)).run P w) x T':=by
 simp only [bO] at he;split at he
 ·rename_i sb hp;split at he
  ·rename_i hc;injection he with he;injection he with e1 e2;subst e1;subst e2;rw [jO hG hS hp,Lib.run_convert_string_bytes w src d e sb hs hd hu8];obtain ⟨k1,k2⟩:=Vu (w':=Lib.bytesWorld w e sb) hI rfl rfl rfl (by rw [Lib.bytesWorld_size];omega) (λb hb=>Lib.bytesWorld_at_old w e sb b hb) (Lib.bytesWorld_at_new w e sb) (by simp [Lib.bytesWorld,World.freeze,World.alloc,World.drew,-World.alloc_eq,-World.drew_eq]);have hl:(jC sb).length=sb.size:=by simp [jC]
   refine ⟨_,_,_,_,rfl,k2,k1,?_⟩;simp only [Rp,kY];refine ⟨_,_,by rw [hl],by rw [hl];exact grownCap_ge w sb.size 0 e,grownCap_le_maxLen w sb.size 0 e hc,.inr ⟨_,0,rfl,?_⟩⟩;refine Ju _ 0 λj u hj=>?_;have hjs:j<sb.data.size:=by
    rcases gM j sb.data.size with hh | hh
    ·exact hh
    ·rw [oW (by simpa using hh)] at hj;simp at hj
   have hju:sb.data[j]?=some u:=by simpa using hj
   simp only [lS,Ek,if_true,Hh,qT,Lib.bytesCells];rw [Ts (by simpa using hjs),Array.getElem?_map,hju];rfl
  ·simp at he
 ·simp at he
end
section
variable {P:Program} {h:GH} {φ:Nat→Value} {T:aH} {w:World}
def aAx {t e:TypeId} (ht:P.underlying t=some (.slice e)) (hu8:P.underlying e=some (.int .u8)) (hI:Inv h φ w T) {i:Nat} {e0:List AV} {es:List (List AV)} (hi:T[i]?=some (some (.arr 1 (e0::es)))) :
  fV h φ T w ((convert t t (φ i)).run P w) (.ls 1 (e0::es)) (T.set i none):=by
 obtain ⟨hc,hobj⟩:=hI.obj i _ hi;rcases hobj with ⟨A,_,h0⟩ | ⟨g,c,cur,E,e1,e2,e3,e4,e5,e6,e7⟩
 ·simp at h0
 have hsh:w.shape? g=some (E,cur.size):=by unfold World.shape?;rw [e2]
 have hrun:(convert t t (φ i)).run P w=.ok (φ i) (w.freeze ⟨g,cur.size,none⟩ 1):=by
  rw [e1];simp [convert,run_underlying ht,run_underlying hu8,markStringish,hsh]
 have hgl:g<w.heap.size:=by
  rcases gM g w.heap.size with hh | hh
  ·exact hh
  ·rw [Nx hh] at e2;simp at e2
 have hfz:w.freeze ⟨g,cur.size,none⟩ 1={ w with heap:=w.heap.modify g fun
   | .cells c elem (lo,hi)=>.cells c elem (if lo==hi then (cur.size,cur.size+1) else (min lo cur.size,max hi (cur.size+1)))
   | o=>o }:=by
  unfold World.freeze;rw [if_neg (by decide)];rfl
 have hnew:(w.freeze ⟨g,cur.size,none⟩ 1).heap[g]?=some (.cells cur E (cur.size,cur.size+1)):=by
  rw [hfz];simp only [Tx,e2,if_true,lA];rfl
 have hold:∀ b,b≠g→(w.freeze ⟨g,cur.size,none⟩ 1).heap[b]?=w.heap[b]?:=by
  intro b hb;rw [hfz];simp only [Tx,if_neg (Ne.symm hb)]
 have hsz:(w.freeze ⟨g,cur.size,none⟩ 1).heap.size=w.heap.size:=by rw [hfz];simp
 have hbi:iE (φ i)=some g:=by rw [e1];rfl
 have le:zG h (Ek h g cur):=by
  intro b cs eb;unfold Ek;rw [if_neg (by rintro rfl;rw [e6] at eb;simp at eb)];exact eb
 have get:∀ {j:Nat} {x:AObj},(T.set i none)[j]?=some (some x)→j≠i∧T[j]?=some (some x):=by
  intro j x ej;rw [Hf] at ej;split at ej
  ·split at ej<;>simp at ej
  ·rename_i hh;exact ⟨λh=>hh h.symm,ej⟩
 refine ⟨_,_,Ek h g cur,φ,hrun,⟨by rw [hfz],by rw [hfz],by rw [hfz],by rw [hsz];exact cT _,λb _ hn=>hold b (by rintro rfl;exact hn i _ hi hbi),le,?_,λ_ _=>rfl,λj o b hj hb=>.inr ⟨j,o,(get hj).2,hb⟩,by simp,by rw [hfz];exact cT _⟩,⟨?_,?_,?_⟩,?_⟩
 ·intro b cs eb;unfold Ek at eb;split at eb
  ·rename_i hbg;subst hbg;exact .inr (.inr ⟨i,_,hi,hbi⟩)
  ·exact .inl eb
 ·intro b cs eb;unfold Ek at eb;split at eb
  ·rename_i hbg;subst hbg;injection eb with eb;subst eb;exact ⟨E,_,hnew⟩
  ·rename_i hbg;obtain ⟨E',fr,hw⟩:=hI.gh b cs eb;exact ⟨E',fr,by rw [hold b hbg];exact hw⟩
 ·intro j o hj;obtain ⟨hji,hj⟩:=get hj;have hjl:j<T.length:=by
   rcases gM j T.length with hh | hh
   ·exact hh
   ·rw [oW hh] at hj;simp at hj
  refine mV (hI.obj j o hj) le (by simp) (λ_ _=>rfl) hjl λb hb=>?_;have hbg:b≠g:=by rintro rfl;exact hji (hI.dis j i _ _ _ hj hi hb hbi)
  refine ⟨hold b hbg,?_⟩;unfold Ek;rw [if_neg hbg];exact (fO (hI.obj j o hj) hb).2
 ·intro j1 j2 o1 o2 b h1 h2 k1 k2;exact hI.dis j1 j2 o1 o2 b (get h1).2 (get h2).2 k1 k2
 ·simp only [Rp,kY];refine ⟨_,c+1,e1,e3,e4,.inr ⟨g,0,rfl,?_⟩⟩;refine iC.of_list (e7.mono le) hc λj v hj=>?_;unfold lS Ek;rw [if_pos rfl];rw [zD] at hj;split at hj
  ·simpa using hj
  ·simp at hj
def Vw {G:Nat→Option (List AV)} {s:List (Nat×AV)} {a:Act} {t e:TypeId} (ht:P.underlying t=some (.slice e)) (hu8:P.underlying e=some (.int .u8))
  (hG:pS G h) (hI:Inv h φ w T) (hS:qU h φ T.length s a) {p:Operand} {x:AV} {T':aH} (he:bO T (cQ G s) (.b2b p)=some (x,T')) :
  fV h φ T w ((convert t t (a.eval p)).run P w) x T':=by
 simp only [bO] at he;split at he
 ·rename_i i hp;have hr:=cJ hG hS p;rw [hp] at hr;simp only [Rp] at hr;split at he
  ·rename_i k e0 es hT;split at he
   ·rename_i hk;subst hk;injection he with he;injection he with e1 e2;subst e1;subst e2;rw [hr.2.1];refine aAx ht hu8 hI ?_;unfold bZ at hT;split at hT
    ·rename_i o ho;rw [ho];injection hT with hT;rw [hT]
    ·simp at hT
   ·simp at he
  ·simp at he
 ·simp at he
end
end
section
section
variable {P:Program} {G:Nat→Option (List AV)} {h:GH} {φ:Nat→Value} {T:aH} {w:World} {s:List (Nat×AV)} {a:Act}
def SE {T:aH} {k:Nat} {x:AV} {es:List (List AV)} (e:N1 T k x=some es):Vk T k x=some (es,true):=by
 unfold N1 at e;grind [Vk,oX]
def P9 {h:GH}:∀ {es:List (List AV)} {l:List UInt8} {us:List Value},Hn es=some l→bQ h es.flatten us→∃ ns:List Int,us=ns.map (Value.int .u8)∧l=ns.map λn=>UInt8.ofNat n.toNat
 | [],l,us,e,hu=>by
  simp_all [Hn,Option.some.injEq,zF,bQ]
 | [.v (.int .u8 n)]::r,l,us,e,hu=>by
  simp only [Hn] at e;split at e
  ·rename_i l' hl;injection e with e;subst e;simp only [qW,fX,gW,bQ,kY] at hu;obtain ⟨u,us',rfl,rfl,h2⟩:=hu;obtain ⟨ns,h3,h4⟩:=P9 hl h2;exact ⟨n::ns,by simp [h3],by simp [h4]⟩
  ·simp at e
def Jv:∀ (ns:List Int) (s:ByteArray),ns.foldl (λr n=>r.push (UInt8.ofNat n.toNat)) s=⟨(s.data.toList++ns.map λn=>UInt8.ofNat n.toNat).toArray⟩
 | [],s=>by simp
 | n::ns,s=>by
  rw [Gm,Jv ns];simp
def Vx {src d e:TypeId} (hs:P.underlying src=some (.slice e)) (hd:P.underlying d=some .string) (hu8:P.underlying e=some (.int .u8))
  (hG:pS G h) (hI:Inv h φ w T) (hS:qU h φ T.length s a) {p:Operand} {x:AV} {T':aH} (he:bO T (cQ G s) (.b2s p)=some (x,T')) :
  T'=T∧∃ v,(convert src d (a.eval p)).run P w=.ok v w∧Rp h φ T.length x v:=by
 have hp:=cJ hG hS p;simp only [bO] at he;split at he
 ·rename_i es hes;split at he
  ·rename_i l hl;injection he with he;injection he with e1 e2;subst e1;subst e2;obtain ⟨hnew,A,c,news,hu,hnl,hcells⟩:=X4 hI hp (SE hes);obtain ⟨ns,h1,h2⟩:=P9 hl hnl;refine ⟨rfl,.string ⟨l.toArray⟩,?_,by simp [Rp]⟩;rw [hu,run_convert_bytes_string w src d e _ _ _ hs hu8 hd];have hlen:ns.length=es.length:=by
    have:=hnl.length;rw [wL λd hd=>(hnew d hd).1,h1] at this;simp_all
   cases A with
   | none =>
    rcases hcells with rfl | ⟨b,o,hA,_⟩
    ·have:ns=[]:=H7 (by simpa using hlen);subst this;subst h2;rfl
    ·simp at hA
   | some A =>
    have hload:(loadCells A es.length).run P w=.ok (ns.map (Value.int .u8)).toArray w:=by
     rcases hcells with rfl | ⟨b,o,hA,hc⟩
     ·have:ns=[]:=H7 (by simpa using hlen);subst this;rfl
     ·injection hA with hA;subst hA;rw [←h1];have hnn:es.length=news.length:=by simp_all
      rw [hnn];exact run_loadCells_list w ⟨b,o,none⟩ news λj v hj=>by rw [fI];exact hc j v hj
    rw [run_bytesToString w A _ _ ns hload,Jv,h2];simp
  ·simp at he
 ·simp at he
def OC (hG:pS G h) (hS:qU h φ T.length s a) {o:Operand} {n:Nat} (e:VY (cQ G s o)=some n):∃ k i,a.eval o=.int k i∧0≤i∧n=i.toNat:=by
 unfold VY at e;split at e
 ·rename_i k i hx;split at e
  ·rename_i h0;injection e with e;exact ⟨k,i,jO hG hS hx,h0,e.symm⟩
  ·simp at e
 ·simp at e
def wM {t e:TypeId} (ht:P.underlying t=some (.slice e)) {k:Nat} (hk:lU P e=some k) {A:Option Addr} {len cap l m x:Nat} {lo:Option Value} (hl:Bnd lo 0 l) {k1 k2:IntKind} {i1 i2:Int} (hm:0≤i1∧m=i1.toNat) (hx:0≤i2∧x=i2.toNat) (h1:l≤m) (h2:m≤x) (h3:x≤cap) :
  (Instr.sliceAt t (.slice A len cap) lo (some (.int k1 i1)) (some (.int k2 i2))).run P w=.ok (.slice (if x=l then A else A.map (·.add (l*k))) (m-l) (x-l)) w:=by
 obtain ⟨hm0,rfl⟩:=hm;obtain ⟨hx0,rfl⟩:=hx;rcases hl with ⟨rfl,rfl⟩ | ⟨k',i,rfl,h0,rfl⟩
 ·simp [Instr.sliceAt,Instr.slice,run_underlying ht,Instr.sliceBounds,fJ hx0 h3,fJ hm0 h2,mU hk]
 ·simp [Instr.sliceAt,Instr.slice,run_underlying ht,Instr.sliceBounds,fJ hx0 h3,fJ hm0 h2,fJ h0 h1,mU hk]
def AO (hI:Inv h φ w T) (A:Option Addr) (k:Nat):fV h φ T w (.ok (.slice A 0 0) w) (.own T.length) (T++[some (.arr k [])]):=by
 have:=pG (w':=w) (o:=.arr k []) (v:=.slice A 0 0) hI rfl rfl rfl (cT _) (λ_ _=>rfl) (λg hg=>by cases A<;>simp [iE] at hg) ⟨by simp,.inl ⟨A,bA,rfl⟩⟩;refine ⟨_,w,h,_,rfl,this.2,this.1,?_⟩;simp only [Rp];exact ⟨by simp,bA.symm,_,_,_,rfl⟩
def CY (hI:Inv h φ w T) {r:Result Value} {v:Value} {x:AV} (hr:r=.ok v w) (hx:Rp h φ T.length x v):fV h φ T w r x T:=⟨v,w,h,φ,hr,Evo.refl,hI,hx⟩
def Vy {t e:TypeId} (ht:P.underlying t=some (.slice e)) {k:Nat} (hk:lU P e=some k)
  (hG:pS G h) (hI:Inv h φ w T) (hS:qU h φ T.length s a) {p:Operand} {lo:Option Operand} {hi mx:Operand} {x:AV} {T':aH} (he:bO T (cQ G s) (.slx p lo hi mx k)=some (x,T')) :
  fV h φ T w ((Instr.sliceAt t (a.eval p) (lo.map a.eval) (some (a.eval hi)) (some (a.eval mx))).run P w) x T':=by
 have hp:=cJ hG hS p;simp only [bO] at he;split at he
 ·rename_i l m y hl hm hy;obtain ⟨k1,i1,m1,m2,m3⟩:=OC hG hS hm;obtain ⟨k2,i2,y1,y2,y3⟩:=OC hG hS hy;have hl':Bnd (lo.map a.eval) 0 l:=by
   cases lo with
   | none=>simp only [Option.some.injEq] at hl;exact .inl ⟨rfl,hl.symm⟩
   | some o=>obtain ⟨k',i',l1,l2,l3⟩:=OC hG hS hl;exact .inr ⟨k',i',by simp [l1],l2,l3⟩
  rw [m1,y1];split at he
  ·rename_i k' es hev;rw [hev] at hp;simp only [Rp,kY] at hp;obtain ⟨A,c,hu,h1,h2,h3⟩:=hp;split at he
   ·rename_i hc;obtain ⟨rfl,hlm,hmy,hye⟩:=hc;rw [hu,wM ht hk hl' ⟨m2,m3⟩ ⟨y2,y3⟩ hlm hmy (by omega)];split at he
    ·rename_i hyl;injection he with he;injection he with e1 e2;subst e1;subst e2;rw [show m-l=0 by omega,show y-l=0 by omega];exact AO hI _ _
    ·injection he with he;injection he with e1 e2;subst e1;subst e2;refine CY hI rfl ?_;have hlen:((es.drop l).take (m-l)).length=m-l:=by rw [kM,xS];omega
     simp only [Rp,kY];refine ⟨_,y-l,by rw [hlen],by rw [hlen];omega,by omega,?_⟩;by_cases h0:m-l=0
     ·exact .inl (by rw [h0];simp)
     ·rcases h3 with rfl | ⟨b,o,rfl,hE⟩
      ·simp at hye;omega
      ·refine .inr ⟨b,o+l*k,by rw [if_neg (by omega)];simp [fI],?_⟩;exact (hE.drop l).take _
   ·simp at he
  ·rename_i i hev;rw [hev] at hp;simp only [Rp] at hp;split at he
   ·rename_i k' es hg;split at he
    ·rename_i hc;obtain ⟨rfl,hlm,hmy,hye⟩:=hc;obtain ⟨_,h1 | ⟨g,c,cur,E,hφ,_,h2,h3,_⟩⟩:=wA hI hg
     ·obtain ⟨A,h1,rfl⟩:=h1;rw [hp.2.1,h1];simp only [jJ] at hye;rw [wM ht hk hl' ⟨m2,m3⟩ ⟨y2,y3⟩ hlm hmy (by omega)];rw [if_pos (by omega)] at he;injection he with he;injection he with e1 e2;subst e1;subst e2;rw [show m-l=0 by omega,show y-l=0 by omega];exact AO hI _ _
     ·rw [hp.2.1,hφ,wM ht hk hl' ⟨m2,m3⟩ ⟨y2,y3⟩ hlm hmy (by omega)];split at he
      ·injection he with he;injection he with e1 e2;subst e1;subst e2;rw [show m-l=0 by omega,show y-l=0 by omega];exact AO hI _ _
      ·injection he with he;injection he with e1 e2;subst e1;subst e2;refine CY hI rfl ?_;simp only [Rp];refine ⟨hp.1,_,_,rfl,by omega,by omega,?_⟩;by_cases h0:m-l=0
       ·exact .inl h0
       ·exact .inr ⟨g,_,c+1,hφ,by rw [if_neg (by omega)];simp [fI],by omega⟩
    ·simp at he
   ·simp at he
  ·rename_i i k' lo' n hev;rw [hev] at hp;simp only [Rp] at hp;obtain ⟨hi0,A,c,hu,h1,h2,h3⟩:=hp;split at he
   ·rename_i hc;obtain ⟨rfl,hlm,hmy,hye⟩:=hc;rw [hu,wM ht hk hl' ⟨m2,m3⟩ ⟨y2,y3⟩ hlm hmy (by omega)];split at he
    ·injection he with he;injection he with e1 e2;subst e1;subst e2;rw [show m-l=0 by omega,show y-l=0 by omega];exact AO hI _ _
    ·injection he with he;injection he with e1 e2;subst e1;subst e2;refine CY hI rfl ?_;simp only [Rp];refine ⟨hi0,_,_,rfl,by omega,by omega,?_⟩;by_cases h0:m-l=0
     ·exact .inl h0
     ·rcases h3 with rfl | ⟨g,l',c',hφ,rfl,h4⟩
      ·omega
      ·exact .inr ⟨g,l',c',hφ,by rw [if_neg (by omega)];simp [fI,CM],by omega⟩
   ·simp at he
  ·rename_i hev;split at he
   ·rename_i hc;obtain ⟨rfl,rfl,rfl⟩:=hc;injection he with he;injection he with e1 e2;subst e1;subst e2;rw [jO hG hS hev,wM ht hk hl' ⟨m2,m3⟩ ⟨y2,y3⟩ (cT _) (cT _) (cT _)];exact AO hI _ _
   ·simp at he
  ·simp at he
 ·simp at he
end
end
section
section
variable {P:Program} {G:Nat→Option (List AV)} {h:GH} {φ:Nat→Value} {T:aH} {w:World} {s:List (Nat×AV)} {a:Act}
def Vz {t kt et:TypeId} (ht:P.underlying t=some (.map kt et)) {ag:Bool} {ls:List LK} (hk:fH P 20 kt=some (ag,ls)) {i0:TypeInfo} (hi0:P.info? et=some i0) {z:Value} (hz:i0.zero=some z)
  (hG:pS G h) (hI:Inv h φ w T) (hS:qU h φ T.length s a) {m k:Operand} {x:AV} {T':aH} (he:bO T (cQ G s) (.men ag ls z m k)=some (x,T')) :
  fV h φ T w ((Instr.mapEntry t (a.eval m) (a.eval k)).run P w) x T':=by
 have hm:=cJ hG hS m;have hkv:=cJ hG hS k;simp only [bO] at he;split at he
 ·rename_i i hev;rw [hev] at hm;simp only [Rp] at hm;split at he
  ·rename_i ag' ks vs bs cl kc hg hkc;split at he
   ·rename_i hag;subst hag;obtain ⟨hku,b,hb⟩:=Iu hkv hkc;have hck:∀ em,(Instr.checkKey em 10000 kt (a.eval k)).run P w=.ok () w:=λem=>by rw [hku];exact P6 20 kt ag ls hk 10000 (by omega) kc b hb
    obtain ⟨g,ens,h1,h2,h3,h4,h5,h6⟩:=Ax hI hg;rw [hm.2.1,h1];split at he
    ·rename_i hf;injection he with he;injection he with e1 e2;subst e1;subst e2;obtain ⟨out,f1,f2⟩:=vH (w:=w) hk (by decide) h4 hf;simp only [CV] at f1;subst f1;rw [←hku] at f2;have hset:=Ay hI hg h1 h2 (ens':=ens.push { key:=a.eval k,val:=z,born:=cl }) (ks':=ks++[kc]) (vs':=vs++[.v z]) (bs':=bs++[cl]) (cl':=cl+1)
      (by simp [h4,hku]) (by simp [h5]) (by simp only [Array.toList_push,jA,fE,mE];exact h6.app (by simp [bK,Rp]))
     refine ⟨.tuple #[z,goInt cl],_,h,φ,by simp [Instr.mapEntry,run_underlying ht,jD h2,hck,f2,zeroValue,typeInfo,hi0,hz,pU _ h2],hset.2,hset.1,?_⟩;simp [Rp,bK,goInt]
    ·rename_i j hf;split at he
     ·rename_i x' b' hx' hb';injection he with he;injection he with e1 e2;subst e1;subst e2;obtain ⟨out,f1,f2⟩:=vH (w:=w) hk (by decide) h4 hf;obtain ⟨_,e,f3,f4⟩:=f1;subst f4;rw [←hku] at f2;simp only [Pp] at f3;have hek:e.key=a.eval k:=by
       have hkj:(ks.map (gY ag))[j]?=some e.key:=by rw [←h4,lO,f3];rfl
       rw [lO] at hkj
       cases hkk:ks[j]? with
       | none=>simp [hkk] at hkj
       | some k' =>
        simp only [hkk,lA,Option.some.injEq] at hkj;have:oU ls kc k'=some true:=Js ks 0 hf (by simpa using hkk);rw [←hkj,hku,CU this]
      have f3':ens[j]?=some e:=by simpa using f3
      have vT:(Instr.keyThatStays e.key (a.eval k)).run P w=.ok (a.eval k) w:=by
       rw [hek,hku];exact P7 hb (DV (P:=P) (w:=w) 20 kt ag ls hk).1
      have hset:=Ay hI hg h1 h2 (ens':=ens.modify j λe=>{ e with key:=a.eval k }) (ks':=ks) (vs':=vs) (bs':=bs) (cl':=cl)
       (by rw [jT,CW _ _ _ (λe' he'=>by rw [f3] at he';injection he' with he';subst he';exact hek.symm)];exact h4)
       (by rw [jT,uI ens.toList j (λe=>{ e with key:=a.eval k }) (λ_=>rfl)];exact h5)
       (by
        rw [jT];have:(ens.toList.modify j λe=>{ e with key:=a.eval k }).map (·.val)=ens.toList.map (·.val):=by
         apply Dy;intro n;simp only [lO,List.getElem?_modify];by_cases hjn:j=n
         ·subst hjn;simp only [if_true];cases ens.toList[j]?<;>rfl
         ·simp [hjn]
        rw [this]
        exact h6)
      have hTs:T.set i (some (.map ag ks vs bs cl))=T:=by
       have:=aZ hg;apply Dy;intro n;rw [Hf];split
       ·rename_i hin;subst hin;split
        ·exact this.symm
        ·rename_i hh;rw [oW (by omega)] at this;simp at this
       ·rfl
      rw [hTs] at hset;have hborn:e.born=b':=by
       have:(ens.toList.map (·.born))[j]?=some e.born:=by rw [lO,f3];rfl
       rw [h5,hb'] at this;exact (Option.some.inj this).symm
      have hval:Rp h φ T.length x' e.val:=by
       obtain ⟨u,hu1,hu2⟩:=h6.get hx';rw [lO,f3] at hu1;simp only [lA,Option.some.injEq] at hu1;rw [hu1];exact hu2
      refine ⟨.tuple #[e.val,goInt e.born],_,h,φ,by simp [Instr.mapEntry,run_underlying ht,jD h2,hck,f2,f3',vT,pU _ h2],hset.2,hset.1,?_⟩;simp only [Rp,bK];exact ⟨_,rfl,_,_,rfl,hval,_,_,rfl,by simp [goInt,hborn],rfl⟩
     ·simp at he
    ·simp at he
   ·simp at he
  ·simp at he
 ·simp at he
def QA {bs:List Nat} {ens:List MapEntry} (h:ens.map (·.born)=bs) (n:Int):ens.findIdx? (λe=>(e.born:Int)==n)=bs.findIdx? (λ(b:Nat)=>(b:Int)==n):=by
 subst h;rw [List.findIdx?_map];rfl
def V2 {t:TypeId}
  (hG:pS G h) (hI:Inv h φ w T) (hS:qU h φ T.length s a) {m k q:Operand} {x:AV} {T':aH} (he:bO T (cQ G s) (.mst m k q)=some (x,T')) :
  ∃ w',(Instr.entryStore t (a.eval m) (a.eval k) (a.eval q)).run P w=.ok () w'∧x=.v undef∧Evo h φ T w h φ T' w'∧Inv h φ w' T':=by
 have hm:=cJ hG hS m;have hq:=cJ hG hS q;simp only [bO] at he;split at he
 ·rename_i i ki n hev hn;rw [hev] at hm;simp only [Rp] at hm;split at he
  ·rename_i ag ks vs bs cl hg;split at he
   ·rename_i j hj;injection he with he;injection he with e1 e2;subst e1;subst e2;obtain ⟨g,ens,h1,h2,h3,h4,h5,h6⟩:=Ax hI hg;have hset:=Ay hI hg h1 h2 (ens':=ens.modify j λe=>{ e with val:=a.eval q }) (ks':=ks) (vs':=vs.set j (cQ G s q)) (bs':=bs) (cl':=cl)
     (by
      rw [jT];have:(ens.toList.modify j λe=>{ e with val:=a.eval q }).map (·.key)=ens.toList.map (·.key):=by
       apply Dy;intro n;simp only [lO,List.getElem?_modify];by_cases hjn:j=n
       ·subst hjn;simp only [if_true];cases ens.toList[j]?<;>rfl
       ·simp [hjn]
      rw [this];exact h4)
     (by rw [jT,uI ens.toList j (λe=>{ e with val:=a.eval q }) (λ_=>rfl)];exact h5)
     (by rw [jT,CX ens.toList j (λe=>{ e with val:=a.eval q }) (a.eval q) (λ_=>rfl)];exact h6.setv hq)
    have hf:ens.findIdx? (λe=>(e.born:Int)==n)=some j:=by
     rw [show ens.findIdx? (λe=>(e.born:Int)==n)=ens.toList.findIdx? (λe=>(e.born:Int)==n) from by
      conv=>lhs;rw [show ens=ens.toList.toArray from by rw [Tz]]
      rw [List.findIdx?_toArray],QA h5]
     exact hj
    refine ⟨_,?_,rfl,hset.2,hset.1⟩;rw [hm.2.1,h1,jO hG hS hn];simp [Instr.entryStore,jD h2,asInt,asIntOf,hf,pU _ h2]
   ·simp at he
  ·simp at he
 ·simp at he
def El {α:Type} (xs:Array α) (j:Nat):(xs.eraseIdxIfInBounds j).toList=xs.toList.eraseIdx j:=by
 unfold Array.eraseIdxIfInBounds;split
 ·simp
 ·rename_i hh;rw [List.eraseIdx_of_length_le];simpa using hh
def AP {α β:Type} (f:α→β):∀ (l:List α) (j:Nat),(l.eraseIdx j).map f=(l.map f).eraseIdx j
 | [],_=>rfl
 | _::l,0=>rfl
 | x::l,j+1=>by simp [AP f l j]
def bK.erase {cs:List AV} {us:List Value} {n:Nat}:∀ {j:Nat},bK h φ n cs us→bK h φ n (cs.eraseIdx j) (us.eraseIdx j):=by
 induction cs generalizing us with
 | nil=>intro j e;simp only [bK] at e;subst e;simp [bK]
 | cons c cs ih =>
  intro j e;simp only [bK] at e;obtain ⟨u,us',rfl,h1,h2⟩:=e
  cases j with
  | zero=>simpa using h2
  | succ j=>simp only [aBZ,bK];exact ⟨u,_,rfl,h1,ih h2⟩
def V3 {t kt et ty:TypeId} (ht:P.underlying t=some (.map kt et)) {ag:Bool} {ls:List LK} (hk:fH P 20 kt=some (ag,ls)) {ts:Array TypeId} (hts:ts[0]?=some t)
  (hG:pS G h) (hI:Inv h φ w T) (hS:qU h φ T.length s a) {m k:Operand} {x:AV} {T':aH} (he:bO T (cQ G s) (.del ag ls m k)=some (x,T')) :
  fV h φ T w ((Builtin.delete_ ts ty #[a.eval m,a.eval k]).run P w) x T':=by
 have hm:=cJ hG hS m;have hkv:=cJ hG hS k;simp only [bO] at he;split at he
 ·rename_i i hev;rw [hev] at hm;simp only [Rp] at hm;split at he
  ·rename_i ag' ks vs bs cl kc hg hkc;split at he
   ·rename_i hag;subst hag;obtain ⟨hku,b,hb⟩:=Iu hkv hkc;have hck:∀ em,(Instr.checkKey em 10000 kt (a.eval k)).run P w=.ok () w:=λem=>by rw [hku];exact P6 20 kt ag ls hk 10000 (by omega) kc b hb
    obtain ⟨g,ens,h1,h2,h3,h4,h5,h6⟩:=Ax hI hg;rw [hm.2.1,h1];have hTs:T.set i (some (.map ag ks vs bs cl))=T:=by
     have:=aZ hg;apply Dy;intro n;rw [Hf];split
     ·rename_i hin;subst hin;split
      ·exact this.symm
      ·rename_i hh;rw [oW (by omega)] at this;simp at this
     ·rfl
    split at he
    ·rename_i hf;injection he with he;injection he with e1 e2;subst e1;subst e2;obtain ⟨out,f1,f2⟩:=vH (w:=w) hk (by decide) h4 hf;simp only [CV] at f1;subst f1;rw [←hku] at f2;have hset:=Ay hI hg h1 h2 (ens':=ens) (ks':=ks) (vs':=vs) (bs':=bs) (cl':=cl) h4 h5 h6;rw [hTs] at hset;refine ⟨.tuple #[],_,h,φ,by simp [Builtin.delete_,hts,run_underlying ht,jD h2,hck,f2,pU _ h2],hset.2,hset.1,by simp [Rp]⟩
    ·rename_i j hf;injection he with he;injection he with e1 e2;subst e1;subst e2;obtain ⟨out,f1,f2⟩:=vH (w:=w) hk (by decide) h4 hf;obtain ⟨_,e,f3,f4⟩:=f1;subst f4;rw [←hku] at f2;have hset:=Ay hI hg h1 h2 (ens':=ens.eraseIdxIfInBounds j) (ks':=ks.eraseIdx j) (vs':=vs.eraseIdx j) (bs':=bs.eraseIdx j) (cl':=cl)
      (by rw [El,AP,h4,←AP]) (by rw [El,AP,h5]) (by rw [El,AP];exact h6.erase)
     refine ⟨.tuple #[],_,h,φ,by simp [Builtin.delete_,hts,run_underlying ht,jD h2,hck,f2,pU _ h2],hset.2,hset.1,by simp [Rp]⟩
    ·simp at he
   ·simp at he
  ·simp at he
 ·simp at he
end
end
section
section
variable {P:Program} {G:Nat→Option (List AV)} {h:GH} {φ:Nat→Value} {T:aH} {w:World} {s:List (Nat×AV)} {a:Act}
def Jw {T:aH} {j:Nat} {x:Option AObj} (h:T[j]?=some x):T.set j x=T:=by
 apply Dy;grind
def V4 {t kt et:TypeId} (ht:P.underlying t=some (.map kt et)) (hG:pS G h) (hI:Inv h φ w T) (hS:qU h φ T.length s a) {m:Operand} {x:AV} {T':aH} (he:bO T (cQ G s) (.rgm m)=some (x,T')) :
  fV h φ T w ((Instr.range t (a.eval m)).run P w) x T':=by
 have hm:=cJ hG hS m;have key:∀ (o:AObj) (mo:Option Nat) (since st:Nat),qI h (Vf φ T.length (.pointer (some ⟨w.heap.size,0,none⟩))) (T.length+1) (w.alloc (.mapIter mo since #[] st)) T.length o →
   fV h φ T w (.ok (.pointer (some ⟨w.heap.size,0,none⟩)) (w.alloc (.mapIter mo since #[] st))) (.ptr T.length 0) (T++[some o]):=by
  intro o mo since st ho;have:=pG (w':=w.alloc (.mapIter mo since #[] st)) (o:=o) (v:=.pointer (some ⟨w.heap.size,0,none⟩)) hI rfl rfl rfl (by simp) (λb hb=>iO w _ b hb)
   (λg hg=>by simp only [iE,Option.some.injEq] at hg;omega) ho
  refine ⟨_,_,h,_,rfl,this.2,this.1,?_⟩;simp only [Rp];exact ⟨by simp,_,bA,rfl⟩
 simp only [bO] at he;split at he
 ·rename_i hev;injection he with he;injection he with e1 e2;subst e1;subst e2;rw [jO hG hS hev];have:(Instr.range t (.map none)).run P w=.ok (.pointer (some ⟨w.heap.size,0,none⟩)) (w.alloc (.mapIter none 0 #[] 0)):=by
   simp [Instr.range,run_underlying ht]
  rw [this];exact key _ none 0 0 ⟨w.heap.size,none,bA,heap_alloc_new w _,DX hI,rfl⟩
 ·rename_i j hev;rw [hev] at hm;simp only [Rp] at hm;split at he
  ·rename_i ag ks vs bs cl hg;injection he with he;injection he with e1 e2;subst e1;subst e2;obtain ⟨g,ens,h1,h2,h3,h4,h5,h6⟩:=Ax hI hg;have:(Instr.range t (a.eval m)).run P w=.ok (.pointer (some ⟨w.heap.size,0,none⟩)) (w.alloc (.mapIter (some g) cl #[] cl)):=by
    rw [hm.2.1,h1];simp [Instr.range,run_underlying ht,jD h2]
   rw [this];exact key _ (some g) cl cl ⟨w.heap.size,some g,bA,heap_alloc_new w _,DX hI,g,rfl,by omega,by rw [eN hm.1];exact h1⟩
  ·simp at he
 ·simp at he
def SF (hI:Inv h φ w T) {i:Nat} {m:Option Nat} {since:Nat} {seen:List Nat} {st:Nat} (hg:bZ T i=some (.mit m since seen st)) :
  ∃ (g:Nat) (mo:Option Nat),φ i=.pointer (some ⟨g,0,none⟩)∧w.heap[g]?=some (.mapIter mo since seen.toArray st)∧h g=none ∧
   (match (generalizing:=false) m with | none=>mo=none | some j=>∃ b,mo=some b∧j<T.length∧φ j=.map (some b)):=hI.obj i _ (aZ hg)
def aCv {st:St} {K:AV→aH→Prop} (hG:pS G h) (hI:Inv h φ w st.T) (hS:qU h φ st.T.length st.s a) {p:Operand} (hw:rV P G st (.nxt p) K) (ty:TypeId) :
  ∃ v w',(Instr.next (a.eval p) false ty).run P w=.ok v w'∧Bv h φ st.T w K v w':=by
 have hp:=cJ hG hS p;simp only [rV] at hw;split at hw
 ·rename_i i hev;rw [hev] at hp;simp only [Rp] at hp;obtain ⟨hlt,g,hφ,hu⟩:=hp;split at hw
  ·rename_i since seen la hg;obtain ⟨g',mo,e1,e2,e3,e4⟩:=SF hI hg;simp only at e4;subst e4;rw [hφ] at e1;injection e1 with e1;injection e1 with e1;injection e1 with e1;subst e1;refine ⟨.tuple #[.bool false],w,?_,_,st.T,h,φ,hw,Evo.refl,hI,by simp [Rp]⟩;rw [hu];simp [Instr.next,getObj,Sem.run,e2,Sem.run_bind,Result.andThen]
  ·rename_i j since seen la hg;split at hw
   ·rename_i ag ks vs bs cl hm;obtain ⟨w1,w2,w3,w4⟩:=hw;obtain ⟨g',mo,e1,e2,e3,b,rfl,e5,e6⟩:=SF hI hg;rw [hφ] at e1;injection e1 with e1;injection e1 with e1;injection e1 with e1;subst e1;obtain ⟨gm,ens,m1,m2,m3,m4,m5,m6⟩:=Ax hI hm;rw [e6] at m1;injection m1 with m1;injection m1 with m1;subst m1;have hold:∀ x∈ens.toList,x.born<since:=λx hx=>w2 x.born (by rw [←m5];exact List.mem_map_of_mem hx);rcases run_next_at (P:=P) w ty g b since la seen.toArray ens cl e2 m2 hold w1 with ⟨n1,n2⟩ | ⟨e,n1,wx,n2,n3⟩
    ·refine ⟨_,w,by rw [hu];exact n2,_,st.T,h,φ,w3 ?_,Evo.refl,hI,by simp [Rp]⟩;intro b' hb';rw [←m5] at hb';obtain ⟨x,hx,rfl⟩:=cZ.1 hb';have:=VW n1;unfold leftOf at this;rw [Array.filter_eq_empty_iff] at this;have:=this x (by simpa using hx);simpa using this
    ·unfold leftOf at n1;simp only [Array.toList_filter,uD] at n1;obtain ⟨n1,n4⟩:=n1;obtain ⟨ei,hei⟩:=Md n1;have hk:∃ k,ks[ei]?=some k∧e.key=gY ag k:=by
      have:(ens.toList.map (·.key))[ei]?=some e.key:=by rw [lO,hei];rfl
      rw [m4,lO] at this
      cases hks:ks[ei]? with
      | none=>simp [hks] at this
      | some k=>simp only [hks,lA,Option.some.injEq] at this;exact ⟨k,rfl,this.symm⟩
     obtain ⟨k,hk1,hk2⟩:=hk;have hb:bs[ei]?=some e.born:=by rw [←m5,lO,hei];rfl
     have hvl:ei<vs.length:=by
      rw [m6.length,aL];have:=(vE.1 hei).1;exact this
     obtain ⟨u,hu1,hu2⟩:=m6.get (nQ hvl);rw [lO,hei] at hu1;simp only [lA,Option.some.injEq] at hu1;subst hu1;have hK:=w4 ei k _ e.born hk1 (nQ hvl) hb (by simpa using n4);have hset:Inv h φ (Go.ChangeMaps.setBlock wx g (.mapIter (some b) since (seen.toArray.push e.born) cl)) (st.T.set i (some (.mit (some j) since (seen++[e.born]) cl))) ∧
       Evo h φ st.T w h φ (st.T.set i (some (.mit (some j) since (seen++[e.born]) cl))) (Go.ChangeMaps.setBlock wx g (.mapIter (some b) since (seen.toArray.push e.born) cl)):=by
      have hsz:wx.heap=w.heap∧wx.os=w.os∧wx.tape=w.tape∧wx.output=w.output∧w.drawn≤wx.drawn:=by
       rcases n2 with rfl | rfl
       ·exact ⟨rfl,rfl,rfl,rfl,cT _⟩
       ·exact ⟨rfl,rfl,rfl,rfl,Hk _⟩
      obtain ⟨s1,s2,s3,s4,s5⟩:=hsz;have hgl:g<w.heap.size:=by
       rcases gM g w.heap.size with hh | hh
       ·exact hh
       ·rw [Nx hh] at e2;simp at e2
      refine DW (w':=Go.ChangeMaps.setBlock wx g (.mapIter (some b) since (seen.toArray.push e.born) cl)) hI s2 s3 s4 (by simp [Go.ChangeMaps.setBlock,s1]) (aZ hg) (λb' _ hne=>?_) ⟨g,some b,hφ,?_,e3,b,rfl,e5,e6⟩ s5
      ·have:b'≠g:=λhh=>hne (by rw [hφ,hh];rfl);simp [Go.ChangeMaps.setBlock,s1,Ne.symm this]
      ·simp [Go.ChangeMaps.setBlock,s1,hgl]
     refine ⟨_,_,by rw [hu];exact n3,_,_,h,φ,hK,hset.2,hset.1,?_⟩;rw [hk2];simp only [Rp,bK];rw [gG];exact ⟨_,rfl,_,_,rfl,rfl,_,_,rfl,rfl,_,_,rfl,hu2,rfl⟩
   ·exact hw.elim
  ·exact hw.elim
 ·exact hw.elim
def V5 (hG:pS G h) (hI:Inv h φ w T) (hS:qU h φ T.length s a) {p:Operand} {x:AV} {T':aH} (he:bO T (cQ G s) (.ent p)=some (x,T')) :
  T'=T∧∃ v,(Instr.entry (a.eval p)).run P w=.ok v w∧Rp h φ T.length x v:=by
 have hp:=cJ hG hS p;simp only [bO] at he;split at he
 ·rename_i i hev;rw [hev] at hp;simp only [Rp] at hp;obtain ⟨hlt,g,hφ,hu⟩:=hp;split at he
  ·rename_i j since seen la hg;split at he
   ·rename_i ag ks vs bs cl b hm hb;split at he
    ·rename_i hcl;subst hcl;split at he
     ·rename_i e hf;split at he
      ·rename_i k v hk hv;injection he with he;injection he with e1 e2;subst e1;subst e2;obtain ⟨g',mo,e1,e2,e3,bm,rfl,e5,e6⟩:=SF hI hg;rw [hφ] at e1;injection e1 with e1;injection e1 with e1;injection e1 with e1;subst e1;obtain ⟨gm,ens,m1,m2,m3,m4,m5,m6⟩:=Ax hI hm;rw [e6] at m1;injection m1 with m1;injection m1 with m1;subst m1;have hf':ens.findIdx? (λx=>x.born==b)=some e:=by
        conv=>lhs;rw [show ens=ens.toList.toArray from by rw [Tz]]
        rw [List.findIdx?_toArray];rw [←m5,List.findIdx?_map] at hf;exact hf
       have hes:∃ en,ens[e]?=some en∧ens.find? (λx=>x.born==b)=some en:=by
        rw [Array.findIdx?_eq_some_iff_getElem] at hf';obtain ⟨hlt',hp1,hp2⟩:=hf';refine ⟨ens[e],Nw hlt',?_⟩;grind [Array.find?_eq_some_iff_getElem]
       obtain ⟨en,hen,hfind⟩:=hes;have hen':ens.toList[e]?=some en:=by simpa using hen
       have hkey:en.key=gY ag k:=by
        have:(ens.toList.map (·.key))[e]?=some en.key:=by grind
        simp_all
       have hval:Rp h φ T.length v en.val:=by
        obtain ⟨u,hu1,hu2⟩:=m6.get hv;simp_all
       have hback:seen.toArray.back?=some b:=by simp_all
       refine ⟨rfl,.tuple #[en.key,en.val],?_,?_⟩
       ·rw [hu];simp [Instr.entry,getObj,Sem.run_bind,Sem.run,e2,m2,Result.andThen,hback,hfind]
       ·rw [hkey];simp only [Rp,bK];exact ⟨_,rfl,_,_,rfl,rfl,_,_,rfl,hval,rfl⟩
      ·simp at he
     ·simp at he
    ·simp at he
   ·simp at he
  ·simp at he
 ·simp at he
def V6 (z:Array Value) (hz:0<z.size) (n:Nat):(Builtin.zeroCells z n).toList=(List.replicate n z.toList).flatten:=by
 have key:∀ n,(List.replicate n z.toList).flatten=Ff z.toList n:=by
  intro n
  induction n with
  | zero=>rfl
  | succ n ih=>simp [Pg,Ff,ih]
 rw [key];exact Mz z hz n
def QB (z:List Value) (h:GH):∀ n,bQ h (List.replicate n (z.map AV.v)).flatten (List.replicate n z).flatten
 | 0=>by simp [bQ]
 | n+1=>by
  rw [Pg,Pg,qW,qW];exact (OB h z).app (QB z h n)
def V7 {t e ty:TypeId} (ht:P.underlying t=some (.slice e)) {i:TypeInfo} (hi:P.info? e=some i) {z:Value} (hz:i.zero=some z) (hzs:z.cells.size=i.size) (h0:0<i.size) (h1:(z.cells.toList.all λv=>eO (.v v))=true)
  (hG:pS G h) (hI:Inv h φ w T) (hS:qU h φ T.length s a) {p:Operand} {x:AV} {T':aH} (he:bO T (cQ G s) (.clr p i.size z.cells.toList)=some (x,T')) :
  fV h φ T w ((Builtin.clear_ #[t] ty #[a.eval p]).run P w) x T':=by
 have hp:=cJ hG hS p;have none_run:∀ A c,(Builtin.clear_ #[t] ty #[.slice A 0 c]).run P w=.ok (.tuple #[]) w:=by
  intro A c;cases A<;>simp [Builtin.clear_,run_underlying ht]
 have hone:∀ n,∀ v∈(List.replicate n z.cells.toList).flatten,v.oneCell'=true:=by
  intro n v hv;obtain ⟨l,hl,hvl⟩:=Hg.1 hv;rw [aBX hl] at hvl;have:=lF.1 h1 v hvl;exact Ik (h:=h) (φ:=φ) (n:=0) (x:=.v v) (by simp [Rp]) this
 have hflen:∀ n,(List.replicate n z.cells.toList).flatten.length=n*i.size:=by
  simp_all
 have run:∀ (g o n c:Nat) (cur:Array Value) (E:TypeId),0<n→w.heap[g]?=some (.cells cur E (0,0))→o+n*i.size≤cur.size →
   (Builtin.clear_ #[t] ty #[.slice (some ⟨g,o,none⟩) n c]).run P w=.ok (.tuple #[]) (w.setRow g (cur.toList.take o++(List.replicate n z.cells.toList).flatten++cur.toList.drop (o+n*i.size)).toArray):=by
  intro g o n c cur E hn hw hle;have vT:=run_storeCells_at P g o E (List.replicate n z.cells.toList).flatten 0 cur w hw (by rw [hflen];omega) (hone n);simp only [wK,hflen] at vT;obtain ⟨m,rfl⟩:∃ m,n=m+1:=⟨n-1,by omega⟩
  simp [Builtin.clear_,run_underlying ht,zeroValue,typeInfo,hi,hz,V6 z.cells (by omega),vT]
 have write:∀ (j k lo n c:Nat) (es:List (List AV)) (g:Nat),bZ T j=some (.arr i.size es)→φ j=.slice (some ⟨g,0,none⟩) es.length c→lo+n≤es.length→(z.cells.toList.all λv=>aO (.v v))=true →
   fV h φ T w ((Builtin.clear_ #[t] ty #[.slice (some ⟨g,lo*i.size,none⟩) n k]).run P w) (.v (.tuple #[])) (T.set j (some (.arr i.size (es.take lo++List.replicate n (z.cells.toList.map .v)++es.drop (lo+n))))):=by
  intro j k lo n c es g hg hφ hle hcl;by_cases hn:n=0
  ·subst hn;rw [none_run];have:T.set j (some (.arr i.size (es.take lo++List.replicate 0 (z.cells.toList.map .v)++es.drop (lo+0))))=T:=by
    simp only [Xj,nR,wK,Lo];exact Jw (aZ hg)
   rw [this];exact ⟨_,w,h,φ,rfl,Evo.refl,hI,by simp [Rp]⟩
  ·obtain ⟨hl,h2 | ⟨g',c',cur,E,hφ',hw,h3,h4,h5,h6,h7⟩⟩:=wA hI hg
   ·simp_all
   ·rw [hφ] at hφ';injection hφ' with e1 e2 e3;injection e1 with e1;injection e1 with e1;subst e1;subst e3;have hl':∀ d∈es,d.length=i.size:=λd hd=>(hl d hd).1;have hmul:(lo+n)*i.size≤es.length*i.size:=Ny _ hle;have hmul2:es.length*i.size≤(c'+1)*i.size:=Ny _ h3;rw [CM] at hmul;rw [run g (lo*i.size) n k cur E (by omega) hw (by omega)];have hcur:cur.toList.length=(c'+1)*i.size:=by rw [show cur.toList.length=cur.size from Dx,h5]
    have hnl:∀ d∈es.take lo++List.replicate n (z.cells.toList.map AV.v)++es.drop (lo+n),d.length=i.size∧∀ c∈d,aO c=true:=by
     intro d hd;simp only [eM] at hd;rcases hd with (hd | hd) | hd
     ·exact hl d (Ef hd)
     ·rw [aBX hd];refine ⟨by simp [hzs],λc hc=>?_⟩;obtain ⟨v,hv,rfl⟩:=cZ.1 hc;exact lF.1 hcl v hv
     ·exact hl d (Me hd)
    have hlen:(es.take lo++List.replicate n (z.cells.toList.map AV.v)++es.drop (lo+n)).length=es.length:=by
     simp only [gK,kM,Tw,xS];omega
    have hflat:(es.take lo++List.replicate n (z.cells.toList.map AV.v)++es.drop (lo+n)).flatten=es.flatten.take (lo*i.size)++(List.replicate n (z.cells.toList.map AV.v)).flatten++es.flatten.drop (lo*i.size+n*i.size):=by
     rw [PZ,PZ,DZ hl',DY hl',CM]
    have:=Im (o':=.arr i.size (es.take lo++List.replicate n (z.cells.toList.map AV.v)++es.drop (lo+n))) hI (aZ hg) hw (by rw [hφ];rfl)
     (new:=(cur.toList.take (lo*i.size)++(List.replicate n z.cells.toList).flatten++cur.toList.drop (lo*i.size+n*i.size)).toArray)
     ⟨hnl,.inr ⟨g,c',_,E,by rw [hφ,hlen],setRow_heap w g cur _ E _ hw,by rw [hlen];exact h3,h4,by
      rw [Lt];simp only [gK,kM,xS,hflen,hcur];omega,h6,by
      rw [hflat,hlen];have:=Jk cur.toList (List.replicate n z.cells.toList).flatten (lo*i.size) (n*i.size) (es.length*i.size) (by omega) (by omega) (hflen n);show bQ h _ (List.take _ (cur.toList.take (lo*i.size)++(List.replicate n z.cells.toList).flatten++cur.toList.drop (lo*i.size+n*i.size)));rw [this]
      exact ((h7.take _).app (QB _ h n)).app (h7.drop _)⟩⟩
    exact ⟨_,_,h,φ,rfl,this.2,this.1,by simp [Rp]⟩
 simp only [bO] at he;split at he
 ·rename_i k hev;injection he with he;injection he with e1 e2;subst e1;subst e2;rw [hev] at hp;simp only [Rp,kY] at hp;obtain ⟨A,c,hu,_⟩:=hp;rw [hu];simp only [jJ];rw [none_run];exact ⟨_,w,h,φ,rfl,Evo.refl,hI,by simp [Rp]⟩
 ·rename_i hev;injection he with he;injection he with e1 e2;subst e1;subst e2;rw [jO hG hS hev,none_run];exact ⟨_,w,h,φ,rfl,Evo.refl,hI,by simp [Rp]⟩
 ·rename_i j hev;rw [hev] at hp;simp only [Rp] at hp;split at he
  ·rename_i k' es hg;split at he
   ·rename_i hc;obtain ⟨rfl,hc1,hc2⟩:=hc;injection he with he;injection he with e1 e2;subst e1;subst e2;obtain ⟨_,h2 | ⟨g,c,cur,E,hφ,_⟩⟩:=wA hI hg
    ·obtain ⟨A,hA,rfl⟩:=h2;rw [hp.2.1,hA,none_run];have:T.set j (some (.arr i.size (List.replicate ([]:List (List AV)).length (z.cells.toList.map .v))))=T:=by
      simp only [jJ,Xj];exact Jw (aZ hg)
     rw [this];exact ⟨_,w,h,φ,rfl,Evo.refl,hI,by simp [Rp]⟩
    ·rw [hp.2.1,hφ];have:=write j (c+1) 0 es.length (c+1) es g hg hφ (by omega) hc2;simpa using this
   ·simp at he
  ·simp at he
 ·rename_i j k' lo m hev;rw [hev] at hp;simp only [Rp] at hp;split at he
  ·rename_i k'' es hg;split at he
   ·rename_i hc;obtain ⟨rfl,rfl,hc1,hc2,hc3⟩:=hc;injection he with he;injection he with e1 e2;subst e1;subst e2;obtain ⟨_,A,c,hu,_,_,h3⟩:=hp;rcases h3 with rfl | ⟨g,l,c',hφ,rfl,hle⟩
    ·rw [hu,none_run];have:T.set j (some (.arr i.size (es.take lo++List.replicate 0 (z.cells.toList.map .v)++es.drop (lo+0))))=T:=by
      simp only [Xj,nR,wK,Lo];exact Jw (aZ hg)
     rw [this];exact ⟨_,w,h,φ,rfl,Evo.refl,hI,by simp [Rp]⟩
    ·rw [hu];have hl:l=es.length:=by
      obtain ⟨_,h2 | ⟨g',c2,cur,E,hφ',_⟩⟩:=wA hI hg
      ·obtain ⟨A,hA,rfl⟩:=h2;rw [hφ] at hA;injection hA
      ·rw [hφ] at hφ';injection hφ'
     subst hl;exact write j c lo m c' es g hg hφ hc2 hc3
   ·simp at he
  ·simp at he
 ·simp at he
end
end
end Hud
section
namespace Hud
open Go Go.Lib
section
variable {P:Program} {G:Nat→Option (List AV)} {h:GH} {φ:Nat→Value} {w:World} {T:aH} {s:List (Nat×AV)} {a:Act}
def aAy {ev:Operand→AV} {x y:Operand} {r:AV} {T':aH} (he:bO T ev (.apS x y)=some (r,T')) :
    ∃ S,ev y=.v (.string S) ∧
      ((ev x=.v (.slice none 0 0)∧S.size≤140737488355328∧S.size≤maxLen∧r=.own T.length∧T'=T++[some (.arr 1 (jC S))]) ∨
       ∃ i es,ev x=.own i∧bZ T i=some (.arr 1 es)∧es.length+S.size≤140737488355328∧es.length+S.size≤maxLen∧r=.own T.length∧T'=T.set i none++[some (.arr 1 (es++jC S))]):=by
  simp only [bO] at he;split at he
  · rename_i S hS
    refine ⟨S,hS,?_⟩
    split at he
    · rename_i hx
      split at he
      · rename_i hc
        injection he with he;injection he with e1 e2
        exact .inl ⟨hx,hc.1,hc.2,e1.symm,e2.symm⟩
      · simp at he
    · rename_i i hx
      split at he
      · rename_i k' es hg
        split at he
        · rename_i hc
          obtain ⟨rfl,hc1,hc2⟩:=hc
          injection he with he;injection he with e1 e2
          exact .inr ⟨i,es,hx,hg,hc1,hc2,e1.symm,e2.symm⟩
        · simp at he
      · simp at he
    · simp at he
  · simp at he
def QD (n:Nat):∀ l:List UInt8,bQ h (l.map λb=>AV.v (.int .u8 (b.toNat:Int))) (l.map λb=>Value.int .u8 (b.toNat:Int))
 | []=>by simp [bQ]
 | x::l=>by
  simp only [fE,bQ];exact ⟨_,_,rfl,by simp [kY],QD n l⟩
def V8 {n:Nat} (S:ByteArray):An h φ n true (jC S).flatten (strCells S):=by
 have e:(jC S).flatten=S.data.toList.map λb=>AV.v (.int .u8 (b.toNat:Int)):=by
  unfold jC
  induction S.data.toList with
  | nil=>rfl
  | cons x l ih=>simp only [fE,qW,ih];rfl
 rw [e];show bQ h _ _;exact QD 0 _
def YF (w:World) {t u e ty:TypeId} (ht:P.underlying t=some (.slice e)) (hut:P.underlying u=some .string) {i:TypeInfo} (hi:P.info? e=some i) (A:Option Addr) (c:Nat) {S:ByteArray} (hS:S.size=0) (hA:A=none∨A.isSome=true) :
  (Builtin.append_ #[t,u] ty #[.slice A 0 c,.string S]).run P w=.ok (.slice A 0 c) w:=by
 have hf:=run_firstCells_string (P:=P) w i.size S;have hc:strCells S=[]:=H7 (by rw [strCells_length,hS]);rw [hS,hc] at hf;cases A<;>simp [Builtin.append_,run_underlying ht,run_underlying hut,Go.sizeOf,typeInfo,hi,Builtin.lenOf,hS,hf,storeCells]
def nilS (w:World) {t u e ty:TypeId} (ht:P.underlying t=some (.slice e)) (hut:P.underlying u=some .string) {i:TypeInfo} (hi:P.info? e=some i) {z:Value} (hz:i.zero=some z) (S:ByteArray) (h0:0<S.size) (h63:(S.size:Int)≤9223372036854775807) (h48:S.size*i.bytes≤281474976710656) :
  (Builtin.append_ #[t,u] ty #[.slice none 0 0,.string S]).run P w =
   .ok (.slice (some ⟨w.heap.size,0,none⟩) S.size (grownCap w S.size 0 e)) (w.drew.alloc (.cells ((strCells S).toArray++Builtin.zeroCells z.cells (grownCap w S.size 0 e-S.size)) e)):=by
 rw [run_append_nil_string w t u ty e i z ht hut hi hz S h0 h63 h48];congr 3;apply Array.ext';simp [strCells]
set_option maxHeartbeats 1000000
def V9 {t u e ty:TypeId} (ht:P.underlying t=some (.slice e)) (hut:P.underlying u=some .string) {i:TypeInfo} (hi:P.info? e=some i) {z:Value} (hz:i.zero=some z) (hzs:z.cells.size=i.size) (hs1:i.size=1) (hby:i.bytes=1)
    (hG:pS G h) (hI:Inv h φ w T) (hS:qU h φ T.length s a) {p q:Operand} {x:AV} {T':aH} (he:bO T (cQ G s) (.apS p q)=some (x,T')) :
    fV h φ T w ((Builtin.append_ #[t,u] ty #[a.eval p,a.eval q]).run P w) x T':=by
  have h0:0<i.size:=by omega
  obtain ⟨S,hqv,hcase0⟩:=aAy he;have hp:=cJ hG hS p;have hu:a.eval q=.string S:=jO hG hS hqv;obtain ⟨new,hnewd⟩:∃ new,new=jC S:=⟨_,rfl⟩
  obtain ⟨news,hnews⟩:∃ news,news=strCells S:=⟨_,rfl⟩
  obtain ⟨fb,hfb⟩:∃ fb:Bool,fb=true:=⟨_,rfl⟩
  have hSl:new.length=S.size:=by rw [hnewd];simp [jC]
  have hnew:∀ d∈new,d.length=i.size∧∀ c∈d,Lu fb c=true:=by
    intro d hd;rw [hnewd] at hd;simp only [jC,cZ] at hd;obtain ⟨x,_,rfl⟩:=hd;refine ⟨by rw [hs1];rfl,λc hc=>?_⟩;rw [iU.1 hc,hfb];rfl
  have hnl:An h φ T.length fb new.flatten news:=by
    rw [hnewd,hnews,hfb];exact V8 S
  have hcase:(cQ G s p=.v (.slice none 0 0)∧new.length*i.bytes≤140737488355328∧new.length≤maxLen∧x=.own T.length∧T'=T++[some (fY fb i.size new)]) ∨
       ∃ j es b',cQ G s p=.own j∧oX (bZ T j)=some (i.size,es,b')∧(es.length+new.length)*i.bytes≤140737488355328∧es.length+new.length≤maxLen∧x=.own T.length∧T'=T.set j none++[some (fY (fb&&b') i.size (es++new))]:=by
    rw [hs1,hby,hfb,hSl,hnewd];rcases hcase0 with ⟨e1,e2,e3,e4,e5⟩ | ⟨j,es,e1,e2,e3,e4,e5,e6⟩
    · exact .inl ⟨e1,by omega,e3,e4,e5⟩
    · exact .inr ⟨j,es,true,e1,by rw [e2];rfl,by omega,e4,e5,e6⟩
  have hnlen:news.length=new.length*i.size:=by rw [←hnl.length,wL λd hd=>(hnew d hd).1]
  have hone:∀ v∈news,v.oneCell'=true:=by
    intro v hv;obtain ⟨j,hj⟩:=Md hv;have hjl:j<new.flatten.length:=by
      rw [hnl.length];rcases gM j news.length with hh | hh
      · exact hh
      · rw [oW hh] at hj;simp at hj
    obtain ⟨u,h1,h2⟩:=hnl.toL.get (nQ hjl);rw [hj] at h1;injection h1 with h1;subst h1;obtain ⟨d,hd,hcd⟩:=Hg.1 (iN hjl);exact Ik h2 (Il ((hnew d hd).2 _ hcd))
  have cap_cells:∀ (m old:Nat) (xs:List Value),xs.length=m*i.size→m≤maxLen →
      (xs.toArray++Builtin.zeroCells z.cells (grownCap w m old e-m)).size=grownCap w m old e*i.size∧(xs.toArray++Builtin.zeroCells z.cells (grownCap w m old e-m)).toList.take (m*i.size)=xs∧m≤grownCap w m old e∧grownCap w m old e≤maxLen:=by
    intro m old xs hxs hm;have hge:=grownCap_ge w m old e;refine ⟨?_,?_,hge,grownCap_le_maxLen w m old e hm⟩
    · simp only [Array.size_append,Lt,size_zeroCells,hzs,hxs,←CM]
      congr 1
      omega
    · simp only [Pf]
      rw [←hxs]
      exact T9
  rcases hcase with ⟨hx,hb,hm,rfl,rfl⟩ | ⟨j,es,b',hx,hg,hb,hm,rfl,rfl⟩
  ·
    rw [jO hG hS hx,hu]
    by_cases hn0:new=[]
    · have hs0:S.size=0:=by rw [←hSl,hn0];rfl
      rw [hn0]
      have:(Builtin.append_ #[t,u] ty #[.slice none 0 0,.string S]).run P w=.ok (.slice none 0 0) w:=YF w ht hut hi none 0 hs0 (.inl rfl)
      rw [this]
      have:=pG (w':=w) (o:=fY fb i.size []) (v:=.slice none 0 0) hI rfl rfl rfl (cT _) (λ_ _=>rfl) (λg hg=>by simp [iE] at hg) (kE.2 ⟨by simp,.inl ⟨none,bA,rfl⟩⟩)
      refine ⟨_,w,h,_,rfl,this.2,this.1,?_⟩
      simp only [Rp]
      exact ⟨by simp,bA.symm,_,_,_,rfl⟩
    · have hpos:0<new.length:=JS.2 hn0
      have hr:=nilS (P:=P) w (ty:=ty) ht hut hi hz S (by omega) (by unfold maxLen at hm;omega) (by rw [hby];omega)
      rw [←hSl,←hnews] at hr
      rw [hr]
      obtain ⟨c1,c2,c3,c4⟩:=cap_cells new.length 0 news hnlen hm
      exact oZ (w1:=w.drew) hI rfl rfl rfl rfl hnew rfl c3 c4 c1 (by rw [c2];exact hnl) e
  ·
    rw [hx] at hp
    simp only [Rp] at hp
    obtain ⟨hl,h1 | ⟨g,cap,cur,E,hφ,hw,h2,h3,h4,h5,h6⟩⟩:=nS hI hg
    ·
      obtain ⟨A0,hφ,rfl⟩:=h1
      rw [hp.2.1,hφ,hu]
      simp only [gW,jJ,qT] at hb hm ⊢
      obtain ⟨hI',hE'⟩:=tD hI j
      have comb:∀ {r:Result Value},fV h φ (T.set j none) w r (.own (T.set j none).length) (T.set j none++[some (fY (fb&&b') i.size new)])→fV h φ T w r (.own T.length) (T.set j none++[some (fY (fb&&b') i.size new)]):=by
        rintro r ⟨v,w',h',φ',m1,m2,m3,m4⟩;rw [gG] at m4;exact ⟨v,w',h',φ',m1,hE'.trans m2,m3,m4⟩
      apply comb
      by_cases hn0:new=[]
      · have hs0:S.size=0:=by rw [←hSl,hn0];rfl
        rw [hn0]
        have:(Builtin.append_ #[t,u] ty #[.slice A0 0 0,.string S]).run P w=.ok (.slice A0 0 0) w:=YF w ht hut hi A0 0 hs0 (by cases A0;exact .inl rfl;exact .inr rfl)
        rw [this]
        have:=pG (w':=w) (o:=fY (fb&&b') i.size []) (v:=.slice A0 0 0) hI' rfl rfl rfl (cT _) (λ_ _=>rfl) (λg hg=>by simp [iE] at hg) (kE.2 ⟨by simp,.inl ⟨A0,bA,rfl⟩⟩)
        refine ⟨_,w,h,_,rfl,this.2,this.1,?_⟩
        simp only [Rp]
        exact ⟨by simp,bA.symm,_,_,_,rfl⟩
      · have hpos:0<new.length:=JS.2 hn0
        cases A0 with
          | none =>
            have hr:=nilS (P:=P) w (ty:=ty) ht hut hi hz S (by omega) (by unfold maxLen at hm;omega) (by rw [hby];omega)
            rw [←hSl,←hnews] at hr
            rw [hr]
            obtain ⟨c1,c2,c3,c4⟩:=cap_cells new.length 0 news hnlen hm
            exact oZ (w1:=w.drew) hI' rfl rfl rfl rfl (λd hd=>⟨(hnew d hd).1,λc hc=>mW ((hnew d hd).2 c hc) (λhh=>(lN _ _ ▸ hh:fb=true∧b'=true).1)⟩) rfl c3 c4 c1 (by rw [c2,gG];exact hnl.weaken λhh=>(lN _ _ ▸ hh:fb=true∧b'=true).1) e
          | some a0 =>
            have hr:=run_append_grow_string (P:=P) w t u ty e i z ht hut hi hz a0 0 0 [] (by simp) (λj v hj=>by simp at hj) S (by omega) (by unfold maxLen at hm;omega) (growslice_fits (by omega) (by rw [hby];omega))
            rw [←hSl,←hnews] at hr
            rw [hr]
            obtain ⟨c1,c2,c3,c4⟩:=cap_cells new.length 0 news hnlen hm
            simp only [qT,T6] at *
            exact oZ (w1:=w.drew) hI' rfl rfl rfl rfl (λd hd=>⟨(hnew d hd).1,λc hc=>mW ((hnew d hd).2 c hc) (λhh=>(lN _ _ ▸ hh:fb=true∧b'=true).1)⟩) rfl c3 c4 c1 (by rw [c2,gG];exact hnl.weaken λhh=>(lN _ _ ▸ hh:fb=true∧b'=true).1) e
    · rw [hp.2.1,hφ,hu]
      have holen:(cur.toList.take (es.length*i.size)).length=es.length*i.size:=by rw [←h6.length,wL λd hd=>(hl d hd).1]
      have hbb:(fb&&b')=true→fb=true∧b'=true:=λhh=>by simpa using hh
      have hboth:∀ d∈es++new,d.length=i.size∧∀ c∈d,Lu (fb&&b') c=true:=by
        intro d hd;rcases eM.1 hd with hd | hd
        · exact ⟨(hl d hd).1,λc hc=>mW ((hl d hd).2 c hc) λhh=>(hbb hh).2⟩
        · exact ⟨(hnew d hd).1,λc hc=>mW ((hnew d hd).2 c hc) λhh=>(hbb hh).1⟩
      have hbothL:An h φ T.length (fb&&b') (es++new).flatten (cur.toList.take (es.length*i.size)++news):=by rw [PZ];exact (h6.weaken λhh=>(hbb hh).2).app (hnl.weaken λhh=>(hbb hh).1)
      by_cases hroom:es.length+new.length≤cap+1
      ·
        have hf:(Builtin.firstCells i.size new.length (.string S)).run P w=.ok news.toArray w:=by rw [hSl,hnews];exact run_firstCells_string w i.size S
        have hroom2:es.length+S.size≤cap+1:=by omega
        rw [hSl] at hf
        have hfit:es.length*i.size+news.length≤cur.size:=by rw [hnlen,h4,←CM];exact Ny _ hroom
        have vT:=run_storeCells_at P g (es.length*i.size) E news 0 cur w hw (by simpa using hfit) hone
        simp only [wK] at vT
        have hrun:(Builtin.append_ #[t,u] ty #[.slice (some ⟨g,0,none⟩) es.length (cap+1),.string S]).run P w =
            .ok (.slice (some ⟨g,0,none⟩) (es.length+new.length) (cap+1)) (w.setRow g (cur.toList.take (es.length*i.size)++news++cur.toList.drop (es.length*i.size+news.length)).toArray):=by
          rw [hSl];simp [Builtin.append_,run_underlying ht,run_underlying hut,Go.sizeOf,typeInfo,hi,Builtin.lenOf,hroom2,hf,fI,vT]
        rw [hrun]
        have hI1:=tD hI j
        have hgt:=aZ (Au hg)
        refine ⟨_,_,h,Vf φ T.length (.slice (some ⟨g,0,none⟩) (es.length+new.length) (cap+1)),rfl,?_,?_,?_⟩
        · refine ⟨rfl,rfl,rfl,by simp,λb hb hne=>setRow_other w g b _ λe=>hne j _ hgt (by rw [hφ,e];rfl),zG.refl h,λ_ _ e=>.inl e,λm hm=>eN hm,λm o b em hbl=>?_,by simp,cT _⟩
          rcases iD em with ⟨hm',em'⟩ | ⟨rfl,em'⟩
          · rw [gG] at hm'
            rw [eN hm'] at hbl
            rcases lH em' with ⟨_,e'⟩ | ⟨_,e'⟩
            · simp at e'
            · exact .inr ⟨m,o,e',hbl⟩
          · rw [gG,bA] at hbl
            simp only [iE,Option.some.injEq] at hbl
            exact .inr ⟨j,_,hgt,by rw [hφ];simp [iE,hbl]⟩
        · refine ⟨λb cs eb=>?_,λm o em=>?_,λm m' o o' b em em' hbm hbm'=>?_⟩
          · obtain ⟨E',fr,hb'⟩:=hI.gh b cs eb
            refine ⟨E',fr,?_⟩
            rw [setRow_other w g b _ λe=>by subst e;rw [h5] at eb;simp at eb]
            exact hb'
          · rcases iD em with ⟨hm',em'⟩ | ⟨rfl,em'⟩
            · rw [gG] at hm'
              rcases lH em' with ⟨_,e'⟩ | ⟨hne,e'⟩
              · simp at e'
              · rw [gK,gG]
                have h7:=hI.obj m o e'
                refine mV h7 (zG.refl h) (by simp) (λj hj=>eN hj) hm' λb hb'=>?_
                obtain ⟨h8,h9⟩:=fO h7 hb'
                refine ⟨setRow_other w g b _ λe=>hne (hI.dis m j o _ b e' hgt hb' (by rw [hφ,e];rfl)),h9⟩
            · injection em' with em'
              subst em'
              rw [gG,gK,gG]
              refine kE.2 ⟨hboth,.inr ⟨g,cap,_,E,by rw [bA,gK],setRow_heap w g cur _ E _ hw,by rw [gK];exact hroom,h3,?_,h5,?_⟩⟩
              · rw [Lt]
                simp only [gK,xS,holen]
                rw [show cur.toList.length=cur.size from Dx,←h4]
                omega
              · have hlen2:(cur.toList.take (es.length*i.size)++news).length=(es++new).length*i.size:=by rw [gK,holen,hnlen,gK,CM]
                show An h _ _ (fb&&b') _ (List.take _ (cur.toList.take (es.length*i.size)++news++cur.toList.drop (es.length*i.size+news.length)))
                rw [←hlen2,T9]
                exact hbothL.mono (zG.refl h) (by simp) λi hi=>eN hi
          · rcases iD em with ⟨hm1,em1⟩ | ⟨rfl,em1⟩<;>rcases iD em' with ⟨hm2,em2⟩ | ⟨rfl,em2⟩
            · rw [gG] at hm1 hm2
              rw [eN hm1] at hbm;rw [eN hm2] at hbm'
              exact hI1.1.dis m m' o o' b em1 em2 hbm hbm'
            · rw [gG] at hm1 hbm'
              rw [eN hm1] at hbm;rw [bA] at hbm'
              simp only [iE,Option.some.injEq] at hbm'
              rcases lH em1 with ⟨_,e'⟩ | ⟨hne,e'⟩
              · simp at e'
              · exact absurd (hI.dis m j o _ b e' hgt hbm (by rw [hφ,←hbm'];rfl)) hne
            · rw [gG] at hm2 hbm
              rw [eN hm2] at hbm';rw [bA] at hbm
              simp only [iE,Option.some.injEq] at hbm
              rcases lH em2 with ⟨_,e'⟩ | ⟨hne,e'⟩
              · simp at e'
              · exact absurd (hI.dis m' j o' _ b e' hgt hbm' (by rw [hφ,←hbm];rfl)) hne
            · rfl
        · simp only [Rp]
          rw [gK,gG]
          exact ⟨by simp,by rw [bA],_,_,_,rfl⟩
      ·
        have hne:new≠[]:=by rintro rfl;simp at hroom;omega
        · have holds:∀ j v,(cur.toList.take (es.length*i.size))[j]?=some v→w.cell? ((⟨g,0,none⟩:Addr).add j)=some v:=by
            intro j v hj;rw [fI,As hw];rw [zD] at hj;split at hj
            · rw [←hj];simp
            · simp at hj
          have hr:=run_append_grow_string (P:=P) w t u ty e i z ht hut hi hz ⟨g,0,none⟩ es.length (cap+1) _ holen holds S (by omega) (by unfold maxLen at hm;omega) (growslice_fits (by omega) (by rw [←hSl];exact hb))
          rw [←hSl,←hnews] at hr
          rw [hr]
          obtain ⟨hI',hE'⟩:=tD hI j
          have comb:∀ {r:Result Value},fV h φ (T.set j none) w r (.own (T.set j none).length) (T.set j none++[some (fY (fb&&b') i.size (es++new))])→fV h φ T w r (.own T.length) (T.set j none++[some (fY (fb&&b') i.size (es++new))]):=by
            rintro r ⟨v,w',h',φ',m1,m2,m3,m4⟩;rw [gG] at m4;exact ⟨v,w',h',φ',m1,hE'.trans m2,m3,m4⟩
          apply comb
          have hxs:(cur.toList.take (es.length*i.size)++news).length=(es.length+new.length)*i.size:=by rw [gK,holen,hnlen,CM]
          obtain ⟨c1,c2,c3,c4⟩:=cap_cells (es.length+new.length) (cap+1) (cur.toList.take (es.length*i.size)++news) hxs hm
          have heq:(cur.toList.take (es.length*i.size)).toArray++news.toArray=(cur.toList.take (es.length*i.size)++news).toArray:=by simp
          rw [heq]
          exact oZ (w1:=w.drew) hI' rfl rfl rfl rfl hboth (by simp) c3 c4 c1 (by rw [c2,gG];exact hbothL) e
end
end Hud
end
