import Derived.Test.YtdichbeaekjibaaGreatDoorLib04
import Derived.OrdersIn
import Derived.TacticsIn
import Derived.RangeFuncRecord
set_option linter.all false
namespace Hud
open Go
section
def Iv (P:Program) (o:Oper):Option HOp :=
 match o.op with
 | .makeMap t none=>match P.underlying t with
  | some (.map kt _)=>match fH P 20 kt with
   | some (ag,_)=>some (.mkm ag)
   | none=>none
  | _=>none
 | .lookup t m k ok=>match P.underlying t with
  | some (.map kt et)=>match fH P 20 kt,P.info? et with
   | some (ag,ls),some i=>match i.zero with
    | some z=>some (.lku ag ls z m k ok)
    | none=>none
   | _,_=>none
  | _=>none
 | .mapUpdate t m k x=>match P.underlying t with
  | some (.map kt _)=>match fH P 20 kt with
   | some (ag,ls)=>some (.mup ag ls m k x)
   | none=>none
  | _=>none
 | .insert t m k x=>match P.underlying t with
  | some (.map kt _)=>match fH P 20 kt with
   | some (ag,ls)=>some (.mup ag ls m k x)
   | none=>none
  | _=>none
 | .call c=>match c.callee,c.args.toList,c.argTypes[0]? with
  | .builtin .len,[x],some t=>match P.underlying t with
   | some (.map _ _)=>some (.lenM x)
   | _=>none
  | _,_,_=>none
 | _=>none
def Iw (P:Program) (o:Oper):Option HOp :=
 match o.op with
 | .buildSlice t len parts=>match P.underlying t with
  | some (.slice e)=>match P.info? e with
   | some i=>if len=0∧parts.size=0 then some (.bsl i.size [] [] 0) else none
   | none=>none
  | _=>none
 | .makeSlice t x y=>match P.underlying t with
  | some (.slice e)=>match P.info? e with
   | some i=>match i.zero with
    | some z=>if z.cells.size=i.size∧0<i.size∧(z.cells.toList.all λx=>aO (.v x))=true then some (.mks i.size z.cells.toList i.bytes x y) else none
    | none=>none
   | none=>none
  | _=>none
 | .convert src d x=>match P.underlying src,P.underlying d with
  | some .string,some (.slice e)=>match P.underlying e with
   | some (.int .u8)=>some (.s2b x)
   | _=>none
  | some (.slice e),some .string=>match P.underlying e with
   | some (.int .u8)=>some (.b2s x)
   | _=>none
  | some (.slice e),some (.slice _)=>if src=d then (match P.underlying e with
   | some (.int .u8)=>some (.b2b x)
   | _=>none) else none
  | _,_=>none
 | .slice t x lo (some hi) (some mx)=>match P.underlying t with
  | some (.slice e)=>match lU P e with
   | some k=>some (.slx x lo hi mx k)
   | none=>none
  | _=>none
 | .mapEntry t m k=>match P.underlying t with
  | some (.map kt et)=>match fH P 20 kt,P.info? et with
   | some (ag,ls),some i=>match i.zero with
    | some z=>some (.men ag ls z m k)
    | none=>none
   | _,_=>none
  | _=>none
 | .entryStore _ m s x=>some (.mst m s x)
 | .call c=>match c.callee,c.args.toList,c.argTypes[0]? with
  | .builtin .delete,[m,k],some t=>match P.underlying t with
   | some (.map kt _)=>match fH P 20 kt with
    | some (ag,ls)=>some (.del ag ls m k)
    | none=>none
   | _=>none
  | _,_,_=>none
 | _=>none
def Ix (P:Program) (o:Oper):Option HOp :=
 match o.op with
 | .makeFunc (.func f) first caps=>some (.bmo f first.size (first.toList++caps.toList))
 | .range t m=>match P.underlying t with
  | some (.map _ _)=>some (.rgm m)
  | _=>none
 | .next it false=>some (.nxt it)
 | .entry it=>some (.ent it)
 | .panic _=>some .bad
 | .makeInterface _ _=>some .bad
 | .call c=>match c.callee,c.args.toList,c.argTypes.toList with
  | .builtin .clear,[x],[t]=>match P.underlying t with
   | some (.slice e)=>match P.info? e with
    | some i=>match i.zero with
     | some z=>if z.cells.size=i.size∧0<i.size∧(z.cells.toList.all λv=>eO (.v v))=true then some (.clr x i.size z.cells.toList) else none
     | none=>none
    | none=>none
   | _=>none
  | _,_,_=>none
 | _=>none
def Iy (P:Program) (o:Oper):Option HOp :=
 match o.op with
 | .binOp op t x y _ =>
  if op=.eql∨op=.neq then
   match P.underlying t with
   | some (.array n e)=>match P.underlying e with
    | some (.int k)=>if P.cellsOf e=1∧(P.info? e).isSome∧D2 P e=some none∧P.eqGuardType P.depth t=false then some (.eqa (op==.neq) (List.replicate n (.int k)) x y) else none
    | _=>none
   | _=>none
  else none
 | .build t parts=>match P.underlying t,P.info? t with
  | some (.array _ e),some i=>match i.zero with
   | some z=>if parts.toList.length=0∧(P.info? e).isSome then some (.bld z.cells.toList []) else none
   | none=>none
  | _,_=>none
 | .call c=>match c.callee,c.args.toList,c.argTypes.toList with
  | .builtin .append,[x,y],[t,u]=>match P.underlying t,P.underlying u with
   | some (.slice e),some .string=>match P.info? e with
    | some i=>match i.zero with
     | some z=>if z.cells.size=i.size∧i.size=1∧i.bytes=1 then some (.apS x y) else none
     | none=>none
    | none=>none
   | _,_=>none
  | _,_,_=>none
 | _=>none
def Em (P:Program) (o:Oper):Option HOp :=
 match eF P o with
 | some h=>some h
 | none=>match Ir P o with
  | some h=>some h
  | none=>match Iv P o with
   | some h=>some h
   | none=>match Iw P o with
    | some h=>some h
    | none=>match Ix P o with
     | some h=>some h
     | none=>Iy P o
section
variable {P:Program} {G:Nat→Option (List AV)} {h:GH} {φ:Nat→Value} {w:World} {a:Act} {st:St} {K:AV→aH→Prop} {next:Act→World→Prop} {Q:Exit→Act→World→Prop}
def WA {o:Oper} {ho:HOp} (hc:Iv P o=some ho) (hw:rV P G st ho K) (hG:pS G h) (hI:Inv h φ w st.T) (hS:qU h φ st.T.length st.s a)
  (hn:∀ v w',Bv h φ st.T w K v w'→next (a.put o.dst v) w'):nT P o a w next:=by
 have pure_op:∀ {sv:Sem Value} (_:execOp a.eval o=(do pure (.value (←sv)))) (_:(∀ f l,ho≠.call f l)∧(∀ p,ho≠.nxt p)∧∀ n k x,ho≠.nilS n k x) (_:∀ x T',bO st.T (cQ G st.s) ho=some (x,T')→T'=st.T∧∃ v,sv.run P w=.ok v w∧Rp h φ st.T.length x v),nT P o a w next:=by
  intro sv he hcall hrun;obtain ⟨x,T',e,hk⟩:=D3 hcall hw;obtain ⟨rfl,v,h1,h2⟩:=hrun x T' e;exact qZ he h1 (hn v w (pA hI h2 hk))
 have make_op:∀ {sv:Sem Value} (_:execOp a.eval o=(do pure (.value (←sv)))) (_:(∀ f l,ho≠.call f l)∧(∀ p,ho≠.nxt p)∧∀ n k x,ho≠.nilS n k x) (_:∀ x T',bO st.T (cQ G st.s) ho=some (x,T')→fV h φ st.T w (sv.run P w) x T'),nT P o a w next:=by
  intro sv he hcall hrun;obtain ⟨x,T',e,hk⟩:=D3 hcall hw;obtain ⟨v,w',h1,h2⟩:=AM (hrun x T' e) hk;exact qZ he h1 (hn v w' h2)
 have unit_op:∀ {su:Sem Unit} (_:execOp a.eval o=(do su;pure .skip)) (_:(∀ f l,ho≠.call f l)∧(∀ p,ho≠.nxt p)∧∀ n k x,ho≠.nilS n k x) (_:∀ x T',bO st.T (cQ G st.s) ho=some (x,T')→∃ w',su.run P w=.ok () w'∧x=.v undef∧Evo h φ st.T w h φ T' w'∧Inv h φ w' T'),nT P o a w next:=by
  intro su he hcall hrun;obtain ⟨x,T',e,hk⟩:=D3 hcall hw;obtain ⟨w',h1,rfl,h2,h3⟩:=hrun x T' e;unfold nT;rw [he];simp only [Sem.run_bind,h1,Result.andThen_ok,Sem.run_pure];exact hn undef w' ⟨_,T',h,φ,hk,h2,h3,by simp [Rp]⟩
 obtain ⟨dst,op,ty,pos,after,guard⟩:=o;unfold Iv at hc;simp only at hc;split at hc
 ·rename_i t;split at hc
  ·rename_i kt et ht;split at hc
   ·rename_i ag ls hk;injection hc with hc;subst hc;refine make_op (sv:=Instr.makeMap t none) rfl (by simp) λx T' he=>?_;simp only [bO,Option.some.injEq,Prod.mk.injEq] at he;obtain ⟨rfl,rfl⟩:=he;exact Vq hI t ag
   ·simp at hc
  ·simp at hc
 ·rename_i t m k ok;split at hc
  ·rename_i kt et ht;split at hc
   ·rename_i ag ls i hk hi;split at hc
    ·rename_i z hz;injection hc with hc;subst hc;exact pure_op (sv:=Instr.lookup t (a.eval m) (a.eval k) ok) rfl (by simp) λy T' he=>Vs ht hk hi hz hG hI hS he
    ·simp at hc
   ·simp at hc
  ·simp at hc
 ·rename_i t m k x;split at hc
  ·rename_i kt et ht;split at hc
   ·rename_i ag ls hk;injection hc with hc;subst hc;exact unit_op (su:=Instr.mapUpdate t (a.eval m) (a.eval k) (a.eval x)) rfl (by simp) λy T' he=>M4 ht hk hG hI hS he
   ·simp at hc
  ·simp at hc
 ·rename_i t m k x;split at hc
  ·rename_i kt et ht;split at hc
   ·rename_i ag ls hk;injection hc with hc;subst hc;exact unit_op (su:=Instr.mapUpdate t (a.eval m) (a.eval k) (a.eval x)) rfl (by simp) λy T' he=>M4 ht hk hG hI hS he
   ·simp at hc
  ·simp at hc
 ·rename_i c;obtain ⟨callee,args,argTypes⟩:=c;simp only at hc;split at hc
  ·rename_i x t hargs hts;have ha:args=#[x]:=CK.1 (by rw [hargs]);subst ha;split at hc
   ·rename_i kt et ht;injection hc with hc;subst hc;exact pure_op (sv:=Builtin.len_ argTypes ty #[a.eval x]) (by simp [execOp,resolve,invoke,builtin]) (by simp) λy T' he=>SC ht hts hG hI hS he
   ·simp at hc
  ·simp at hc
 ·simp at hc
def WB {o:Oper} {ho:HOp} (hc:Iw P o=some ho) (hw:rV P G st ho K) (hG:pS G h) (hI:Inv h φ w st.T) (hS:qU h φ st.T.length st.s a)
  (hn:∀ v w',Bv h φ st.T w K v w'→next (a.put o.dst v) w'):nT P o a w next:=by
 have pure_op:∀ {sv:Sem Value} (_:execOp a.eval o=(do pure (.value (←sv)))) (_:(∀ f l,ho≠.call f l)∧(∀ p,ho≠.nxt p)∧∀ n k x,ho≠.nilS n k x) (_:∀ x T',bO st.T (cQ G st.s) ho=some (x,T')→T'=st.T∧∃ v,sv.run P w=.ok v w∧Rp h φ st.T.length x v),nT P o a w next:=by
  intro sv he hcall hrun;obtain ⟨x,T',e,hk⟩:=D3 hcall hw;obtain ⟨rfl,v,h1,h2⟩:=hrun x T' e;exact qZ he h1 (hn v w (pA hI h2 hk))
 have make_op:∀ {sv:Sem Value} (_:execOp a.eval o=(do pure (.value (←sv)))) (_:(∀ f l,ho≠.call f l)∧(∀ p,ho≠.nxt p)∧∀ n k x,ho≠.nilS n k x) (_:∀ x T',bO st.T (cQ G st.s) ho=some (x,T')→fV h φ st.T w (sv.run P w) x T'),nT P o a w next:=by
  intro sv he hcall hrun;obtain ⟨x,T',e,hk⟩:=D3 hcall hw;obtain ⟨v,w',h1,h2⟩:=AM (hrun x T' e) hk;exact qZ he h1 (hn v w' h2)
 have unit_op:∀ {su:Sem Unit} (_:execOp a.eval o=(do su;pure .skip)) (_:(∀ f l,ho≠.call f l)∧(∀ p,ho≠.nxt p)∧∀ n k x,ho≠.nilS n k x) (_:∀ x T',bO st.T (cQ G st.s) ho=some (x,T')→∃ w',su.run P w=.ok () w'∧x=.v undef∧Evo h φ st.T w h φ T' w'∧Inv h φ w' T'),nT P o a w next:=by
  intro su he hcall hrun;obtain ⟨x,T',e,hk⟩:=D3 hcall hw;obtain ⟨w',h1,rfl,h2,h3⟩:=hrun x T' e;unfold nT;rw [he];simp only [Sem.run_bind,h1,Result.andThen_ok,Sem.run_pure];exact hn undef w' ⟨_,T',h,φ,hk,h2,h3,by simp [Rp]⟩
 obtain ⟨dst,op,ty,pos,after,guard⟩:=o;unfold Iw at hc;simp only at hc;split at hc
 ·rename_i t len parts;split at hc
  ·rename_i e ht;split at hc
   ·rename_i i hi;split at hc
    ·rename_i hcs;obtain ⟨rfl,hp⟩:=hcs;have:parts=#[]:=VW hp;subst this;injection hc with hc;subst hc;exact make_op (sv:=Instr.buildSlice t 0 #[]) (by simp [execOp]) (by simp) λy T' he=>SD ht hi hI he
    ·simp at hc
   ·simp at hc
  ·simp at hc
 ·rename_i t x y;split at hc
  ·rename_i e ht;split at hc
   ·rename_i i hi;split at hc
    ·rename_i z hz;split at hc
     ·rename_i hcs;injection hc with hc;subst hc;exact make_op (sv:=Instr.makeSlice t (a.eval x) (a.eval y)) rfl (by simp) λy T' he=>Vt ht hi hz hcs.1 hcs.2.1 hcs.2.2 hG hI hS he
     ·simp at hc
    ·simp at hc
   ·simp at hc
  ·simp at hc
 ·rename_i src d x;split at hc
  ·rename_i e hs hd;split at hc
   ·rename_i hu8;injection hc with hc;subst hc;exact make_op (sv:=convert src d (a.eval x)) rfl (by simp) λy T' he=>Vv hs hd hu8 hG hI hS he
   ·simp at hc
  ·rename_i e hs hd;split at hc
   ·rename_i hu8;injection hc with hc;subst hc;exact pure_op (sv:=convert src d (a.eval x)) rfl (by simp) λy T' he=>Vx hs hd hu8 hG hI hS he
   ·simp at hc
  ·rename_i e _ hs hd;split at hc
   ·rename_i hsd;subst hsd;split at hc
    ·rename_i hu8;injection hc with hc;subst hc;exact make_op (sv:=convert src src (a.eval x)) rfl (by simp) λy T' he=>Vw hs hu8 hG hI hS he
    ·simp at hc
   ·simp at hc
  ·simp at hc
 ·rename_i t x lo hi mx;split at hc
  ·rename_i e ht;split at hc
   ·rename_i k hk;injection hc with hc;subst hc;exact make_op (sv:=Instr.sliceAt t (a.eval x) (lo.map a.eval) (some (a.eval hi)) (some (a.eval mx))) rfl (by simp) λy T' he=>Vy ht hk hG hI hS he
   ·simp at hc
  ·simp at hc
 ·rename_i t m k;split at hc
  ·rename_i kt et ht;split at hc
   ·rename_i ag ls i hk hi;split at hc
    ·rename_i z hz;injection hc with hc;subst hc;exact make_op (sv:=Instr.mapEntry t (a.eval m) (a.eval k)) rfl (by simp) λy T' he=>Vz ht hk hi hz hG hI hS he
    ·simp at hc
   ·simp at hc
  ·simp at hc
 ·rename_i t m k x;injection hc with hc;subst hc;exact unit_op (su:=Instr.entryStore t (a.eval m) (a.eval k) (a.eval x)) rfl (by simp) λy T' he=>V2 hG hI hS he
 ·rename_i c;obtain ⟨callee,args,argTypes⟩:=c;simp only at hc;split at hc
  ·rename_i m k t hargs hts;have ha:args=#[m,k]:=CK.1 (by rw [hargs]);subst ha;split at hc
   ·rename_i kt et ht;split at hc
    ·rename_i ag ls hk;injection hc with hc;subst hc;exact make_op (sv:=Builtin.delete_ argTypes ty #[a.eval m,a.eval k]) (by simp [execOp,resolve,invoke,builtin]) (by simp) λy T' he=>V3 ht hk hts hG hI hS he
    ·simp at hc
   ·simp at hc
  ·simp at hc
 ·simp at hc
def WC {o:Oper} {ho:HOp} (hc:Ix P o=some ho) (hw:rV P G st ho K) (hG:pS G h) (hI:Inv h φ w st.T) (hS:qU h φ st.T.length st.s a)
  (hn:∀ v w',Bv h φ st.T w K v w'→next (a.put o.dst v) w'):nT P o a w next:=by
 have pure_op:∀ {sv:Sem Value} (_:execOp a.eval o=(do pure (.value (←sv)))) (_:(∀ f l,ho≠.call f l)∧(∀ p,ho≠.nxt p)∧∀ n k x,ho≠.nilS n k x) (_:∀ x T',bO st.T (cQ G st.s) ho=some (x,T')→T'=st.T∧∃ v,sv.run P w=.ok v w∧Rp h φ st.T.length x v),nT P o a w next:=by
  intro sv he hcall hrun;obtain ⟨x,T',e,hk⟩:=D3 hcall hw;obtain ⟨rfl,v,h1,h2⟩:=hrun x T' e;exact qZ he h1 (hn v w (pA hI h2 hk))
 have make_op:∀ {sv:Sem Value} (_:execOp a.eval o=(do pure (.value (←sv)))) (_:(∀ f l,ho≠.call f l)∧(∀ p,ho≠.nxt p)∧∀ n k x,ho≠.nilS n k x) (_:∀ x T',bO st.T (cQ G st.s) ho=some (x,T')→fV h φ st.T w (sv.run P w) x T'),nT P o a w next:=by
  intro sv he hcall hrun;obtain ⟨x,T',e,hk⟩:=D3 hcall hw;obtain ⟨v,w',h1,h2⟩:=AM (hrun x T' e) hk;exact qZ he h1 (hn v w' h2)
 obtain ⟨dst,op,ty,pos,after,guard⟩:=o;unfold Ix at hc;simp only at hc;split at hc
 ·rename_i f first caps
  injection hc with hc;subst hc;refine pure_op (sv:=pure (.func (.func f) (first.map a.eval) (caps.map a.eval))) (by simp [execOp,Instr.makeFunc]) (by simp) λy T' he=>?_;simp only [bO,Option.some.injEq,Prod.mk.injEq] at he;obtain ⟨rfl,rfl⟩:=he;refine ⟨rfl,_,rfl,?_⟩;simp only [Rp];refine ⟨(first++caps).map a.eval,?_,?_⟩
  ·have h1:(first++caps).map a.eval=(first.map a.eval)++(caps.map a.eval):=by simp
   have h2:(((first++caps).map a.eval).toList.take first.size).toArray=first.map a.eval:=by
    apply CK.1;rw [h1];simp only [Pf];rw [Pn (by simp)]
   have h3:(((first++caps).map a.eval).toList.drop first.size).toArray=caps.map a.eval:=by
    apply CK.1;rw [h1];simp only [Pf];rw [List.drop_left' (by simp)]
   rw [h2,h3]
  ·simpa using Jb hG hS (first.toList++caps.toList)
 ·rename_i t m;split at hc
  ·rename_i kt et ht;injection hc with hc;subst hc;exact make_op (sv:=Instr.range t (a.eval m)) rfl (by simp) λy T' he=>V4 ht hG hI hS he
  ·simp at hc
 ·rename_i it;injection hc with hc;subst hc;obtain ⟨v,w',h1,h2⟩:=aCv hG hI hS hw ty;exact qZ (sv:=Instr.next (a.eval it) false ty) rfl h1 (hn v w' h2)
 ·rename_i it;injection hc with hc;subst hc;exact pure_op (sv:=Instr.entry (a.eval it)) rfl (by simp) λy T' he=>V5 hG hI hS he
 ·injection hc with hc;subst hc;exact hw.elim
 ·injection hc with hc;subst hc;exact hw.elim
 ·rename_i c;obtain ⟨callee,args,argTypes⟩:=c;simp only at hc;split at hc
  ·rename_i x t hargs hts;have ha:args=#[x]:=CK.1 (by rw [hargs]);have hb:argTypes=#[t]:=CK.1 (by rw [hts]);subst ha;subst hb;split at hc
   ·rename_i e ht;split at hc
    ·rename_i i hi;split at hc
     ·rename_i z hz;split at hc
      ·rename_i hcs;injection hc with hc;subst hc;exact make_op (sv:=Builtin.clear_ #[t] ty #[a.eval x]) (by simp [execOp,resolve,invoke,builtin]) (by simp) λy T' he=>V7 ht hi hz hcs.1 hcs.2.1 hcs.2.2 hG hI hS he
      ·simp at hc
     ·simp at hc
    ·simp at hc
   ·simp at hc
  ·simp at hc
 ·simp at hc
def QE {e:TypeId} {k:IntKind} (hk:P.underlying e=some (.int k)) (ha:D2 P e=some none) (d:Nat) (xs ys:Array Value):∀ (m s:Nat) (b:Bool),s+m≤xs.size→s+m≤ys.size→oU (List.replicate m (.int k)) ((xs.toList.drop s).take m) ((ys.toList.drop s).take m)=some b →
  (Op.eqItems (d+1) e 1 xs ys (List.range' s m)).run P w=.ok b w
 | 0,s,b,_,_,h=>by
  simp_all [oU,Op.eqItems]
 | m+1,s,b,h1,h2,h=>by
  have hx:(xs.toList.drop s).take (m+1)=xs[s]::(xs.toList.drop (s+1)).take m:=by
   rw [VX (by simp;omega),Mf];simp
  have hy:(ys.toList.drop s).take (m+1)=ys[s]::(ys.toList.drop (s+1)).take m:=by
   rw [VX (by simp;omega),Mf];simp
  rw [hx,hy,Pg] at h;have px:(part e xs (s*1)).run P w=.ok xs[s] w:=by
   have:=CR (P:=P) (w:=w) (t:=e) (X:=xs) (off:=s) (ag:=false) (n:=1) ha (λ_=>rfl) (by omega);rw [FX,this];grind [gY]
  have py:(part e ys (s*1)).run P w=.ok ys[s] w:=by
   have:=CR (P:=P) (w:=w) (t:=e) (X:=ys) (off:=s) (ag:=false) (n:=1) ha (λ_=>rfl) (by omega);rw [FX,this];grind [gY]
  have ih:=QE hk ha d xs ys m (s+1);simp only [List.range'_succ,Op.eqItems,Sem.run_bind,px,py,Result.andThen_ok];generalize xs[s]=x at h;generalize ys[s]=y at h;cases x<;>cases y<;>simp only [oU] at h<;>(try (simp at h;done))
  rename_i k1 a k2 c;split at h
  ·rename_i hkk;obtain ⟨rfl,rfl⟩:=hkk;split at h
   ·rename_i r hr;injection h with h;subst h;rw [run_equalIn_int w d e _ _ _ _ hk];simp only [Result.andThen_ok];have:=ih r (by omega) (by omega) hr;cases hac:(a==c)
    ·simp
    ·simpa using this
   ·simp at h
  ·simp at h
def WD {o:Oper} {ho:HOp} (hc:Iy P o=some ho) (hw:rV P G st ho K) (hG:pS G h) (hI:Inv h φ w st.T) (hS:qU h φ st.T.length st.s a)
  (hn:∀ v w',Bv h φ st.T w K v w'→next (a.put o.dst v) w'):nT P o a w next:=by
 have pure_op:∀ {sv:Sem Value} (_:execOp a.eval o=(do pure (.value (←sv)))) (_:(∀ f l,ho≠.call f l)∧(∀ p,ho≠.nxt p)∧∀ n k x,ho≠.nilS n k x) (_:∀ x T',bO st.T (cQ G st.s) ho=some (x,T')→T'=st.T∧∃ v,sv.run P w=.ok v w∧Rp h φ st.T.length x v),nT P o a w next:=by
  intro sv he hcall hrun;obtain ⟨x,T',e,hk⟩:=D3 hcall hw;obtain ⟨rfl,v,h1,h2⟩:=hrun x T' e;exact qZ he h1 (hn v w (pA hI h2 hk))
 have make_op:∀ {sv:Sem Value} (_:execOp a.eval o=(do pure (.value (←sv)))) (_:(∀ f l,ho≠.call f l)∧(∀ p,ho≠.nxt p)∧∀ n k x,ho≠.nilS n k x) (_:∀ x T',bO st.T (cQ G st.s) ho=some (x,T')→fV h φ st.T w (sv.run P w) x T'),nT P o a w next:=by
  intro sv he hcall hrun;obtain ⟨x,T',e,hk⟩:=D3 hcall hw;obtain ⟨v,w',h1,h2⟩:=AM (hrun x T' e) hk;exact qZ he h1 (hn v w' h2)
 obtain ⟨dst,op,ty,pos,after,guard⟩:=o;unfold Iy at hc;split at hc
 ·rename_i op t x y u heq;simp only at heq;subst heq;split at hc
  ·rename_i hop';split at hc
   ·rename_i n e ht;split at hc
    ·rename_i k hk;split at hc
     ·rename_i hcs;obtain ⟨hc1,hc2,hc3,hg2⟩:=hcs;injection hc with hc;subst hc;obtain ⟨i,hi⟩:=XZ.1 hc2;refine pure_op (sv:=do eqGuard op t x y (a.eval x) (a.eval y);binOp op t (a.eval x) (a.eval y)) rfl (by simp) λz T' e=>?_;simp only [bO] at e;split at e
      ·rename_i cs ds h1 h2;split at e
       ·rename_i b hb;simp only [Option.some.injEq,Prod.mk.injEq] at e;obtain ⟨rfl,rfl⟩:=e;obtain ⟨us,e1,r1⟩:=Iq (cJ hG hS x) h1;obtain ⟨vs,e2,r2⟩:=Iq (cJ hG hS y) h2;have hq0:=Jp hb r1 r2;have hl:=xW hq0;have hl2:us.size=n∧vs.size=n:=by simpa using hl
        have hq:(Op.equalIn 10000 t (.agg us) (.agg vs)).run P w=.ok b w:=by
         rw [run_equalIn_array w 9999 us vs ht hi,hc1,List.range_eq_range'];refine QE hk hc3 9998 us vs n 0 b (by omega) (by omega) ?_;rw [UA,UA,xR (by simp;omega),xR (by simp;omega)];exact hq0
        rw [e1,e2];refine ⟨rfl,.bool (if op==.neq then !b else b),?_,by simp [Rp]⟩;rcases hop' with rfl | rfl
        ·simp only [Sem.run_bind,run_eqGuard_agg w .eql t x y us vs hg2,Result.andThen_ok,run_eql_struct w t us vs,hq];rfl
        ·simp only [Sem.run_bind,run_eqGuard_agg w .neq t x y us vs hg2,Result.andThen_ok,run_neq_struct w t us vs,hq];rfl
       ·simp at e
      ·simp at e
     ·simp at hc
    ·simp at hc
   ·simp at hc
  ·simp at hc
 ·rename_i t parts heq;simp only at heq;subst heq;split at hc
  ·rename_i n e i ht hi;split at hc
   ·rename_i z hz;split at hc
    ·rename_i hcs;obtain ⟨hp,hc2⟩:=hcs;injection hc with hc;subst hc;obtain ⟨j,hj⟩:=XZ.1 hc2;have hpe:parts=#[]:=VW (by simpa using hp);subst hpe;refine pure_op (sv:=Instr.build t ((#[]:Array (Nat×Operand)).map λ(i,x)=>(i,a.eval x))) rfl (by simp) λy T' he=>?_;simp only [bO,mE,Gp,Option.some.injEq,Prod.mk.injEq] at he;obtain ⟨rfl,rfl⟩:=he;refine ⟨rfl,.agg z.cells,?_,by simp only [Rp];exact ⟨_,rfl,Jh h φ st.T.length z.cells.toList⟩⟩;simp only [Instr.build,Sem.run_bind,zeroValue,typeInfo,run_program,Result.andThen_ok,hi,Sem.run_pure,hz,run_underlying ht,run_sizeOf w hj];simp [Instr.fill]
    ·simp at hc
   ·simp at hc
  ·simp at hc
 ·rename_i c heq;simp only at heq;subst heq;obtain ⟨callee,args,argTypes⟩:=c;simp only at hc;split at hc
  ·rename_i x y t u hargs hts;have ha:args=#[x,y]:=CK.1 (by rw [hargs]);have ht':argTypes=#[t,u]:=CK.1 (by rw [hts]);subst ha;subst ht';split at hc
   ·rename_i e ht hut;split at hc
    ·rename_i i hi;split at hc
     ·rename_i z hz;split at hc
      ·rename_i hcs;injection hc with hc;subst hc;exact make_op (sv:=Builtin.append_ #[t,u] ty #[a.eval x,a.eval y]) (by simp [execOp,resolve,invoke,builtin]) (by simp) λr T' he=>V9 ht hut hi hz hcs.1 hcs.2.1 hcs.2.2 hG hI hS he
      ·simp at hc
     ·simp at hc
    ·simp at hc
   ·simp at hc
  ·simp at hc
 ·simp at hc
def Jx {o:Oper} {ho:HOp} (hc:Em P o=some ho) (hw:rV P G st ho K) (hG:pS G h) (hI:Inv h φ w st.T) (hS:qU h φ st.T.length st.s a)
  (hn:∀ v w',Bv h φ st.T w K v w'→next (a.put o.dst v) w'):nT P o a w next:=by
 unfold Em at hc;split at hc
 ·rename_i h1 e;injection hc with hc;subst hc;exact Vn e hw hG hI hS hn
 ·split at hc
  ·rename_i h1 e;injection hc with hc;subst hc;exact Vp e hw hG hI hS hn
  ·split at hc
   ·rename_i h1 e;injection hc with hc;subst hc;exact WA e hw hG hI hS hn
   ·split at hc
    ·rename_i h1 e;injection hc with hc;subst hc;exact WB e hw hG hI hS hn
    ·split at hc
     ·rename_i h1 e;injection hc with hc;subst hc;exact WC e hw hG hI hS hn
     ·exact WD hc hw hG hI hS hn
end
end
section
def mX (P:Program) (N:Nat) (ops:Array Oper) (o:Oper):Option HOper :=
 if o.dst.all (· < N)=false then none else
 match Em P o with
 | none=>none
 | some h=>match o.guard with
  | none=>some ⟨o.dst,h,none⟩
  | some (j,b)=>match (ops[j]?).bind (·.dst) with
   | some d=>some ⟨o.dst,h,some (d,b)⟩
   | none=>none
def eG (P:Program) (N:Nat) (ops:Array Oper):List Oper→Option (List HOper)
 | []=>some []
 | o::os=>match mX P N ops o,eG P N ops os with
  | some h,some hs=>some (h::hs)
  | _,_=>none
def YG (l:List (Nat×AV)) (j i:Nat) (h:i≠j):aP (Fa l j) i=aP l i:=by
 induction l with
 | nil=>rfl
 | cons p l ih =>
  grind [Fa,aP]
def Fl (l:List (Nat×AV)) (j i:Nat) (x:AV):aP (CN l j x) i=if j=i then x else aP l i:=by
 unfold CN;simp only [aP];split
 ·rfl
 ·rename_i h;exact YG l j i (λe=>h e.symm)
def aAz {p q:Nat×AV} {l:List (Nat×AV)} (h:q∈IC p l):q=p∨q∈l:=by
 induction l with
 | nil=>simp only [IC,iU] at h;exact .inl h
 | cons r l ih =>
  grind [IC]
def YH {q:Nat×AV} {l:List (Nat×AV)} (h:q∈oH l):q∈l:=by
 induction l with
 | nil=>simp [oH] at h
 | cons p l ih =>
  rcases aAz h with h | h
  ·simp [h]
  ·simp [ih h]
def Fm {d:List Nat} {q:Nat×AV} {l:List (Nat×AV)} (h:q∈jL d l):q∈l:=by
 induction l with
 | nil=>simp [jL] at h
 | cons p l ih =>
  grind [jL]
def Gv (l:List (Nat×AV)):Prop:=∀ i x y,(i,x)∈l→(i,y)∈l→x=y
def Jy {l:List (Nat×AV)} (h:Gv l) {i:Nat} {x:AV} (hm:(i,x)∈l):aP l i=x:=by
 induction l with
 | nil=>simp at hm
 | cons p l ih =>
  obtain ⟨k,y⟩:=p;simp only [aP];split
  ·rename_i hk;subst hk;exact h k y x (by simp) hm
  ·rename_i hk;rcases jB.1 hm with hm | hm
   ·simp_all
   ·exact ih (λi a b ha hb=>h i a b (by simp [ha]) (by simp [hb])) hm
def OD {l:List (Nat×AV)} {i:Nat}:aP l i=.any∨(i,aP l i)∈l:=by
 induction l with
 | nil=>exact .inl rfl
 | cons p l ih =>
  grind [aP]
def Fn {l:List (Nat×AV)} (h:Gv l) (j:Nat):(∀ q∈Fa l j,q∈l∧q.1≠j):=by
 intro q hq
 induction l with
 | nil=>simp [Fa] at hq
 | cons p l ih =>
  obtain ⟨k,y⟩:=p;have hl:Gv l:=λi a b ha hb=>h i a b (by simp [ha]) (by simp [hb]);grind [Fa]
def Jz {l:List (Nat×AV)} (h:Gv l) (j:Nat) (x:AV):Gv (CN l j x):=by
 intro i a b ha hb;unfold CN at ha hb;rcases jB.1 ha with ha | ha<;>rcases jB.1 hb with hb | hb
 ·simp_all
 ·injection ha with h1 _;exact absurd h1 (Fn h j _ hb).2
 ·injection hb with h1 _;exact absurd h1 (Fn h j _ ha).2
 ·exact h i a b (Fn h j _ ha).1 (Fn h j _ hb).1
def SG {L:List Nat} {q:Nat×AV} {l:List (Nat×AV)} (h:q∈Pu L l):∃ x,(q.1,x)∈l∧q.2=AF L x:=by
 induction l with
 | nil=>simp [Pu] at h
 | cons p l ih =>
  grind [Pu]
def fe:Option Nat→Fence
 | none=>Fence.wide
 | some l=>Fence.wide.inRound l
def UR (ro:Option Nat) (f:FuncId):(fe ro).fn f:=by cases ro<;>trivial
def QF (ro:Option Nat):(fe ro).round=ro:=by cases ro<;>rfl
def QG (ro:Option Nat):(fe ro).depth=none:=by cases ro<;>rfl
def J0 {P:Program} {ro:Option Nat} {f:FuncId} {args:Array Value} {w:World} {R:Ending→World→Prop} (h:Calls P f args w R):CallsIn (fe ro) 0 P f args w R:=by
 have:=(callsIn_wide (n:=0)).2 h;cases ro<;>exact this
def SH {P:Program} {ro:Option Nat} {l:Nat} {f:FuncId} {tmps:Array Value} {as_ body:Code} {w:World} {R:Ending→World→Prop} (h:RoundIn Fence.wide 0 P l f tmps as_ body w R):RoundIn (fe ro) 0 P l f tmps as_ body w R:=by
 cases ro<;>exact h
def aC3 {P:Program} {ro:Option Nat} {o:Oper} {a:Act} {w:World} {next:Act→World→Prop} {Q:Exit→Act→World→Prop} (hd:∀ c,o.op≠.defer c) (h:nT P o a w next):o.wpIn (fe ro) 0 P a w next Q:=by
 refine ⟨λf _=>UR ro f,?_⟩;have hs:o.semAt (fe ro).round a.eval=execOp a.eval o:=by
  simp_all [QF,Oper.semAt]
 rw [hs];unfold nT at h;have hdep:(fe ro).depth.isSome=true→1≤0:=λhh=>by rw [QG] at hh;simp at hh
 split at h
 ·rename_i v w' e;rw [e];exact h
 ·rename_i w' e;rw [e];exact h
 ·rename_i f args w' e;rw [e];refine ⟨hdep,(J0 h).mono ?_⟩;simp_all
 ·rename_i l f tmps as_ body w' e;rw [e];refine ⟨hdep,(SH h).mono ?_⟩;simp_all
 ·exact h.elim
def Fo {P:Program} {o:Oper} {h:HOp} (hc:Em P o=some h):∀ c,o.op≠.defer c:=by
 grind [Em,eF,Ir,Iv,Iw,Ix,Iy]
def CZ (w0:World) (a:Act) (w:World):Prop :=
 (a.defers.Pairwise λx y=>x.target≠y.target)∧∀ d∈a.defers,∃ D,d.target=.collected D∧w0.heap.size≤D∧w.heap[D]?=some (.deferred (some []))
def J1 {h:GH} {φ:Nat→Value} {n:Nat} {w:World} {i:Nat} {o:AObj} (e:qI h φ n w i o) {g:Nat} (hg:iE (φ i)=some g) (ds:Option (List Deferred)):w.heap[g]?≠some (.deferred ds):=by
 cases o with
 | box cs =>
  obtain ⟨g',us,E,h1,h2,h3,_⟩:=e;grind [iE,Option.some.injEq]
 | arr k es =>
  obtain ⟨_,⟨A,h1⟩ | ⟨g',c,cur,E,h1,h2,_,_,_,h3,_⟩⟩:=e
  ·simp_all [iE]
  ·grind [iE,Option.some.injEq]
 | arf k es =>
  obtain ⟨_,⟨A,h1⟩ | ⟨g',c,cur,E,h1,h2,_,_,_,h3,_⟩⟩:=e
  ·simp_all [iE]
  ·grind [iE,Option.some.injEq]
 | lp r s =>
  obtain ⟨g',h1,h2,h3,_⟩:=e;grind [iE,Option.some.injEq]
 | mit m since seen st =>
  obtain ⟨g',mo,h1,h2,h3,_⟩:=e;grind [iE,Option.some.injEq]
 | map ag ks vs bs cl =>
  obtain ⟨g',ens,h1,h2,h3,_⟩:=e;grind [iE,Option.some.injEq]
def CZ.keep {w0 w w':World} {a:Act} {h h':GH} {φ φ':Nat→Value} {T T':aH} (hd:CZ w0 a w) (hI:Inv h φ w T) (hE:Evo h φ T w h' φ' T' w'):CZ w0 a w':=by
 refine ⟨hd.1,λd hm=>?_⟩;obtain ⟨D,h1,h2,h3⟩:=hd.2 d hm;refine ⟨D,h1,h2,?_⟩;have hlt:D<w.heap.size:=by
  grind
 rw [hE.frame D hlt λi o ho hb=>J1 (hI.obj i o ho) hb _ h3];exact h3
def CZ.put {w0 w:World} {a:Act} (hd:CZ w0 a w) (o:Option Nat) (v:Value):CZ w0 (a.put o v) w:=by
 cases o with
 | none=>exact hd
 | some j=>exact hd
structure SInv (P:Program) (G:Nat→Option (List AV)) (N:Nat) (h0:GH) (φ0:Nat→Value) (T0:aH) (w0:World) (st:St) (a:Act) (w:World):Prop where
 r:st.r=T0.length
 once:Gv st.s
 ex:∃ h φ,pS G h∧Evo h0 φ0 T0 w0 h φ st.T w∧Inv h φ w st.T∧qU h φ st.T.length st.s a
 sz:N≤a.tmps.size
 df:CZ w0 a w
section
variable {P:Program} {G:Nat→Option (List AV)} {N:Nat} {h0:GH} {φ0:Nat→Value} {T0:aH} {w0:World} {a:Act} {w:World}
def Ca {st:St} (d:List Nat) (hS:SInv P G N h0 φ0 T0 w0 st a w):SInv P G N h0 φ0 T0 w0 (Aq d st) a w:=by
 obtain ⟨hr0,honce,⟨h,φ,hG,hE,hI,hSl⟩,hsz,hdf⟩:=hS;have hnd:(sA st.T (List.range st.r++Lv (oH (jL d st.s)))).Nodup:=Hp _ _;obtain ⟨l,hl⟩:∃ l,sA st.T (List.range st.r++Lv (oH (jL d st.s)))=List.range st.r++l:=by
  exact Pz st.T st.r _
 have hgc:Aq d st=⟨st.r,Pu (sA st.T (List.range st.r++Lv (oH (jL d st.s)))) (oH (jL d st.s)),CP (sA st.T (List.range st.r++Lv (oH (jL d st.s)))) st.T⟩:=rfl;rw [hgc];revert hnd hl;generalize sA st.T (List.range st.r++Lv (oH (jL d st.s)))=L;intro hnd hl;have hφ:Hq L φ (λj=>φ (L.getD j 0)):=by
  intro j i e;simp_all
 have hlen:(CP L st.T).length=L.length:=by simp [CP]
 have hpre:∀ i,i<st.r→L[i]?=some i:=by
  grind
 have hmem:∀ i x,(i,x)∈oH (jL d st.s)→(i,x)∈st.s:=λi x hm=>Fm (YH hm);refine ⟨hr0,?_,⟨h,_,hG,?_,X6 hnd hI hφ,?_⟩,hsz,hdf⟩
 ·intro i x y hx hy;obtain ⟨x',h1,h2⟩:=SG hx;obtain ⟨y',h3,h4⟩:=SG hy;simp only at h2 h4;rw [h2,h4,honce i x' y' (hmem _ _ h1) (hmem _ _ h3)]
 ·refine ⟨hE.os,hE.tape,hE.output,hE.size,hE.frame,hE.le,hE.gfr,λi hi=>?_,λi o b e hb=>?_,?_,hE.drawn⟩
  ·have h1:=hpre i (by omega);show φ (L.getD i 0)=_;rw [uW,h1];exact hE.phi i hi
  ·obtain ⟨i',o',h1,h2,_⟩:=Fj e;have hii:=hφ i i' h1;simp only at hii;simp only [hii] at hb;exact hE.org i' o' b h2 hb
  ·simp_all
 ·intro i;show Rp h _ (CP L st.T).length (aP (Pu L (oH (jL d st.s))) i) _;rcases OD (l:=Pu L (oH (jL d st.s))) (i:=i) with e | e
  ·rw [e];simp [Rp]
  ·obtain ⟨x,h1,h2⟩:=SG e;simp only at h1 h2;rw [h2,hlen];have:=hSl i;rw [Jy honce (hmem _ _ h1)] at this;exact R5 hφ this
def Fp {h:GH} {φ:Nat→Value} {n:Nat} {s:List (Nat×AV)} {o:Option Nat} {x:AV} {v:Value} (hs:qU h φ n s a) (hx:Rp h φ n x v) (ho:∀ j,o=some j→j<a.tmps.size):qU h φ n (dH s o x) (a.put o v):=by
 intro i
 cases o with
 | none=>exact hs i
 | some j =>
  have hj:=ho j rfl;simp only [dH,Fl,Act.put];split
  ·simp_all
  ·rename_i hij;rw [show (a.tmps.setIfInBounds j v).getD i undef=a.tmps.getD i undef from by simp [PY,hij]];exact hs i
def Fr {h:GH} {φ:Nat→Value} {n:Nat} {s:List (Nat×AV)} {ops:Array Oper} {o:Oper} {g:Option (Nat×Bool)} {b:Bool} (hs:qU h φ n s a)
  (hg:match o.guard with | none=>g=none | some (j,t)=>∃ d,(ops[j]?).bind (·.dst)=some d∧g=some (d,t)) (hw:dM s g=some b):Region.wanted o (yielded ops a.tmps)=b:=by
 cases hgd:o.guard with
 | none =>
  grind [dM,Option.some.injEq,Region.wanted]
 | some jt =>
  obtain ⟨j,t⟩:=jt;rw [hgd] at hg;obtain ⟨d,hd,rfl⟩:=hg;have hv:=hs d;simp only [dM] at hw;have hyield:yielded ops a.tmps j=(match a.tmps[d]? with | some (.bool x)=>some x | _=>none):=by
   unfold yielded;grind
  split at hw
  ·rename_i x hx;rw [hx] at hv;simp only [Rp] at hv;injection hw with hw;have:a.tmps[d]?=some (.bool x):=by
    rcases gM d a.tmps.size with hlt | hge
    ·simp_all
    ·rw [PY,Nx hge] at hv;simp [undef] at hv
   grind [Region.wanted]
  ·rename_i us hx;rw [hx] at hv;simp only [Rp] at hv;injection hw with hw;subst hw;have:yielded ops a.tmps j=none:=by
    rw [hyield];rcases gM d a.tmps.size with hlt | hge
    ·simp_all
    ·simp_all
   grind [Region.wanted]
  ·simp at hw
def EK {ops:Array Oper} {o:Oper} {ho:HOper} (hc:mX P N ops o=some ho) :
  (∀ j,o.dst=some j→j<N)∧ho.dst=o.dst∧Em P o=some ho.op∧(match o.guard with | none=>ho.guard=none | some (j,t)=>∃ d,(ops[j]?).bind (·.dst)=some d∧ho.guard=some (d,t)):=by
 grind [mX]
def wB {l:List (Nat×AV)} (h:Gv l) (o:Option Nat) (x:AV):Gv (dH l o x):=by
 cases o with
 | none=>exact h
 | some j=>exact Jz h j x
def Az {ro:Option Nat} {ops:Array Oper} {Q:Exit→Act→World→Prop} {l2:List Oper}:∀ {l:List Oper} {hl:List HOper} {st:St} {a:Act} {w:World} {K:St→Prop},eG P N ops l=some hl→Gq P G hl st K→SInv P G N h0 φ0 T0 w0 st a w →
  (∀ st' a' w',K st'→SInv P G N h0 φ0 T0 w0 st' a' w'→wpListIn (fe ro) 0 P ops Q l2 a' w')→wpListIn (fe ro) 0 P ops Q (l++l2) a w
 | [],hl,st,a,w,K,hc,hw,hS,hn=>by
  simp only [eG,Option.some.injEq] at hc;subst hc;exact hn st a w hw hS
 | o::l,hl,st,a,w,K,hc,hw,hS,hn=>by
  simp only [eG] at hc;split at hc
  ·rename_i ho hl' h1 h2;injection hc with hc;subst hc;obtain ⟨hr,honce,⟨h,φ,hG,hE,hI,hSl⟩,hsz,hdf⟩:=hS;obtain ⟨c1,c2,c3,c4⟩:=EK h1;have hdst:∀ j,o.dst=some j→j<a.tmps.size:=λj hj=>AH (c1 j hj) hsz;have hput:∀ v,N≤(a.put o.dst v).tmps.size:=by
    intro v
    cases o.dst with
    | none=>exact hsz
    | some j=>simpa [Act.put] using hsz
   simp only [Gq] at hw;rw [c2] at hw;split at hw
   ·rename_i hwt;have hwant:=Fr hSl c4 hwt;rw [fX];unfold wpListIn;rw [if_pos hwant];refine aC3 (Fo c3) (Jx c3 hw hG hI hSl λv w' hret=>?_);obtain ⟨x,T',h',φ',hk,hE',hI',hx⟩:=hret;have hSl':qU h' φ' T'.length st.s a:=λi=>(hSl i).mono hE'.le hE'.len hE'.phi;exact Az h2 hk ⟨hr,wB honce _ _,⟨h',φ',hG.mono hE'.le,hE.trans hE',hI',Fp hSl' hx hdst⟩,hput v,(hdf.keep hI hE').put _ _⟩ hn
   ·rename_i hwt;have hwant:=Fr hSl c4 hwt;rw [fX];unfold wpListIn;rw [if_neg (by simp [hwant])];exact ⟨λf _=>UR ro f,Az h2 hw ⟨hr,wB honce _ _,⟨h,φ,hG,hE,hI,Fp hSl (by simp [Rp]) hdst⟩,hput _,hdf.put _ _⟩ hn⟩
   ·exact hw.elim
  ·simp at hc
def WE {ro:Option Nat} {ops:Array Oper} {Q:Exit→Act→World→Prop} {l:List Oper} {hl:List HOper} {st:St} {a:Act} {w:World} {K:St→Prop} (hc:eG P N ops l=some hl) (hw:Gq P G hl st K) (hS:SInv P G N h0 φ0 T0 w0 st a w)
  (hn:∀ st' a' w',K st'→SInv P G N h0 φ0 T0 w0 st' a' w'→Q .normal a' w'):wpListIn (fe ro) 0 P ops Q l a w:=by
 have:=Az (ro:=ro) (Q:=Q) (l2:=[]) hc hw hS hn;simp_all
def Hr {ops:Array Oper}:∀ {l l2:List Oper} {hl hl2:List HOper},eG P N ops l=some hl→eG P N ops l2=some hl2→eG P N ops (l++l2)=some (hl++hl2)
 | [],l2,hl,hl2,h,h2=>by simp only [eG,Option.some.injEq] at h;subst h;exact h2
 | o::l,l2,hl,hl2,h,h2=>by
  simp only [eG] at h;split at h
  ·rename_i a b e1 e2;injection h with h;subst h;simp only [fX,eG,e1,Hr e2 h2]
  ·simp at h
def Fs {ops:Array Oper} {o:Oper} {l:List Oper} {hl:List HOper} (h:eG P N ops (o::l)=some hl):∃ a b,mX P N ops o=some a∧eG P N ops l=some b∧hl=a::b:=by
 grind [eG]
end
end
section
open Classical in
noncomputable def shutG (h:GH) (φ:Nat→Value) (i:Nat) (w:World):GH:=λb =>
 if iE (φ i)=some b then (match w.heap[b]? with | some (.cells cs _ _)=>some cs | _=>none) else h b
section
variable {h:GH} {φ:Nat→Value} {T:aH} {w:World} {i k:Nat} {es:List (List AV)}
def M5 (hI:Inv h φ w T) (hi:T[i]?=some (some (.arr k es))) {b:Nat} (hb:iE (φ i)=some b):∃ cs E,w.heap[b]?=some (.cells cs E (0,0))∧shutG h φ i w b=some cs:=by
 have:∃ cs E,w.heap[b]?=some (.cells cs E (0,0)):=by
  obtain ⟨_,⟨A,h1⟩ | ⟨g,c,cur,E,h1,h2,_⟩⟩:=hI.obj i _ hi
  ·simp_all [iE]
  ·grind [iE,Option.some.injEq]
 grind [shutG]
def Da {b:Nat} (hb:iE (φ i)≠some b):shutG h φ i w b=h b:=by grind [shutG]
def AQ (hI:Inv h φ w T) (hi:T[i]?=some (some (.arr k es))):zG h (shutG h φ i w):=by
 intro b cs e;rw [Da]
 ·exact e
 ·intro hb;have:=(fO (hI.obj i _ hi) hb).2;simp_all
def Gw (hI:Inv h φ w T) (hi:T[i]?=some (some (.arr k es))):(∃ A,φ i=.slice A 0 0∧es=[])∨∃ g c,φ i=.slice (some ⟨g,0,none⟩) es.length c∧es.length≤c∧c≤maxLen∧iC (shutG h φ i w) g k es 0:=by
 obtain ⟨hl,h1 | ⟨g,c,cur,E,hφ,hw,h2,h3,h4,h5,h6⟩⟩:=hI.obj i _ hi
 ·exact .inl h1
 ·refine .inr ⟨g,c+1,hφ,h2,h3,?_⟩;obtain ⟨cs',E',hw',hlent⟩:=M5 hI hi (b:=g) (by rw [hφ];rfl);rw [hw] at hw';injection hw' with hw';injection hw' with hw';subst hw';refine iC.of_list (h6.mono (AQ hI hi)) hl λj v hj=>?_;grind [lS]
mutual
def OE (hI:Inv h φ w T) (hi:T[i]?=some (some (.arr k es))) {n:Nat}:∀ {x:AV} {u:Value},Rp h φ n x u→Rp (shutG h φ i w) φ n (zH i k es x) u
 | .v _,_,e=>by simpa [Rp,zH] using e
 | .ls _ _,_,e=>by simp only [Rp,zH] at *;exact e.mono (AQ hI hi)
 | .ag cs,_,e=>by simp only [Rp,zH] at *;obtain ⟨us,h1,h2⟩:=e;exact ⟨us,h1,Cb hI hi h2⟩
 | .own j,u,e=>by
  simp only [zH];split
  ·rename_i hj;subst hj;simp only [Rp] at e;simp only [Rp,kY];rcases Gw hI hi with ⟨A,h1,h2⟩ | ⟨g,c,h1,h2,h3,h4⟩
   ·grind
   ·grind
  ·grind [Rp]
 | .ptr j o,u,e=>by simpa only [Rp,zH] using e
 | .mp j,u,e=>by simpa only [Rp,zH] using e
 | .yl j,u,e=>by simpa only [Rp,zH] using e
 | .elt j k' m off,u,e=>by
  simp only [zH];split
  ·rename_i hj;subst hj;split
   ·rename_i hk;subst hk;split
    ·rename_i d hd;simp only [Rp] at e ⊢;obtain ⟨_,g,l,c,hφ,hu⟩:=e;rcases Gw hI hi with ⟨A,h1,h2⟩ | ⟨g',c',h1,h2,h3,h4⟩
     ·simp_all
     ·rw [hφ] at h1;injection h1 with e1 e2 e3;injection e1 with e1;injection e1 with e1;subst e1;obtain ⟨_,h5⟩:=h4.get hd;exact ⟨g,m*k'+off,hu,by simpa using h5.drop off⟩
    ·simp [Rp]
   ·simp [Rp]
  ·grind [Rp]
 | .vw j k' lo m,u,e=>by
  simp only [zH];split
  ·rename_i hj;subst hj;split
   ·rename_i hk;obtain ⟨rfl,hlen⟩:=hk;simp only [Rp] at e;obtain ⟨_,A,c,hu,hmc,hcm,h0⟩:=e;have hln:((es.drop lo).take m).length=m:=by simp_all;omega
    simp only [Rp,kY];refine ⟨A,c,by rw [hln];exact hu,by rw [hln];exact hmc,hcm,?_⟩;rcases h0 with rfl | ⟨g,l,c',hφ,rfl,hle⟩
    ·simp
    ·rcases Gw hI hi with ⟨A,h1,h2⟩ | ⟨g',c',h1,h2,h3,h4⟩
     ·simp_all
     ·rw [hφ] at h1;injection h1 with e1 e2 e3;injection e1 with e1;injection e1 with e1;subst e1;exact .inr ⟨g,lo*k',rfl,by simpa using (h4.drop lo).take m⟩
   ·simp [Rp]
  ·grind [Rp]
 | .rp cs,u,e=>by
  simp only [Rp,zH] at *
  obtain ⟨b,o,h1,h2⟩:=e;exact ⟨b,o,h1,h2.mono (AQ hI hi)⟩
 | .cl f cs,_,e=>by simp only [Rp,zH] at *;obtain ⟨us,h1,h2⟩:=e;exact ⟨us,h1,Cb hI hi h2⟩
 | .bm f kk cs,_,e=>by simp only [Rp,zH] at *;obtain ⟨us,h1,h2⟩:=e;exact ⟨us,h1,Cb hI hi h2⟩
 | .tup cs,_,e=>by simp only [Rp,zH] at *;obtain ⟨us,h1,h2⟩:=e;exact ⟨us,h1,Cb hI hi h2⟩
 | .any,_,_=>by simp [Rp,zH]
def Cb (hI:Inv h φ w T) (hi:T[i]?=some (some (.arr k es))) {n:Nat}:∀ {cs:List AV} {us:List Value},bK h φ n cs us→bK (shutG h φ i w) φ n (Fb i k es cs) us
 | [],_,e=>by simpa [bK,Fb] using e
 | c::cs,us,e=>by
  simp only [bK,Fb] at *
  obtain ⟨u,us',h1,h2,h3⟩:=e;exact ⟨u,us',h1,OE hI hi h2,Cb hI hi h3⟩
end
def I0:∀ T:aH,(Mt i k es T).length=T.length
 | []=>rfl
 | _::r=>by simp [Mt,I0 r]
def OF:∀ {T:aH} {j:Nat},(Mt i k es T)[j]?=(T[j]?).map (λo=>Option.bind o (Rq i k es))
 | [],j=>by simp [Mt]
 | o::r,0=>by simp [Mt]
 | o::r,j+1=>by simp only [Mt,B6];exact OF
def QH (hI:Inv h φ w T) (hi:T[i]?=some (some (.arr k es))):Inv (shutG h φ i w) φ w ((Mt i k es T).set i none)∧Evo h φ T w (shutG h φ i w) φ ((Mt i k es T).set i none) w:=by
 have get:∀ {j:Nat} {x:AObj},((Mt i k es T).set i none)[j]?=some (some x)→j≠i∧∃ y,T[j]?=some (some y)∧Rq i k es y=some x:=by
  intro j x e;rw [Hf] at e;split at e
  ·simp_all
  ·rename_i hh;refine ⟨λh=>hh h.symm,?_⟩;rw [OF] at e
   cases hT:T[j]? with
   | none=>rw [hT] at e;simp at e
   | some o =>
    rw [hT] at e
    cases o with
    | none=>simp at e
    | some y =>
     simp_all
 have hlen:((Mt i k es T).set i none).length=T.length:=by rw [gG,I0]
 have hg:=AQ hI hi;refine ⟨⟨?_,?_,?_⟩,⟨rfl,rfl,rfl,cT _,λ_ _ _=>rfl,hg,?_,λ_ _=>rfl,?_,by rw [hlen];exact cT _,cT _⟩⟩
 ·intro b cs e;by_cases hb:iE (φ i)=some b
  ·obtain ⟨cs',E,hw,hs⟩:=M5 hI hi hb;simp_all
  ·rw [Da hb] at e;exact hI.gh b cs e
 ·intro j x e;obtain ⟨hne,y,hy,hx⟩:=get e;rw [hlen];have ho:=hI.obj j y hy;have hoff:∀ g,iE (φ j)=some g→shutG h φ i w g=h g:=λg hb=>Da λhb'=>hne (hI.dis j i y _ g hy hi hb hb')
  cases y with
  | box cs =>
   simp only [Rq,Option.some.injEq] at hx;subst hx;obtain ⟨g,us,E,e1,e2,e3,e4⟩:=ho;exact ⟨g,us,E,e1,e2,by rw [hoff g (by rw [e1];rfl)];exact e3,Cb hI hi e4⟩
  | arf k' es' =>
   simp only [Rq] at hx;split at hx
   ·rename_i hone;injection hx with hx;subst hx;have hfl:∀ l:List (List AV),(VZ i k es l).flatten=Fb i k es l.flatten:=by
     have app:∀ (a b:List AV),Fb i k es (a++b)=Fb i k es a++Fb i k es b:=by
      intro a b
      induction a with
      | nil=>rfl
      | cons c a ih=>simp [Fb,ih]
     intro l
     induction l with
     | nil=>rfl
     | cons e l ih=>simp only [VZ,qW,ih,app]
    have hfn:∀ l:List (List AV),(VZ i k es l).length=l.length:=by
     intro l
     induction l with
     | nil=>rfl
     | cons e l ih=>simp [VZ,ih]
    have hfe:∀ (l:List (List AV)) (d:List AV),d∈VZ i k es l→∃ e∈l,d.length=e.length:=by
     have hll:∀ cs:List AV,(Fb i k es cs).length=cs.length:=by
      intro cs
      induction cs with
      | nil=>rfl
      | cons c cs ih=>simp [Fb,ih]
     intro l
     induction l with
     | nil=>intro d hd;simp [VZ] at hd
     | cons e l ih =>
      intro d hd;simp only [VZ] at hd;rcases jB.1 hd with rfl | hd
      ·exact ⟨e,by simp,hll e⟩
      ·obtain ⟨e',h1,h2⟩:=ih d hd;exact ⟨e',by simp [h1],h2⟩
    obtain ⟨hl,h1⟩:=ho;refine ⟨λd hd=>?_,?_⟩
    ·obtain ⟨e',he',hle⟩:=hfe es' d hd;exact ⟨by rw [hle];exact (hl e' he').1,λc hc=>lF.1 (lF.1 hone d hd) c hc⟩
    ·rcases h1 with ⟨A,hA,rfl⟩ | ⟨g,c,cur,E,e1,e2,e3,e4,e5,e6,e7⟩
     ·exact .inl ⟨A,hA,rfl⟩
     ·exact .inr ⟨g,c,cur,E,by rw [hfn];exact e1,e2,by rw [hfn];exact e3,e4,e5,by rw [hoff g (by rw [e1];rfl)];exact e6,by rw [hfl,hfn];exact Cb hI hi e7⟩
   ·simp at hx
  | lp r s =>
   simp only [Rq,Option.some.injEq] at hx;subst hx;have mem:∀ (l:List (Nat×AV)) (q:Nat×AV),q∈Ms i k es l→∃ x,(q.1,x)∈l∧q.2=zH i k es x:=by
    intro l
    induction l with
    | nil=>intro q hq;simp [Ms] at hq
    | cons p l ih =>
     intro q hq;obtain ⟨m,y⟩:=p;simp only [Ms] at hq;rcases jB.1 hq with rfl | hq
     ·exact ⟨y,by simp,rfl⟩
     ·obtain ⟨x,h1,h2⟩:=ih q hq;exact ⟨x,by simp [h1],h2⟩
   obtain ⟨g,e1,e2,e3,e4,e5⟩:=ho;refine ⟨g,e1,e2,by rw [hoff g (by rw [e1];rfl)];exact e3,λm x y hx hy=>?_,λp hp=>?_⟩
   ·obtain ⟨x',h1,h2⟩:=mem s _ hx;obtain ⟨y',h3,h4⟩:=mem s _ hy;simp only at h2 h4;rw [h2,h4,e4 m x' y' h1 h3]
   ·obtain ⟨x',h1,h2⟩:=mem s _ hp;rw [h2];exact OE hI hi (e5 _ h1)
  | mit m since seen st =>
   simp only [Rq,Option.some.injEq] at hx;subst hx;obtain ⟨g,mo,e1,e2,e3,e4⟩:=ho;exact ⟨g,mo,e1,e2,by rw [hoff g (by rw [e1];rfl)];exact e3,e4⟩
  | arr k' es' =>
   simp only [Rq,Option.some.injEq] at hx;subst hx;obtain ⟨hl,h1 | ⟨g,c,cur,E,e1,e2,e3,e4,e5,e6,e7⟩⟩:=ho
   ·exact ⟨hl,.inl h1⟩
   ·exact ⟨hl,.inr ⟨g,c,cur,E,e1,e2,e3,e4,e5,by rw [hoff g (by rw [e1];rfl)];exact e6,e7.mono hg⟩⟩
  | map ag ks vs bs cl =>
   simp only [Rq,Option.some.injEq] at hx;subst hx;obtain ⟨g,ens,e1,e2,e3,e4,e5,e6⟩:=ho;exact ⟨g,ens,e1,e2,by rw [hoff g (by rw [e1];rfl)];exact e3,e4,e5,Cb hI hi e6⟩
 ·intro j m oj om b ej em hj hm;obtain ⟨_,y,hy,_⟩:=get ej;obtain ⟨_,z,hz,_⟩:=get em;exact hI.dis j m y z b hy hz hj hm
 ·intro b cs e;by_cases hb:iE (φ i)=some b
  ·exact .inr (.inr ⟨i,_,hi,hb⟩)
  ·rw [Da hb] at e;exact .inl e
 ·intro j o b e hb;obtain ⟨_,y,hy,_⟩:=get e;exact .inr ⟨j,y,hy,hb⟩
end
def US {i k:Nat} {es:List (List AV)} {q:Nat×AV} {l:List (Nat×AV)} (h:q∈Ms i k es l):∃ x,(q.1,x)∈l∧q.2=zH i k es x:=by
 induction l with
 | nil=>simp [Ms] at h
 | cons p l ih =>
  grind [Ms]
def I2 {i k:Nat} {es:List (List AV)} {j:Nat}:∀ l:List (Nat×AV),aP (Ms i k es l) j=zH i k es (aP l j)
 | []=>by simp [Ms,aP,zH]
 | (m,x)::r=>by
  simp only [Ms,aP];split
  ·rfl
  ·exact I2 r
def SInv.shutI {P:Program} {G:Nat→Option (List AV)} {N:Nat} {h0:GH} {φ0:Nat→Value} {T0:aH} {w0:World} {a:Act} {w:World} {st:St} (hS:SInv P G N h0 φ0 T0 w0 st a w) (i:Nat):SInv P G N h0 φ0 T0 w0 (shutI st i) a w:=by
 unfold Hud.shutI;split
 ·rename_i k es hg;obtain ⟨hr,honce,⟨h,φ,hG,hE,hI,hSl⟩,hsz,hdf⟩:=hS;obtain ⟨s1,s2⟩:=QH hI (aZ hg);refine ⟨hr,?_,⟨_,φ,hG.mono (AQ hI (aZ hg)),hE.trans s2,s1,λj=>?_⟩,hsz,hdf⟩
  ·intro j x y hx hy;obtain ⟨x',h1,h2⟩:=US hx;obtain ⟨y',h3,h4⟩:=US hy;simp only at h2 h4;rw [h2,h4,honce j x' y' h1 h3]
  ·show Rp _ φ ((Mt i k es st.T).set i none).length (aP (Ms i k es st.s) j) _;rw [gG,I0,I2];exact OE hI (aZ hg) (hSl j)
 ·exact hS
def SInv.shut {P:Program} {G:Nat→Option (List AV)} {N:Nat} {h0:GH} {φ0:Nat→Value} {T0:aH} {w0:World} {a:Act} {w:World} {st:St} (hS:SInv P G N h0 φ0 T0 w0 st a w) (j:Nat):SInv P G N h0 φ0 T0 w0 (Aq [] (Ja st j)) a w:=by
 have:∀ (l:List Nat) (st:St),SInv P G N h0 φ0 T0 w0 st a w→SInv P G N h0 φ0 T0 w0 (CQ st l) a w:=by
  intro l
  induction l with
  | nil=>intro st h;exact h
  | cons i r ih=>intro st h;exact ih _ (h.shutI i)
 exact Ca [] (this _ _ hS)
end
section
def Gx {T:aH} {ev:Operand→AV} {o:HOp} (hq:fG o=true) {x:AV} {T':aH} (h:bO T ev o=some (x,T')):T'=T:=by
 cases o<;>simp only [fG,kB] at hq<;>simp only [bO] at h<;>(repeat' split at h) <;>
  first
  | (simp only [Option.some.injEq,Prod.mk.injEq] at h;exact h.2.symm)
  | (simp at h;done)
def J2 {G:Nat→Option (List AV)} {s s':List (Nat×AV)} {x:Operand} (h:∀ t∈aY x,aP s t=aP s' t):cQ G s x=cQ G s' x:=by
 cases x<;>simp only [cQ];exact h _ (by simp [aY])
def Db {T:aH} {ev ev':Operand→AV} {o:HOp} (h:∀ x,(∀ t∈aY x,t∈mF o)→ev x=ev' x):bO T ev o=bO T ev' o:=by
 have hps:∀ (ps:List (Nat×Nat×Operand)),(∀ t∈ps.flatMap (λp=>aY p.2.2),t∈mF o)→(ps.map λp=>(p.1,p.2.1,ev p.2.2))=ps.map λp=>(p.1,p.2.1,ev' p.2.2):=by
  intro ps hp;refine N0 λp hm=>?_;rw [h p.2.2 λt ht=>hp t (JT.2 ⟨p,hm,ht⟩)]
 cases o
 case bld z ps=>simp only [bO];rw [hps ps λt ht=>ht]
 case bsl k z ps n=>simp only [bO];rw [hps ps λt ht=>ht]
 case bslS k z ps n =>
  have h1:(ps.map λp=>ev p.2.2)=ps.map λp=>ev' p.2.2:=N0 λp hm=>h p.2.2 λt ht=>JT.2 ⟨p,hm,ht⟩;have h2:(ps.map λp=>(p.1,p.2.1,qX T (fU (ps.map λp=>ev p.2.2)) (ev p.2.2)))=ps.map λp=>(p.1,p.2.1,qX T (fU (ps.map λp=>ev p.2.2)) (ev' p.2.2)):=N0 λp hm=>by rw [h p.2.2 λt ht=>JT.2 ⟨p,hm,ht⟩]
  simp only [bO];rw [h2,h1]
 case clo f cs=>simp only [bO];rw [N0 λc hc=>h c λt ht=>JT.2 ⟨c,hc,ht⟩]
 case alloc=>rfl
 case mkm=>rfl
 case lku ag ls z m k ok=>simp only [bO];rw [h m (by simp_all [mF]),h k (by simp_all [mF])]
 case mup ag ls m k x=>simp only [bO];rw [h m (by simp_all [mF]),h k (by simp_all [mF]),h x (by simp_all [mF])]
 case men ag ls z m k=>simp only [bO];rw [h m (by simp_all [mF]),h k (by simp_all [mF])]
 case mst m k x=>simp only [bO];rw [h m (by simp_all [mF]),h k (by simp_all [mF]),h x (by simp_all [mF])]
 case del ag ls m k=>simp only [bO];rw [h m (by simp_all [mF]),h k (by simp_all [mF])]
 case lenM m=>simp only [bO];rw [h m (by simp_all [mF])]
 case mks k z b x y=>simp only [bO];rw [h x (by simp_all [mF]),h y (by simp_all [mF])]
 case s2b x=>simp only [bO];rw [h x (by simp_all [mF])]
 case b2s x=>simp only [bO];rw [h x (by simp_all [mF])]
 case b2b x=>simp only [bO];rw [h x (by simp_all [mF])]
 case apS x y=>simp only [bO];rw [h x (by simp_all [mF]),h y (by simp_all [mF])]
 case slx x lo hi mx k =>
  simp only [bO];rw [h x (by simp_all [mF]),h hi (by simp_all [mF]),h mx (by simp_all [mF])];cases lo<;>simp only<;>(try rw [h _ (by simp_all [mF])])
 case call=>rfl
 case nxt=>rfl
 case bad=>rfl
 case bmo f k cs=>simp only [bO];rw [N0 λc hc=>h c λt ht=>JT.2 ⟨c,hc,ht⟩]
 case rgm m=>simp only [bO];rw [h m (by simp_all [mF])]
 case ent m=>simp only [bO];rw [h m (by simp_all [mF])]
 case clr x k z=>simp only [bO];rw [h x (by simp_all [mF])]
 case pick c a b=>simp only [bO];rw [h c (by simp_all [mF]),h a (by simp_all [mF]),h b (by simp_all [mF])]
 case mov x=>simp only [bO];rw [h x (by simp_all [mF])]
 case un u x=>simp only [bO];rw [h x (by simp_all [mF])]
 case conv k x=>simp only [bO];rw [h x (by simp_all [mF])]
 case box x=>simp only [bO];rw [h x (by simp_all [mF])]
 case ld n x=>simp only [bO];rw [h x (by simp_all [mF])]
 case fad x n=>simp only [bO];rw [h x (by simp_all [mF])]
 case fld x n k=>simp only [bO];rw [h x (by simp_all [mF])]
 case lenS x=>simp only [bO];rw [h x (by simp_all [mF])]
 case lenL x=>simp only [bO];rw [h x (by simp_all [mF])]
 case ext x i=>simp only [bO];rw [h x (by simp_all [mF])]
 case nilc x=>simp only [bO];rw [h x (by simp_all [mF])]
 case nilS n kd x=>simp only [bO];rw [h x (by simp_all [mF])]
 case mm n x y=>simp only [bO];rw [h x (by simp_all [mF]),h y (by simp_all [mF])]
 case slc x lo hi k =>
  simp only [bO];rw [h x (by simp_all [mF])];cases lo<;>cases hi<;>simp only<;>(try rw [h _ (by simp_all [mF])])<;>(try rw [h _ (by simp_all [mF])])
 case slcS x lo hi =>
  simp only [bO];rw [h x (by simp_all [mF])];cases lo<;>cases hi<;>simp only<;>(try rw [h _ (by simp_all [mF])])<;>(try rw [h _ (by simp_all [mF])])
 case bin op x y=>simp only [bO];rw [h x (by simp_all [mF]),h y (by simp_all [mF])]
 case eqa n ks x y=>simp only [bO];rw [h x (by simp_all [mF]),h y (by simp_all [mF])]
 case eqb n x y=>simp only [bO];rw [h x (by simp_all [mF]),h y (by simp_all [mF])]
 case st n x y=>simp only [bO];rw [h x (by simp_all [mF]),h y (by simp_all [mF])]
 case iad x y k=>simp only [bO];rw [h x (by simp_all [mF]),h y (by simp_all [mF])]
 case iadA x y n k=>simp only [bO];rw [h x (by simp_all [mF]),h y (by simp_all [mF])]
 case ixS x y=>simp only [bO];rw [h x (by simp_all [mF]),h y (by simp_all [mF])]
 case app x y k b=>simp only [bO];rw [h x (by simp_all [mF]),h y (by simp_all [mF])]
def M6 {P:Program} {G:Nat→Option (List AV)} {r:Nat} {s s':List (Nat×AV)} {T:aH} {o:HOp} {K:AV→aH→Prop} (h:∀ t∈mF o,aP s t=aP s' t) :
  rV P G ⟨r,s,T⟩ o K=rV P G ⟨r,s',T⟩ o K:=by
 have hev:∀ x,(∀ t∈aY x,t∈mF o)→cQ G s x=cQ G s' x:=λx hx=>J2 λt ht=>h t (hx t ht);cases o
 case call f as_ =>
  simp only [rV];rw [hev f (by simp_all [mF]),N0 λc hc=>hev c λt ht=>by simp only [mF,eM,JT];exact .inr ⟨c,hc,ht⟩]
 case nxt p =>
  simp only [rV];rw [hev p (by simp_all [mF])]
 case nilS n k x =>
  simp only [rV];rw [hev x (by simp_all [mF]),Db hev]
 all_goals simp only [rV];rw [Db hev]
def xX {s s':List (Nat×AV)} {g:Option (Nat×Bool)} (h:∀ j b,g=some (j,b)→aP s j=aP s' j):dM s g=dM s' g:=by
 cases g with
 | none=>rfl
 | some p=>obtain ⟨j,b⟩:=p;simp only [dM];rw [h j b rfl]
def aft (o:Oper):List Nat:=(o.after.toList.filter (Region.binds .any)).map (·.on)
def aEg (done:List (List Nat)) (o:Oper):List Nat:=((aft o).flatMap λe=>e::done.getD e []).eraseDups
def SI:List Oper→List (List Nat)→List (List Nat)
 | [],d=>d
 | o::os,d=>SI os (d++[aEg d o])
def Plan.ok (p:Plan) (ops:List Oper):Bool :=
 (List.range p.hops.length).all λi=>match p.hops[i]?,ops[i]? with
  | some o,some c =>
   (aft c).all (λe=>e<i&&(p.p i).contains e) &&
   (p.p i).all (λq=>(aft c).any λe=>q==e||(p.p e).contains q) &&
   (match o.dst with
   | none=>true
   | some d=>(List.range p.hops.length).all λj=>match p.hops[j]? with
    | none=>true
    | some o'=>(j==i||!(o'.dst==some d))&&(p.quiet i||!p.quiet j||!(Rs o').contains d||(p.p j).contains i||(p.p i).contains j))
  | _,_=>false
def Rt (p:Plan):Nat→Bool→List Nat→Option HD
 | 0,_,_=>none
 | n+1,gc,E=>match (p.ready E).find? p.quiet with
  | some i=>match p.hops[i]? with
   | some o=>(Rt p n gc (i::E)).map (.q o)
   | none=>none
  | none=>match p.ready E with
   | []=>some (.done gc)
   | [i]=>match p.hops[i]? with
    | some o=>if (p.pend (i::E)).isEmpty=true then (Rt p n gc (i::E)).map λx=>.alt o [] x .no else none
    | none=>none
   | _=>none
def J3 (p:Plan) (E l:List Nat):Bool:=(List.range p.hops.length).all λk=>E.contains k||l.contains k||l.all (p.p k).contains
def IF (p:Plan):Nat→Bool→List Nat→Option HD
 | 0,_,_=>none
 | n+1,gc,E=>match (p.ready E).find? p.quiet with
  | some i=>match p.hops[i]? with
   | some o=>(IF p n gc (i::E)).map (.q o)
   | none=>none
  | none=>match p.ready E with
   | []=>some (.done gc)
   | c::cs=>if (8≤cs.length&&J3 p E (c::cs)&&(Rt p n true ((c::cs)++E)).isSome)=true then (Rt p n true ((c::cs)++E)).map (.perm ((E.filter p.quiet).filterMap λq=>p.hops[q]?) ((c::cs).map λi=>(p.hops[i]?).getD default)) else if (!cs.isEmpty&&12≤((List.range p.hops.length).filter λk=>!E.contains k&&!p.quiet k).length)=true then some (.plan p.hops p.pre n gc E) else (c::cs).foldr (λi acc=>match acc,p.hops[i]?,IF p n (gc||(!p.ng&&!cs.isEmpty)) (i::E) with
    | some t,some o,some x=>some (.alt o (if fG o.op then [] else p.pend (i::E)) x t)
    | _,_,_=>none) (some .no)
def EL (H:List (Nat×Option Nat×Nat)) (ho:HOper):HOper:=match ho.op with
 | .bsl k z ps len=>if H.any (λx=>ho.dst==some x.1&&x.2.2==1001)=true then ⟨ho.dst,.bslS k z ps len,ho.guard⟩ else ho
 | _=>ho
def Ft (P:Program) (N:Nat) (H:List (Nat×Option Nat×Nat)) (ops:Array Oper):Option HD :=
 match (eG P N ops ops.toList).map (·.map (EL H)) with
 | none=>none
 | some hl=>let p:Plan:=⟨hl,SI ops.toList []++(if H.any (λx=>x.2.2==1002) then [[]] else [])⟩
  if p.ok ops.toList&&(p.hops.length==ops.size) then IF p (ops.size+2) false [] else none
structure PlanOk (p:Plan) (ops:Array Oper):Prop where
 len:p.hops.length=ops.size
 aft:∀ i c,ops[i]?=some c→∀ e∈c.after,Region.binds .any e=true→e.on<i∧e.on∈p.p i
 pre:∀ i c,ops[i]?=some c→∀ q∈p.p i,∃ e∈c.after,Region.binds .any e=true∧(q=e.on∨q∈p.p e.on)
 dst:∀ (i j:Nat) (o o':HOper) (d:Nat),p.hops[i]?=some o→p.hops[j]?=some o'→o.dst=some d→o'.dst=some d→j=i
 rds:∀ (i j:Nat) (o o':HOper) (d:Nat),p.hops[i]?=some o→p.hops[j]?=some o'→o.dst=some d→d∈Rs o'→p.quiet i=false→p.quiet j=true→i∈p.p j∨j∈p.p i
def En {p:Plan} {i:Nat} (h:p.quiet i=true) :
  ∃ o d,p.hops[i]?=some o∧fG o.op=true∧o.dst=some d∧∀ r o',p.hops[r]?=some o'→d∈Rs o'→i∈p.p r:=by
 unfold Plan.quiet at h;split at h
 ·simp at h
 ·rename_i o ho;simp only [lN] at h;obtain ⟨h1,h2⟩:=h;split at h2
  ·simp at h2
  ·rename_i d hd;refine ⟨o,d,ho,h1,hd,λr o' hr hm=>?_⟩;simp only [lF,sH] at h2;have:=h2 r (vE.1 hr).1;rw [hr] at this;simpa [hm] using this
def UT {o:Oper} {x:Nat}:x∈Hud.aft o↔∃ e∈o.after,Region.binds .any e=true∧e.on=x:=by
 simp only [Hud.aft,cZ,uD,Array.mem_toList_iff];constructor
 ·rintro ⟨e,⟨h1,h2⟩,h3⟩;exact ⟨e,h1,h2,h3⟩
 ·rintro ⟨e,h1,h2,h3⟩;exact ⟨e,⟨h1,h2⟩,h3⟩
def aAA {p:Plan} {ops:Array Oper} (hl:p.hops.length=ops.size) (h:p.ok ops.toList=true):PlanOk p ops:=by
 have key:∀ i o c,p.hops[i]?=some o→ops[i]?=some c→_:=λi o c hi hc=>by
  have h1:=h;simp only [Plan.ok,lF,sH] at h1;have h2:=h1 i (vE.1 hi).1;rw [hi,show ops.toList[i]?=some c from by simpa using hc] at h2;simp only [lN] at h2;exact h2
 have bO:∀ i c,ops[i]?=some c→∃ o,p.hops[i]?=some o:=λi c hc=>by
  have:=(aBS.1 hc).1;exact ⟨_,nQ (by omega)⟩
 have opp:∀ (i:Nat) (o:HOper),p.hops[i]?=some o→∃ c,ops[i]?=some c:=λi o hc=>by
  have:=(vE.1 hc).1;exact ⟨_,Nw (by omega)⟩
 refine ⟨hl,λi c hc e he hb=>?_,λi c hc q hq=>?_,λi j o o' d hi hj hd hd'=>?_,λi j o o' d hi hj hd hr hqi hqj=>?_⟩
 ·obtain ⟨o,ho⟩:=bO i c hc;have h1:=(key i o c ho hc).1.1;simp only [lF] at h1;have:=h1 e.on (UT.2 ⟨e,he,hb,rfl⟩);simp only [lN,decide_eq_true_eq] at this;exact ⟨this.1,by simpa using this.2⟩
 ·obtain ⟨o,ho⟩:=bO i c hc;have h1:=(key i o c ho hc).1.2;simp only [lF] at h1;have:=h1 q hq;simp only [T7] at this;obtain ⟨e,he,h2⟩:=this;obtain ⟨e',he',hb,rfl⟩:=UT.1 he;refine ⟨e',he',hb,?_⟩;simpa using h2
 ·obtain ⟨c,hc⟩:=opp i o hi;have h1:=(key i o c hi hc).2;rw [hd] at h1;simp only [lF,sH] at h1;have h2:=h1 j (vE.1 hj).1;rw [hj] at h2;simp only [hd',lN,Hj,beq_self_eq_true,lG,kB,or_false,beq_iff_eq] at h2;exact h2.1
 ·obtain ⟨c,hc⟩:=opp i o hi;have h1:=(key i o c hi hc).2;rw [hd] at h1;simp only [lF,sH] at h1;have h2:=h1 j (vE.1 hj).1;rw [hj] at h2;simp only [hqi,hqj,lN,Hj,kB,lG,false_or,Gl,Gj,decide_eq_true_eq,decide_eq_false_iff_not,hr,not_true_eq_false] at h2;exact h2.2
def J4 {G:Nat→Option (List AV)} {st:St} {l:List HOper}:lT G st l↔∀ o∈l,lT G st [o]:=by
 induction l with
 | nil=>simp [lT]
 | cons o l ih =>
  simp only [jB,forall_eq_or_imp];rw [←ih];simp [lT]
def J5 {G:Nat→Option (List AV)} {r:Nat} {s s':List (Nat×AV)} {T:aH} {o:HOper} (h:∀ t∈Rs o,aP s t=aP s' t) (hd:o.dst.map (aP s)=o.dst.map (aP s')) :
  lT G ⟨r,s,T⟩ [o]=lT G ⟨r,s',T⟩ [o]:=by
 have hw:dM s o.guard=dM s' o.guard:=xX λj b e=>h j (by simp [Rs,e]);have hh:bO T (cQ G s) o.op=bO T (cQ G s') o.op:=Db λx hx=>J2 λt ht=>h t (by simp only [Rs,eM];exact .inl (hx t ht));simp only [lT,hw,hh,hd]
def WF {P:Program} {G:Nat→Option (List AV)} {st:St} {o:HOp} {K:AV→aH→Prop} (h:rV P G st o K):rV P G st o λx T=>K x T∧(fG o=true→T=st.T):=by
 cases o
 case call f as_ =>
  have:(λx T=>K x T∧(fG (HOp.call f as_)=true→T=st.T))=K:=by
   funext x T;simp [fG]
  rw [this];exact h
 case nxt p =>
  have:(λx T=>K x T∧(fG (HOp.nxt p)=true→T=st.T))=K:=by
   funext x T;simp [fG]
  rw [this];exact h
 case nilS n k x =>
  simp only [rV] at h ⊢;split at h
  ·rename_i hn;rw [if_pos hn];exact ⟨⟨h.1,λ_=>trivial⟩,⟨h.2,λ_=>trivial⟩⟩
  ·rename_i hn;rw [if_neg hn];split at h
   ·rename_i x T he;exact ⟨h,λhq=>Gx hq he⟩
   ·exact h.elim
 all_goals
  simp only [rV] at h ⊢
  split at h
  ·rename_i x T he
   exact ⟨h,λhq=>Gx hq he⟩
  ·exact h.elim
def Hs (listed:Array Bool):Nat→Nat
 | 0=>0
 | m+1=>Hs listed m+if listed.getD m false then 0 else 1
def Fu {listed:Array Bool}:∀ {m:Nat},Hs listed m=0→∀ i,i<m→listed.getD i false=true
 | 0,_,i,hi=>by omega
 | m+1,h,i,hi=>by
  simp only [Hs] at h;split at h
  ·rename_i hm;rcases gM i m with h1 | h1
   ·exact Fu (by omega) i h1
   ·have:i=m:=by omega
    subst this;exact hm
  ·omega
def YI {listed:Array Bool} {i:Nat}:∀ {m:Nat},m≤i→Hs (listed.setIfInBounds i true) m=Hs listed m
 | 0,_=>rfl
 | m+1,h=>by
  simp only [Hs];rw [YI (by omega),getD_set_ne false (by omega)]
def I3 {listed:Array Bool} {i:Nat} (hs:i<listed.size) (hu:listed.getD i false=false):∀ {m:Nat},i<m→Hs (listed.setIfInBounds i true) m+1=Hs listed m
 | 0,h=>by omega
 | m+1,h=>by
  simp only [Hs];rcases gM i m with h1 | h1
  ·have:=I3 hs hu h1;rw [getD_set_ne false (by omega)];omega
  ·have:i=m:=by omega
   subst this;have h2:(listed.setIfInBounds i true).getD i false=true:=by simp [PY,hs]
   rw [YI (cT _),h2,hu];simp
def Ht {P:Program} {N:Nat} {ops:Array Oper}:∀ {l:List Oper} {hl:List HOper},eG P N ops l=some hl→hl.length=l.length∧∀ (i:Nat) ho,hl[i]?=some ho→∃ o,l[i]?=some o∧mX P N ops o=some ho
 | [],hl,h=>by simp only [eG,Option.some.injEq] at h;subst h;simp
 | o::l,hl,h=>by
  simp only [eG] at h;split at h
  ·rename_i ho hl' h1 h2;injection h with h;subst h;obtain ⟨h3,h4⟩:=Ht h2;refine ⟨by simp [h3],λi ho' hi=>?_⟩
   cases i with
   | zero=>simp only [CJ,Option.some.injEq] at hi;subst hi;exact ⟨o,rfl,h1⟩
   | succ i=>simpa using h4 i ho' (by simpa using hi)
  ·simp at h
section
variable {P:Program} {G:Nat→Option (List AV)} {N:Nat} {h0:GH} {φ0:Nat→Value} {T0:aH} {w0:World}
def Gy {φ:Nat→Value} {w:World} {a:Act}:∀ (I:List Nat) {st:St} {h:GH},pS G h→Inv h φ w st.T→qU h φ st.T.length st.s a →
  ∃ h2,pS G h2∧Inv h2 φ w (EH st.T I)∧Evo h φ st.T w h2 φ (EH st.T I) w∧∃ s2:List (Nat×AV),(∀ j,aP s2 j=qX st.T I (aP st.s j))∧qU h2 φ (EH st.T I).length s2 a
 | [],st,h,hG,hI,hS=>⟨h,hG,hI,Evo.refl,st.s,λ_=>rfl,hS⟩
 | i::r,st,h,hG,hI,hS=>by
  simp only [EH,qX];split
  ·rename_i k es hg;obtain ⟨s1,s2⟩:=QH hI (aZ hg)
   obtain ⟨h2,g1,g2,g3,s3,g4,g5⟩:=Gy r (st:=⟨st.r,Ms i k es st.s,(Mt i k es st.T).set i none⟩) (hG.mono (AQ hI (aZ hg))) s1 (λj=>by
    show Rp _ φ ((Mt i k es st.T).set i none).length (aP (Ms i k es st.s) j) _;rw [gG,I0,I2]
    exact OE hI (aZ hg) (hS j))
   refine ⟨h2,g1,g2,s2.trans g3,s3,λj=>?_,g5⟩;rw [g4 j,I2]
  ·rename_i hn;exact Gy r hG hI hS
def J6:∀ (I:List Nat) (T:aH) (f:Nat),qX T I (.cl f [])=.cl f []
 | [],_,_=>rfl
 | i::r,T,f=>by
  simp only [qX];split
  ·simp only [zH,Fb];exact J6 r _ f
  ·exact J6 r T f
def OG:∀ (I:List Nat) (T:aH) (x:Value),qX T I (.v x)=.v x
 | [],_,_=>rfl
 | i::r,T,x=>by
  simp only [qX];split
  ·simp only [zH];exact OG r _ x
  ·exact OG r T x
def J7:∀ (I:List Nat) (T:aH) (cs:List AV),qX T I (.rp cs)=.rp cs
 | [],_,_=>rfl
 | i::r,T,cs=>by
  simp only [qX];split
  ·simp only [zH];exact J7 r _ cs
  ·exact J7 r T cs
def Gz:∀ (I:List Nat) (T:aH),qX T I .any=.any
 | [],_=>rfl
 | i::r,T=>by
  simp only [qX];split
  ·simp only [zH];exact Gz r _
  ·exact Gz r T
def YJ {s s2:List (Nat×AV)} {T:aH} {I:List Nat} (h:∀ j,aP s2 j=qX T I (aP s j)) (x:Operand):cQ G s2 x=qX T I (cQ G s x):=by
 cases x with
 | tmp t=>exact h t
 | const v=>exact (OG I T v).symm
 | global g =>
  simp only [cQ]
  cases G g with
  | none=>exact (Gz I T).symm
  | some cs=>exact (J7 I T cs).symm
 | func f=>exact (J6 I T f).symm
def Lx {h:GH} {φ:Nat→Value} {w:World} {a:Act} {st:St} {K:AV→aH→Prop} {next:Act→World→Prop} {o:Oper} {k:Nat} {z:List Value} {ps:List (Nat×Nat×Operand)} {len:Nat} (hc:Em P o=some (.bsl k z ps len)) (hw:rV P G st (.bslS k z ps len) K) (hG:pS G h) (hI:Inv h φ w st.T) (hS:qU h φ st.T.length st.s a)
  (hn:∀ v w',Bv h φ st.T w K v w'→next (a.put o.dst v) w'):nT P o a w next:=by
 have hw2:∃ x T',bO st.T (cQ G st.s) (.bslS k z ps len)=some (x,T')∧K x T':=by
  simp only [rV] at hw;split at hw
  ·rename_i x T' e;exact ⟨x,T',e,hw⟩
  ·exact hw.elim
 obtain ⟨x,T',he,hk⟩:=hw2;obtain ⟨h2,g1,g2,g3,s2,g4,g5⟩:=Gy (fU (ps.map λp=>cQ G st.s p.2.2)) hG hI hS;refine Jx hc (st:=⟨st.r,s2,EH st.T (fU (ps.map λp=>cQ G st.s p.2.2))⟩) (K:=K) ?_ g1 g2 g5 λv w' hr=>hn v w' ?_
 ·simp only [bO] at he;simp only [rV,bO];have:(ps.map λp=>(p.1,p.2.1,cQ G s2 p.2.2))=ps.map λp=>(p.1,p.2.1,qX st.T (fU (ps.map λp=>cQ G st.s p.2.2)) (cQ G st.s p.2.2)):=N0 λp _=>by rw [YJ g4]
  rw [this];split at he
  ·rename_i cs hcs;split at he
   ·rename_i hcl;simp only [Option.some.injEq,Prod.mk.injEq] at he;obtain ⟨rfl,rfl⟩:=he;rw [if_pos hcl];exact hk
   ·simp at he
  ·simp at he
 ·obtain ⟨r,T2,h3,φ3,e1,e2,e3,e4⟩:=hr;exact ⟨r,T2,h3,φ3,e1,g3.trans e2,e3,e4⟩
def J8 {H:List (Nat×Option Nat×Nat)} (ho:HOper):EL H ho=ho∨∃ k z ps len,ho.op=.bsl k z ps len∧EL H ho=⟨ho.dst,.bslS k z ps len,ho.guard⟩:=by
 unfold EL;split
 ·rename_i k z ps len e;split
  ·exact .inr ⟨k,z,ps,len,e,rfl⟩
  ·exact .inl rfl
 ·exact .inl rfl
def UU {H:List (Nat×Option Nat×Nat)} {ro:Option Nat} {ops:Array Oper} {Q:Exit→Act→World→Prop} {i:Nat} {o:Oper} {ho:HOper} {st:St} {a:Act} {w:World} {next:Act→World→Prop} (hi:ops[i]?=some o) (hc:(mX P N ops o).map (EL H)=some ho)
  (hS:SInv P G N h0 φ0 T0 w0 st a w) (hw:match dM st.s ho.guard with
   | some true=>rV P G st ho.op λx T=>∀ a' w',SInv P G N h0 φ0 T0 w0 ⟨st.r,dH st.s ho.dst x,T⟩ a' w'→next a' w'
   | some false=>∀ a' w',SInv P G N h0 φ0 T0 w0 ⟨st.r,dH st.s ho.dst (.v undef),st.T⟩ a' w'→next a' w'
   | none=>False):wpOpIn (fe ro) 0 P ops Q i next a w:=by
 obtain ⟨hr,honce,⟨h,φ,hG,hE,hI,hSl⟩,hsz,hdf⟩:=hS;obtain ⟨ho0,hc0,hseal⟩:=Xc.1 hc;obtain ⟨c1,c2,c3,c4⟩:=EK hc0;have hdst:∀ j,o.dst=some j→j<a.tmps.size:=λj hj=>AH (c1 j hj) hsz;have hput:∀ v,N≤(a.put o.dst v).tmps.size:=by
  intro v
  cases o.dst with
  | none=>exact hsz
  | some j=>simpa [Act.put] using hsz
 unfold wpOpIn;simp only [hi];have hdd:ho.dst=o.dst∧ho.guard=ho0.guard:=by
  rcases J8 (H:=H) ho0 with e | ⟨_,_,_,_,_,e⟩
  ·rw [←hseal,e];exact ⟨c2,rfl⟩
  ·rw [←hseal,e];exact ⟨c2,rfl⟩
 rw [hdd.1,hdd.2] at hw;split at hw
 ·rename_i hwt;have hwant:=Fr hSl c4 hwt;rw [if_pos hwant];have hso:∀ {nx:Act→World→Prop},(∀ v w',Bv h φ st.T w _ v w'→nx (a.put o.dst v) w')→nT P o a w nx:=λhret=>by
   rcases J8 (H:=H) ho0 with e | ⟨k,z,ps,len,e1,e2⟩
   ·rw [←hseal,e] at hw;exact Jx c3 hw hG hI hSl hret
   ·rw [←hseal,e2] at hw;exact Lx (by rw [c3,e1]) hw hG hI hSl hret
  refine aC3 (Fo c3) (hso λv w' hret=>?_);obtain ⟨x,T',h',φ',hk,hE',hI',hx⟩:=hret;have hSl':qU h' φ' T'.length st.s a:=λi=>(hSl i).mono hE'.le hE'.len hE'.phi;exact hk _ _ ⟨hr,wB honce _ _,⟨h',φ',hG.mono hE'.le,hE.trans hE',hI',Fp hSl' hx hdst⟩,hput v,(hdf.keep hI hE').put _ _⟩
 ·rename_i hwt;have hwant:=Fr hSl c4 hwt;rw [if_neg (by simp [hwant])];exact ⟨λf _=>UR ro f,hw _ _ ⟨hr,wB honce _ _,⟨h,φ,hG,hE,hI,Fp hSl (by simp [Rp]) hdst⟩,hput _,hdf.put _ _⟩⟩
 ·exact hw.elim
structure Drawn (P:Program) (G:Nat→Option (List AV)) (N:Nat) (h0:GH) (φ0:Nat→Value) (T0:aH) (w0:World) (p:Plan) (E:List Nat) (st:St) (listed:Array Bool) (a:Act) (w:World):Prop where
 size:listed.size=p.hops.length
 lt:∀ i∈E,i<p.hops.length
 sub:∀ i,listed.getD i false=true→i∈E
 clo:∀ i,listed.getD i false=true→∀ q∈p.p i,listed.getD q false=true
 heavy:∀ i∈E,p.quiet i=false→listed.getD i false=true
 ecl:∀ i∈E,∀ q∈p.p i,q∈E
 pend:∀ i∈E,listed.getD i false=false→∀ o,p.hops[i]?=some o→lT G st [o]
 once:Gv st.s
 inv:∃ s',(∀ t,aP s' t=aP st.s t∨∃ i o,i∈E∧listed.getD i false=false∧p.hops[i]?=some o∧o.dst=some t)∧SInv P G N h0 φ0 T0 w0 ⟨st.r,s',st.T⟩ a w
variable {p:Plan} {ops:Array Oper} {E:List Nat} {st:St} {listed:Array Bool} {a:Act} {w:World}
def UV {listed:Array Bool} {i:Nat}:(i<listed.size∧listed.getD i true=false)↔(i<listed.size∧listed.getD i false=false):=by
 constructor<;>rintro ⟨h,h1⟩<;>exact ⟨h,by simpa [PY,h] using h1⟩
def qJ (hp:PlanOk p ops) (hJ:Drawn P G N h0 φ0 T0 w0 p E st listed a w) {i:Nat} (hr:i∈Region.ready .any ops listed) :
  listed.getD i false=false∧i<p.hops.length∧(∃ o,ops[i]?=some o)∧∀ q∈p.p i,listed.getD q false=true:=by
 obtain ⟨h1,o,ho,h2⟩:=mem_ready.1 hr;have hlt:i<listed.size:=by have:=(aBS.1 ho).1;have:=hp.len;have:=hJ.size;omega
 refine ⟨(UV.1 ⟨hlt,h1⟩).2,by have:=hJ.size;omega,⟨o,ho⟩,λq hq=>?_⟩;obtain ⟨e,he,hb,h3⟩:=hp.pre i o ho q hq;have h4:=h2 e he hb;rcases h3 with rfl | h3
 ·exact h4
 ·exact hJ.clo _ h4 _ h3
def G0 (hp:PlanOk p ops) (hs:listed.size=p.hops.length) (hr:Region.ready .any ops listed=[]):∀ i,i<p.hops.length→listed.getD i false=true:=by
 intro i
 induction i using Nat.strongRecOn with
 | _ i ih =>
  intro hi;have hlt:i<ops.size:=by have:=hp.len;omega
  by_cases hu:listed.getD i false=true
  ·exact hu
  ·have:i∈Region.ready .any ops listed:=by
    refine mem_ready.2 ⟨(UV.2 ⟨by omega,by simpa using hu⟩).2,ops[i],Nw hlt,λe he hb=>?_⟩;have:=(hp.aft i _ (Nw hlt) e he hb).1;exact ih e.on this (by omega)
   rw [hr] at this;simp at this
end
end
section
section
variable {P:Program} {G:Nat→Option (List AV)} {N:Nat} {h0:GH} {φ0:Nat→Value} {T0:aH} {w0:World}
variable {H:List (Nat×Option Nat×Nat)} {ro:Option Nat} {p:Plan} {ops:Array Oper} {E:List Nat} {st:St} {listed:Array Bool} {a:Act} {w:World} {Q:Exit→Act→World→Prop}
def Eo {f:FuncId} {args:List AV} {T:aH} {K K':AV→aH→Prop} (h:∀ x T,K x T→K' x T) (hw:EI P G f args T K):EI P G f args T K':=by
 obtain ⟨as_,hs,hw⟩:=hw;refine ⟨as_,hs,?_⟩;rcases hw with hw | ⟨h1,hw⟩ | hw
 ·obtain ⟨L,h1,h2,hw⟩:=hw;exact .inl ⟨L,h1,h2,hw.mono λr T' hk=>h _ _ hk⟩
 ·exact .inr (.inl ⟨h1,hw.mono λr T' hk=>⟨hk.1,hk.2.1,h _ _ hk.2.2⟩⟩)
 ·exact .inr (.inr (hw.mono h))
def AR {st:St} {o:HOp} {K K':AV→aH→Prop} (h:∀ x T,K x T→K' x T) (hw:rV P G st o K):rV P G st o K':=by
 cases o
 case call f as_ =>
  simp only [rV] at hw ⊢;split at hw
  ·rename_i g caps he;exact Eo h hw
  ·rename_i g k cs he;exact Eo h hw
  ·rename_i i he;exact hw.mono λr T' hk=>h _ _ hk
  ·exact hw.elim
 case nxt p =>
  simp only [rV] at hw ⊢;split at hw
  ·split at hw
   ·exact h _ _ hw
   ·split at hw
    ·exact ⟨hw.1,hw.2.1,λha=>h _ _ (hw.2.2.1 ha),λe k v b h1 h2 h3 h4=>h _ _ (hw.2.2.2 e k v b h1 h2 h3 h4)⟩
    ·exact hw.elim
   ·exact hw.elim
  ·exact hw.elim
 case nilS n k x =>
  simp only [rV] at hw ⊢;split at hw
  ·rename_i hn;rw [if_pos hn];exact ⟨h _ _ hw.1,h _ _ hw.2⟩
  ·rename_i hn;rw [if_neg hn];split at hw
   ·exact h _ _ hw
   ·exact hw.elim
 all_goals
  simp only [rV] at hw ⊢
  split at hw
  ·exact h _ _ hw
  ·exact hw.elim
def SJ {st:St} {o:HOp} {K:AV→aH→Prop} {x:AV} {T:aH} (hq:fG o=true) (he:bO st.T (cQ G st.s) o=some (x,T)) (hk:K x T):rV P G st o K:=by
 cases o
 case call f as_=>simp [fG] at hq
 case nxt p=>simp [fG] at hq
 case nilS n k y =>
  have hn:N2 k (cQ G st.s y)≠true:=λhn=>by
   unfold N2 at hn;split at hn
   ·rename_i h1;simp [bO,h1] at he
   ·simp at hn
  simp only [rV,he];rw [if_neg hn];exact hk
 all_goals
  simp only [rV,he]
  exact hk
def SK (s:List (Nat×AV)) (d:Nat) (x:AV):aP (dH s (some d) x) d=x:=by simp [dH,Fl]
def UW {s:List (Nat×AV)} {d t:Nat} {x:AV} (h:d≠t):aP (dH s (some d) x) t=aP s t:=by simp [dH,Fl,h]
def AS {s:List (Nat×AV)} {o:Option Nat} {t:Nat} {x:AV} (h:o≠some t):aP (dH s o x) t=aP s t:=by
 cases o with
 | none=>rfl
 | some d=>exact UW λe=>h (by rw [e])
def fK {i:Nat} (hs:i<listed.size) (j:Nat):(listed.setIfInBounds i true).getD j false=true↔j=i∨listed.getD j false=true:=by
 by_cases h:i=j
 ·subst h;simp [PY,hs]
 ·rw [getD_set_ne false h];constructor
  ·exact .inr
  ·rintro (rfl | h')
   ·exact absurd rfl h
   ·exact h'
def I4 (hp:PlanOk p ops) (hJ:Drawn P G N h0 φ0 T0 w0 p E st listed a w) {i:Nat} (hr:i∈p.ready E) (hq:p.quiet i=true) {o:HOper} (ho:p.hops[i]?=some o) {x:AV}
  (hx:(dM st.s o.guard=some true∧∃ T',bO st.T (cQ G st.s) o.op=some (x,T'))∨(dM st.s o.guard=some false∧x=.v undef)) :
  Drawn P G N h0 φ0 T0 w0 p (i::E) ⟨st.r,dH st.s o.dst x,st.T⟩ listed a w:=by
 obtain ⟨o',d,ho',hqh,hd,hrd⟩:=En hq;rw [ho] at ho';injection ho' with ho';subst ho';simp only [Plan.ready,uD,sH,lN,Gl,Gj,decide_eq_false_iff_not,lF,decide_eq_true_eq] at hr;obtain ⟨hlt,hni,hpre⟩:=hr;have hnl:listed.getD i false=false:=by
  cases hb:listed.getD i false
  ·rfl
  ·exact absurd (hJ.sub i hb) hni
 have noread:∀ (k:Nat) ok,k∈E∨k=i→p.hops[k]?=some ok→d∉Rs ok:=λk ok hk hok hm=>by
  have h1:=hrd k ok hok hm;rcases hk with hk | rfl
  ·exact hni (hJ.ecl k hk i h1)
  ·exact hni (hpre k h1)
 have keep:∀ (k:Nat) ok,k∈E∨k=i→p.hops[k]?=some ok→∀ t∈Rs ok,aP (dH st.s o.dst x) t=aP st.s t:=λk ok hk hok t ht=>by
  rw [hd];exact UW λe=>noread k ok hk hok (e ▸ ht)
 refine ⟨hJ.size,?_,λk hk=>H8 _ (hJ.sub k hk),hJ.clo,?_,?_,?_,wB hJ.once _ _,?_⟩
 ·intro k hk;rcases jB.1 hk with rfl | hk
  ·exact hlt
  ·exact hJ.lt k hk
 ·intro k hk hqk;rcases jB.1 hk with rfl | hk
  ·rw [hq] at hqk;simp at hqk
  ·exact hJ.heavy k hk hqk
 ·intro k hk q hqm;rcases jB.1 hk with rfl | hk
  ·exact H8 _ (hpre q hqm)
  ·exact H8 _ (hJ.ecl k hk q hqm)
 ·intro k hk hul ok hok;by_cases hki:k=i
  ·subst hki;rw [ho] at hok;injection hok with hok;subst hok;have hg:dM (dH st.s o.dst x) o.guard=dM st.s o.guard:=xX λj b e=>keep k o (.inr rfl) ho j (by simp [Rs,e]);have hh:bO st.T (cQ G (dH st.s o.dst x)) o.op=bO st.T (cQ G st.s) o.op:=Db λy hy=>J2 λt ht=>keep k o (.inr rfl) ho t (by simp only [Rs,eM];exact .inl (hy t ht));rw [hd] at hg hh ⊢;simp only [lT,hg,hh,hd,lA,SK,and_true];rcases hx with ⟨h1,T',h2⟩ | ⟨h1,h2⟩
   ·simp [h1,h2]
   ·simp [h1,h2]
  ·have hkE:k∈E:=by
    rcases jB.1 hk with h | h
    ·exact absurd h hki
    ·exact h
   rw [J5 (s':=st.s) (keep k ok (.inl hkE) hok) ?_]
   ·exact hJ.pend k hkE hul ok hok
   ·cases hdk:ok.dst with
    | none=>rfl
    | some dk =>
     simp only [lA,Option.some.injEq];refine AS λe=>hki ?_;exact hp.dst i k o ok dk ho hok (e ▸ rfl) hdk
 ·obtain ⟨s',hs,hS⟩:=hJ.inv;refine ⟨s',λt=>?_,hS⟩;by_cases ht:o.dst=some t
  ·exact .inr ⟨i,o,by simp,hnl,ho,ht⟩
  ·rcases hs t with h | ⟨k,ok,h1,h2,h3,h4⟩
   ·exact .inl (by rw [h];exact (AS ht).symm)
   ·exact .inr ⟨k,ok,by simp [h1],h2,h3,h4⟩
def J9 (hp:PlanOk p ops) (hJ:Drawn P G N h0 φ0 T0 w0 p E st listed a w) {i:Nat} (hr:i∈Region.ready .any ops listed) {o:HOper} (ho:p.hops[i]?=some o) {s':List (Nat×AV)}
  (hs:∀ t,aP s' t=aP st.s t∨∃ i o,i∈E∧listed.getD i false=false∧p.hops[i]?=some o∧o.dst=some t):∀ t∈Rs o,aP s' t=aP st.s t:=by
 intro t ht;obtain ⟨_,_,_,hpre⟩:=qJ hp hJ hr;rcases hs t with h | ⟨k,ok,h1,h2,h3,h4⟩
 ·exact h
 ·have hqk:p.quiet k=true:=by
   cases hb:p.quiet k
   ·rw [hJ.heavy k h1 hb] at h2;simp at h2
   ·rfl
  obtain ⟨o',d,ho',_,hd,hrd⟩:=En hqk;rw [h3] at ho';injection ho' with ho';subst ho';rw [h4] at hd;injection hd with hd;subst hd;rw [hpre k (hrd i o ho ht)] at h2;simp at h2
def SL (hp:PlanOk p ops) (hh:∀ (i:Nat) ho,p.hops[i]?=some ho→∃ o,ops[i]?=some o∧(mX P N ops o).map (EL H)=some ho) (hJ:Drawn P G N h0 φ0 T0 w0 p E st listed a w) {i:Nat} (hr:i∈Region.ready .any ops listed) (hi:i∈E) {next:Act→World→Prop}
  (hn:∀ a' w',Drawn P G N h0 φ0 T0 w0 p E st (listed.setIfInBounds i true) a' w'→next a' w'):wpOpIn (fe ro) 0 P ops Q i next a w:=by
 obtain ⟨hul,hlt,⟨c,hc⟩,hpre⟩:=qJ hp hJ hr;have hq:p.quiet i=true:=by
  cases hb:p.quiet i
  ·rw [hJ.heavy i hi hb] at hul;simp at hul
  ·rfl
 obtain ⟨o,d,ho,hqh,hd,hrd⟩:=En hq;obtain ⟨s',hs,hS⟩:=hJ.inv;have hrs:=J9 hp hJ hr ho hs;have hck:=hJ.pend i hi hul o ho;obtain ⟨c',hc',hcomp⟩:=hh i o ho;have fin:∀ x a' w',x=aP st.s d→SInv P G N h0 φ0 T0 w0 ⟨st.r,dH s' o.dst x,st.T⟩ a' w'→next a' w':=by
  intro x a' w' hx hS';have hsz:i<listed.size:=by rw [hJ.size];exact hlt
  refine hn a' w' ⟨by simpa using hJ.size,hJ.lt,λk hk=>?_,λk hk q hqm=>?_,λk hk hqk=>?_,hJ.ecl,λk hk hk2=>?_,hJ.once,dH s' o.dst x,λt=>?_,hS'⟩
  ·rcases (fK hsz k).1 hk with rfl | h
   ·exact hi
   ·exact hJ.sub k h
  ·refine (fK hsz q).2 (.inr ?_);rcases (fK hsz k).1 hk with rfl | h
   ·exact hpre q hqm
   ·exact hJ.clo k h q hqm
  ·exact (fK hsz k).2 (.inr (hJ.heavy k hk hqk))
  ·refine hJ.pend k hk ?_;cases hb:listed.getD k false
   ·rfl
   ·rw [(fK hsz k).2 (.inr hb)] at hk2;simp at hk2
  ·by_cases ht:o.dst=some t
   ·rw [ht];rw [hd] at ht;injection ht with ht;subst ht;exact .inl (by rw [SK];exact hx)
   ·rw [AS ht];rcases hs t with h | ⟨k,ok,h1,h2,h3,h4⟩
    ·exact .inl h
    ·refine .inr ⟨k,ok,h1,?_,h3,h4⟩;cases hb:(listed.setIfInBounds i true).getD k false
     ·rfl
     ·rcases (fK hsz k).1 hb with rfl | h
      ·rw [ho] at h3;injection h3 with h3;subst h3;exact absurd h4 ht
      ·rw [h2] at h;simp at h
 refine UU hc' hcomp hS ?_;have hw:dM s' o.guard=dM st.s o.guard:=xX λj b e=>hrs j (by simp [Rs,e]);simp only [lT,and_true] at hck;simp only [hw]
 cases hwv:dM st.s o.guard with
 | none=>simp [hwv] at hck
 | some b =>
  rw [hwv] at hck
  cases b with
  | false =>
   simp only [hd,lA,Option.some.injEq] at hck;exact λa' w' hS'=>fin _ a' w' hck.symm hS'
  | true =>
   simp only at hck ⊢;rw [M6 (s':=st.s) λt ht=>hrs t (by simp only [Rs,eM];exact .inl ht)];split at hck
   ·rename_i x T' he;simp only [hd,lA,Option.some.injEq] at hck;have hT:=Gx hqh he;subst hT;exact SJ (st:=⟨st.r,st.s,st.T⟩) hqh he λa' w' hS'=>fin x a' w' hck.symm hS'
   ·exact hck.elim
def SM (hp:PlanOk p ops) (hh:∀ (i:Nat) ho,p.hops[i]?=some ho→∃ o,ops[i]?=some o∧(mX P N ops o).map (EL H)=some ho) (hJ:Drawn P G N h0 φ0 T0 w0 p E st listed a w) {i:Nat} (hr:i∈Region.ready .any ops listed) (hi:i∉E) (hq:p.quiet i=false)
  {o:HOper} (ho:p.hops[i]?=some o) {K:AV→aH→Prop}
  (hw:match dM st.s o.guard with
   | some true=>rV P G st o.op λx T=>lT G ⟨st.r,dH st.s o.dst x,T⟩ (if fG o.op then [] else p.pend (i::E))∧K x T
   | some false=>lT G ⟨st.r,dH st.s o.dst (.v undef),st.T⟩ (if fG o.op then [] else p.pend (i::E))∧K (.v undef) st.T
   | none=>False) {next:Act→World→Prop}
  (hn:∀ x T a' w',K x T→Drawn P G N h0 φ0 T0 w0 p (i::E) ⟨st.r,dH st.s o.dst x,T⟩ (listed.setIfInBounds i true) a' w'→next a' w'):wpOpIn (fe ro) 0 P ops Q i next a w:=by
 obtain ⟨hul,hlt,⟨c,hc⟩,hpre⟩:=qJ hp hJ hr;obtain ⟨s',hs,hS⟩:=hJ.inv;have hrs:=J9 hp hJ hr ho hs;obtain ⟨c',hc',hcomp⟩:=hh i o ho;have hsz:i<listed.size:=by rw [hJ.size];exact hlt
 have fin:∀ x T a' w',lT G ⟨st.r,dH st.s o.dst x,T⟩ (if fG o.op then [] else p.pend (i::E))→(fG o.op=true→T=st.T)→K x T →
   SInv P G N h0 φ0 T0 w0 ⟨st.r,dH s' o.dst x,T⟩ a' w'→next a' w':=by
  intro x T a' w' hck hqT hk hS';have hclo:∀ k,(listed.setIfInBounds i true).getD k false=true→∀ q∈p.p k,(listed.setIfInBounds i true).getD q false=true:=λk hk q hqm=>by
   refine (fK hsz q).2 (.inr ?_);rcases (fK hsz k).1 hk with rfl | h
   ·exact hpre q hqm
   ·exact hJ.clo k h q hqm
  have hheavy:∀ k∈i::E,p.quiet k=false→(listed.setIfInBounds i true).getD k false=true:=λk hk hqk=>by
   rcases jB.1 hk with rfl | hk
   ·exact (fK hsz k).2 (.inl rfl)
   ·exact (fK hsz k).2 (.inr (hJ.heavy k hk hqk))
  refine hn x T a' w' hk ⟨by simpa using hJ.size,λk hk=>?_,λk hk=>?_,hclo,hheavy,λk hk q hqm=>?_,λk hk hk2 ok hok=>?_,wB hJ.once _ _,dH s' o.dst x,λt=>?_,hS'⟩
  ·rcases jB.1 hk with rfl | hk
   ·exact hlt
   ·exact hJ.lt k hk
  ·rcases (fK hsz k).1 hk with rfl | h
   ·simp
   ·exact H8 _ (hJ.sub k h)
  ·rcases jB.1 hk with rfl | hk
   ·exact H8 _ (hJ.sub q (hpre q hqm))
   ·exact H8 _ (hJ.ecl k hk q hqm)
  ·have hki:k≠i:=λe=>by
    rw [(fK hsz k).2 (.inl e)] at hk2;simp at hk2
   have hkE:k∈E:=by
    rcases jB.1 hk with h | h
    ·exact absurd h hki
    ·exact h
   have hkl:listed.getD k false=false:=by
    cases hb:listed.getD k false
    ·rfl
    ·rw [(fK hsz k).2 (.inr hb)] at hk2;simp at hk2
   have hqk:p.quiet k=true:=by
    cases hb:p.quiet k
    ·rw [hJ.heavy k hkE hb] at hkl;simp at hkl
    ·rfl
   by_cases hqo:fG o.op=true
   ·have hT:=hqT hqo;subst hT;rw [J5 (s':=st.s) ?_ ?_]
    ·exact hJ.pend k hkE hkl ok hok
    ·intro t ht;refine AS λe=>?_;rcases hp.rds i k o ok t ho hok e ht hq hqk with h1 | h1
     ·exact hi (hJ.ecl k hkE i h1)
     ·rw [hpre k h1] at hkl;simp at hkl
    ·cases hdk:ok.dst with
     | none=>rfl
     | some dk =>
      simp only [lA,Option.some.injEq];exact AS λe=>hki (hp.dst i k o ok dk ho hok e hdk)
   ·rw [if_neg hqo] at hck;refine (J4.1 hck) ok ?_;simp only [Plan.pend,Xa,uD,lN,Gl,List.any_eq_false];refine ⟨k,⟨hk,hqk,λh hm hb=>?_⟩,hok⟩;simp only [Gj,decide_eq_true_eq] at hb;rw [hclo h (hheavy h hm hb.1) k hb.2] at hk2;simp at hk2
  ·by_cases ht:o.dst=some t
   ·simp only [ht,SK,true_or]
   ·simp only [AS ht];rcases hs t with h | ⟨k,ok,h1,h2,h3,h4⟩
    ·exact .inl h
    ·refine .inr ⟨k,ok,by simp [h1],?_,h3,h4⟩;cases hb:(listed.setIfInBounds i true).getD k false
     ·rfl
     ·rcases (fK hsz k).1 hb with rfl | h
      ·exact absurd h1 hi
      ·rw [h2] at h;simp at h
 refine UU hc' hcomp hS ?_;have hwe:dM s' o.guard=dM st.s o.guard:=xX λj b e=>hrs j (by simp [Rs,e]);simp only [hwe]
 cases hwv:dM st.s o.guard with
 | none=>simp [hwv] at hw
 | some b =>
  rw [hwv] at hw
  cases b with
  | false =>
   simp only at hw ⊢;exact λa' w' hS'=>fin _ _ a' w' hw.1 (λ_=>rfl) hw.2 hS'
  | true =>
   simp only at hw ⊢;rw [M6 (s':=st.s) λt ht=>hrs t (by simp only [Rs,eM];exact .inl ht)];refine AR (λx T h a' w' hS'=>?_) (WF hw);exact fin x T a' w' h.1.1 h.2 h.1.2 hS'
def QI {gc:Bool} {n:Nat} {c:Bool} {G:Nat→Option (List AV)} {K:St→Prop}:∀ {l:List Nat} {hd:HD},l.foldr (λi acc=>match acc,p.hops[i]?,IF p n (gc||c) (i::E) with
    | some t,some o,some x=>some (.alt o (if fG o.op then [] else p.pend (i::E)) x t)
    | _,_,_=>none) (some .no)=some hd→DT P G hd st K→∀ i∈l,∃ o x,p.hops[i]?=some o∧IF p n (gc||c) (i::E)=some x∧(match dM st.s o.guard with
  | some true=>rV P G st o.op λy T=>lT G ⟨st.r,dH st.s o.dst y,T⟩ (if fG o.op then [] else p.pend (i::E))∧DT P G x ⟨st.r,dH st.s o.dst y,T⟩ K
  | some false=>lT G ⟨st.r,dH st.s o.dst (.v undef),st.T⟩ (if fG o.op then [] else p.pend (i::E))∧DT P G x ⟨st.r,dH st.s o.dst (.v undef),st.T⟩ K
  | none=>False)
 | [],hd,_,_,i,hi=>by simp at hi
 | j::l,hd,he,hw,i,hi=>by
  simp only [List.foldr_cons] at he;split at he
  ·rename_i t o x h1 h2 h3;injection he with he;subst he;simp only [DT] at hw;rcases jB.1 hi with rfl | hi
   ·exact ⟨o,x,h2,h3,hw.1⟩
   ·exact QI h1 hw.2 i hi
  ·simp at he
def zK {α β:Type} (f:α→β):∀ (l:List α) (j:Nat),(l.map f).eraseIdx j=(l.eraseIdx j).map f
 | [],_=>by simp
 | x::l,0=>by simp
 | x::l,j+1=>by simp [zK f l j]
def QJ {E E':List Nat} (h:∀ x,E.contains x=E'.contains x):p.ready E=p.ready E':=by
 unfold Plan.ready;refine List.filter_congr λi _=>?_;rw [h,show E.contains=E'.contains from funext h]
def SN {E E':List Nat} (h:∀ x,E.contains x=E'.contains x):(p.pend E).isEmpty=(p.pend E').isEmpty:=by
 have hm:∀ x,x∈E↔x∈E':=λx=>by
  have:=h x;simp only [Gj] at this;exact decide_eq_decide.1 this
 have ha:∀ q,(E.any λk=>!p.quiet k&&(p.p k).contains q)=(E'.any λk=>!p.quiet k&&(p.p k).contains q):=λq=>by
  rw [rX,T7,T7];exact ⟨λ⟨k,h1,h2⟩=>⟨k,(hm k).1 h1,h2⟩,λ⟨k,h1,h2⟩=>⟨k,(hm k).2 h1,h2⟩⟩
 have key:∀ {E E':List Nat},(∀ x,x∈E↔x∈E')→(∀ q,(E.any λk=>!p.quiet k&&(p.p k).contains q)=(E'.any λk=>!p.quiet k&&(p.p k).contains q))→∀ o,o∈p.pend E→o∈p.pend E':=λhm ha o ho=>by
  simp only [Plan.pend,Xa,uD,ha] at ho ⊢;obtain ⟨q,⟨h1,h2⟩,h3⟩:=ho;exact ⟨q,⟨(hm q).1 h1,h2⟩,h3⟩
 rw [rX,Xo,Xo];constructor
 ·intro h0;exact Tp.2 λo ho=>by
   have:=key (λx=>(hm x).symm) (λq=>(ha q).symm) o ho;rw [h0] at this;simp at this
 ·intro h0;exact Tp.2 λo ho=>by
   have:=key hm ha o ho;rw [h0] at this;simp at this
def M7:∀ (n:Nat) (gc:Bool) (E E':List Nat),(∀ x,E.contains x=E'.contains x)→Rt p n gc E=Rt p n gc E'
 | 0,_,_,_,_=>rfl
 | n+1,gc,E,E',h=>by
  have hi:∀ i x,(i::E).contains x=(i::E').contains x:=λi x=>by simp only [Xm,h]
  simp only [Rt,QJ h];have h1:∀ i,Rt p n gc (i::E)=Rt p n gc (i::E'):=λi=>M7 n gc _ _ (hi i);have h2:∀ i,(p.pend (i::E)).isEmpty=(p.pend (i::E')).isEmpty:=λi=>SN (hi i)
  cases (p.ready E').find? p.quiet with
  | some i=>simp only;rw [h1 i]
  | none =>
   simp only;rcases p.ready E' with _ | ⟨i,_ | ⟨j,cs⟩⟩
   ·rfl
   ·simp only;rw [h1 i,h2 i]
   ·rfl
def KA:∀ (n:Nat) (gc:Bool) (E:List Nat) (hd:HD),Rt p n gc E=some hd→IF p n gc E=some hd
 | 0,_,_,_,h=>by simp [Rt] at h
 | n+1,gc,E,hd,h=>by
  simp only [Rt] at h;simp only [IF]
  cases hf:(p.ready E).find? p.quiet with
  | some i =>
   rw [hf] at h;simp only at h ⊢
   cases ho:p.hops[i]? with
   | none=>rw [ho] at h;simp at h
   | some o =>
    rw [ho] at h;simp only at h ⊢
    cases hq:Rt p n gc (i::E) with
    | none=>simp [hq] at h
    | some x=>rw [hq] at h;rw [KA n gc _ _ hq];exact h
  | none =>
   rw [hf] at h;simp only at h ⊢;rcases hr:p.ready E with _ | ⟨i,_ | ⟨j,cs⟩⟩
   ·rw [hr] at h;exact h
   ·rw [hr] at h;simp only at h ⊢
    cases ho:p.hops[i]? with
    | none=>rw [ho] at h;simp at h
    | some o =>
     rw [ho] at h;simp only at h;split at h
     ·rename_i hp0
      cases hq:Rt p n gc (i::E) with
      | none=>simp [hq] at h
      | some x =>
       rw [hq] at h;have h0:p.pend (i::E)=[]:=Xo.1 hp0;have hx:=KA n gc _ _ hq;simp only [lA,Option.some.injEq] at h;subst h;simp [ho,hx,h0]
     ·simp at h
   ·rw [hr] at h;simp at h
def YK {G:Nat→Option (List AV)} {st:St} {l l':List HOper} (h:∀ o∈l',o∈l) (hc:lT G st l):lT G st l':=J4.2 λo ho=>J4.1 hc o (h o ho)
def KB (hp:PlanOk p ops) (hh:∀ (i:Nat) ho,p.hops[i]?=some ho→∃ o,ops[i]?=some o∧(mX P N ops o).map (EL H)=some ho) {l E0:List Nat} (hl1:∀ i∈l,p.quiet i=false) (hl2:∀ i∈l,∃ o,p.hops[i]?=some o) (hl3:J3 p E0 l=true) (hne:∀ i∈l,i∉E0)
  {K:St→Prop} (hfin:∀ (E:List Nat) (st:St),(∀ x,E.contains x=(l++E0).contains x)→K st→∀ (fuel:Nat) (listed:Array Bool) (a:Act) (w:World),Drawn P G N h0 φ0 T0 w0 p E st listed a w→Hs listed p.hops.length≤fuel→wpAnyIn (fe ro) 0 P .any ops Q fuel listed a w) :
  ∀ (n:Nat) (R E:List Nat) (st:St),R.length=n→(∀ i∈R,i∈l)→(∀ i,i∈E↔(i∈l∧i∉R)∨i∈E0)→R.Nodup→Fe P G ((E0.filter p.quiet).filterMap λq=>p.hops[q]?) n (R.map λi=>(p.hops[i]?).getD default) st K →
  ∀ (fuel:Nat) (listed:Array Bool) (a:Act) (w:World),Drawn P G N h0 φ0 T0 w0 p E st listed a w→Hs listed p.hops.length≤fuel→wpAnyIn (fe ro) 0 P .any ops Q fuel listed a w
 | 0,R,E,st,hR,hRl,hE,hnd,hw=>by
  have:R=[]:=H7 hR;subst this;refine hfin E st (λx=>?_) hw;rw [rX];simp [hE]
 | n+1,R,E,st,hR,hRl,hE,hnd,hw=>by
  have hrdy:∀ k,k∈p.ready E→k∈R:=λk hk=>by
   simp only [Plan.ready,uD,sH,lN,Gl,Gj,decide_eq_false_iff_not,lF,decide_eq_true_eq] at hk;obtain ⟨hk1,hk2,hk3⟩:=hk;have h1:=hl3;simp only [J3,lF,sH,Hj,Gj,decide_eq_true_eq] at h1;rcases h1 k hk1 with (h2 | h2) | h2
   ·exact absurd ((hE k).2 (.inr h2)) hk2
   ·apply Tu;intro h3;exact hk2 ((hE k).2 (.inl ⟨h2,h3⟩))
   ·cases R with
    | nil=>simp at hR
    | cons r R =>
     have hr:=hRl r Gk;have h4:=hk3 r (h2 r hr);rcases (hE r).1 h4 with h5 | h5
     ·exact absurd Gk h5.2
     ·exact absurd h5 (hne r hr)
  have step:∀ (fuel:Nat),(∀ (listed:Array Bool) (a:Act) (w:World),Drawn P G N h0 φ0 T0 w0 p E st listed a w→Hs listed p.hops.length≤fuel→wpAnyIn (fe ro) 0 P .any ops Q fuel listed a w) →
    ∀ (listed:Array Bool) (a:Act) (w:World),Drawn P G N h0 φ0 T0 w0 p E st listed a w→Hs listed p.hops.length≤fuel+1→∀ i∈Region.ready .any ops listed,wpOpIn (fe ro) 0 P ops Q i (wpAnyIn (fe ro) 0 P .any ops Q fuel (listed.setIfInBounds i true)) a w:=by
   intro fuel ih listed a w hJ hf i hi;obtain ⟨hul,hlt,_,hpre⟩:=qJ hp hJ hi;have hf':Hs (listed.setIfInBounds i true) p.hops.length≤fuel:=by
    have:=I3 (by rw [hJ.size];exact hlt) hul hlt;omega
   by_cases hiE:i∈E
   ·exact SL hp hh hJ hi hiE λa' w' hJ'=>ih _ a' w' hJ' hf'
   ·have hri:i∈p.ready E:=by
     simp only [Plan.ready,uD,sH,lN,Gl,Gj,decide_eq_false_iff_not,lF,decide_eq_true_eq];exact ⟨hlt,hiE,λq hq=>hJ.sub q (hpre q hq)⟩
    have hiR:=hrdy i hri;have hil:=hRl i hiR;obtain ⟨o,ho⟩:=hl2 i hil;obtain ⟨j,hj,hji⟩:=List.mem_iff_getElem.1 hiR;have hoj:(R.map λi=>(p.hops[i]?).getD default)[j]?=some o:=by simp [hj,hji,ho]
    have hwj:=hw j o hoj;have hmemE:∀ k,k∈R.eraseIdx j↔k∈R∧k≠i:=λk=>by
     rw [List.mem_eraseIdx_iff_getElem];constructor
     ·rintro ⟨q,hq,hqj,rfl⟩;exact ⟨iN hq,λe=>hqj ((Mk hnd).1 (e.trans hji.symm))⟩
     ·rintro ⟨h1,h2⟩;obtain ⟨q,hq,rfl⟩:=List.mem_iff_getElem.1 h1;exact ⟨q,hq,λe=>h2 (by subst e;exact hji),rfl⟩
    have hpend:∀ q∈p.pend (i::E),q∈(E0.filter p.quiet).filterMap λq=>p.hops[q]?:=λq hq=>by
     simp only [Plan.pend,Xa,uD,lN] at hq ⊢;obtain ⟨k,⟨hk1,hk2,_⟩,hk3⟩:=hq;refine ⟨k,⟨?_,hk2⟩,hk3⟩;rcases jB.1 hk1 with rfl | hk1
     ·rw [hl1 k hil] at hk2;simp at hk2
     ·rcases (hE k).1 hk1 with h5 | h5
      ·rw [hl1 k h5.1] at hk2;simp at hk2
      ·exact h5
    have hchk:∀ s,lT G s ((E0.filter p.quiet).filterMap λq=>p.hops[q]?)→lT G s (if fG o.op then [] else p.pend (i::E)):=λs hc=>by
     split
     ·trivial
     ·exact YK hpend hc
    refine SM hp hh hJ hi hiE (hl1 i hil) ho (K:=λx T=>Fe P G ((E0.filter p.quiet).filterMap λq=>p.hops[q]?) n ((R.eraseIdx j).map λi=>(p.hops[i]?).getD default) ⟨st.r,dH st.s o.dst x,T⟩ K) ?_ ?_
    ·have hmap:(R.map λi=>(p.hops[i]?).getD default).eraseIdx j=(R.eraseIdx j).map λi=>(p.hops[i]?).getD default:=zK _ R j;rw [hmap] at hwj
     cases hwt:dM st.s o.guard with
     | none=>rw [hwt] at hwj;exact hwj
     | some b =>
      rw [hwt] at hwj
      cases b with
      | true=>exact AR (λx T ⟨h1,h2⟩=>⟨hchk _ h1,h2⟩) hwj
      | false=>exact ⟨hchk _ hwj.1,hwj.2⟩
    ·intro x T a' w' hk hJ';refine KB hp hh hl1 hl2 hl3 hne hfin n (R.eraseIdx j) (i::E) _ (by rw [XX hj];omega) (λk hk=>hRl k ((hmemE k).1 hk).1) (λk=>?_) (hnd.eraseIdx j) hk fuel _ a' w' hJ' hf';rw [jB,hE,hmemE];constructor
     ·rintro (rfl | h | h)
      ·exact .inl ⟨hil,λh=>h.2 rfl⟩
      ·exact .inl ⟨h.1,λh2=>h.2 h2.1⟩
      ·exact .inr h
     ·rintro (h | h)
      ·by_cases hki:k=i
       ·exact .inl hki
       ·exact .inr (.inl ⟨h.1,λh2=>h.2 ⟨h2,hki⟩⟩)
      ·exact .inr (.inr h)
  intro fuel
  induction fuel with
  | zero =>
   intro listed a w hJ hf;exfalso;have hall:=Fu (Ps.1 hf)
   cases R with
   | nil=>simp at hR
   | cons r R =>
    have hr:=hRl r Gk;obtain ⟨o,ho⟩:=hl2 r hr;have h4:=hJ.sub r (hall r (vE.1 ho).1);rcases (hE r).1 h4 with h5 | h5
    ·exact absurd Gk h5.2
    ·exact absurd h5 (hne r hr)
  | succ fuel ih =>
   intro listed a w hJ hf;refine ⟨λhr=>?_,step fuel (λl a w=>ih l a w) listed a w hJ hf⟩;exfalso;have hall:=G0 hp hJ.size hr
   cases R with
   | nil=>simp at hR
   | cons r R =>
    have hr:=hRl r Gk;obtain ⟨o,ho⟩:=hl2 r hr;have h4:=hJ.sub r (hall r (vE.1 ho).1);rcases (hE r).1 h4 with h5 | h5
    ·exact absurd Gk h5.2
    ·exact absurd h5 (hne r hr)
def BA (hp:PlanOk p ops) (hh:∀ (i:Nat) ho,p.hops[i]?=some ho→∃ o,ops[i]?=some o∧(mX P N ops o).map (EL H)=some ho) {K:St→Prop}
  (hn:∀ st' a' w',K st'→SInv P G N h0 φ0 T0 w0 st' a' w'→Q .normal a' w'):∀ (n:Nat) (gc:Bool) (E:List Nat) (st:St),sB P G p n gc E st K →
  ∀ (fuel:Nat) (listed:Array Bool) (a:Act) (w:World),Drawn P G N h0 φ0 T0 w0 p E st listed a w→Hs listed p.hops.length≤fuel→wpAnyIn (fe ro) 0 P .any ops Q fuel listed a w
 | 0,gc,E,st,hw=>hw.elim
 | n+1,gc,E,st,hw=>by
  intro fuel listed a w hJ hf;simp only [sB] at hw;split at hw
  ·rename_i i hfi;have hri:=Pb hfi;have hqi:=List.find?_some hfi;split at hw
   ·rename_i o ho;split at hw
    ·rename_i hwt;split at hw
     ·rename_i x T' he;exact BA hp hh hn n gc (i::E) _ hw fuel listed a w (I4 hp hJ hri hqi ho (.inl ⟨hwt,T',he⟩)) hf
     ·exact hw.elim
    ·rename_i hwt;exact BA hp hh hn n gc (i::E) _ hw fuel listed a w (I4 hp hJ hri hqi ho (.inr ⟨hwt,rfl⟩)) hf
    ·exact hw.elim
   ·exact hw.elim
  ·rename_i hnone;have hnq:∀ i∈p.ready E,p.quiet i=false:=λi hi=>by
    have:=Ls.1 hnone i hi;simpa using this
   have step:∀ (fuel:Nat),(∀ (listed:Array Bool) (a:Act) (w:World),Drawn P G N h0 φ0 T0 w0 p E st listed a w→Hs listed p.hops.length≤fuel→wpAnyIn (fe ro) 0 P .any ops Q fuel listed a w) →
     ∀ (listed:Array Bool) (a:Act) (w:World),Drawn P G N h0 φ0 T0 w0 p E st listed a w→Hs listed p.hops.length≤fuel+1→∀ i∈Region.ready .any ops listed,wpOpIn (fe ro) 0 P ops Q i (wpAnyIn (fe ro) 0 P .any ops Q fuel (listed.setIfInBounds i true)) a w:=by
    intro fuel ih listed a w hJ hf i hi;obtain ⟨hul,hlt,_,hpre⟩:=qJ hp hJ hi;have hf':Hs (listed.setIfInBounds i true) p.hops.length≤fuel:=by
     have:=I3 (by rw [hJ.size];exact hlt) hul hlt;omega
    by_cases hiE:i∈E
    ·exact SL hp hh hJ hi hiE λa' w' hJ'=>ih _ a' w' hJ' hf'
    ·have hri:i∈p.ready E:=by
      simp only [Plan.ready,uD,sH,lN,Gl,Gj,decide_eq_false_iff_not,lF,decide_eq_true_eq];exact ⟨hlt,hiE,λq hq=>hJ.sub q (hpre q hq)⟩
     split at hw
     ·rename_i he;rw [he] at hri;simp at hri
     ·rename_i c cs he;rw [he] at hri;obtain ⟨o,h1,h3⟩:=hw i hri;exact SM hp hh hJ hi hiE (hnq i (by rw [he];exact hri)) h1 (K:=λy T=>sB P G p n (gc||!cs.isEmpty) (i::E) ⟨st.r,dH st.s o.dst y,T⟩ K) h3 λy T a' w' hk hJ'=>BA hp hh hn n _ (i::E) _ hk fuel _ a' w' hJ' hf'
   have fin:∀ (listed:Array Bool) (a:Act) (w:World),Drawn P G N h0 φ0 T0 w0 p E st listed a w→(∀ i,i<p.hops.length→listed.getD i false=true)→Q .normal a w:=by
    intro listed a w hJ hall;split at hw
    ·obtain ⟨s',hs,hS⟩:=hJ.inv;have hS':SInv P G N h0 φ0 T0 w0 st a w:=by
      obtain ⟨hr,_,⟨h,φ,hG,hE,hI,hSl⟩,hsz,hdf⟩:=hS;refine ⟨hr,hJ.once,⟨h,φ,hG,hE,hI,λt=>?_⟩,hsz,hdf⟩;have h1:=hSl t;rcases hs t with h2 | ⟨k,ok,h2,h3,_⟩
      ·simp only at h1;rw [h2] at h1;exact h1
      ·rw [hall k (hJ.lt k h2)] at h3;simp at h3
     refine hn _ a w hw ?_;split
     ·exact Ca _ hS'
     ·exact hS'
    ·rename_i c cs he;have hc:c∈p.ready E:=by rw [he];simp
     simp only [Plan.ready,uD,sH,lN,Gl,Gj,decide_eq_false_iff_not] at hc;exact absurd (hJ.sub c (hall c hc.1)) hc.2.1
   refine (?_:∀ (fuel:Nat) (listed:Array Bool) (a:Act) (w:World),Drawn P G N h0 φ0 T0 w0 p E st listed a w→Hs listed p.hops.length≤fuel→wpAnyIn (fe ro) 0 P .any ops Q fuel listed a w) fuel listed a w hJ hf;clear hf hJ listed a w fuel;intro fuel listed a w
   induction fuel generalizing listed a w with
   | zero =>
    intro hJ hf;have hall:=Fu (Ps.1 hf);refine ⟨?_,fin listed a w hJ hall⟩
    cases hr:Region.ready .any ops listed with
    | nil=>rfl
    | cons i l =>
     obtain ⟨hul,hlt,_,_⟩:=qJ hp hJ (i:=i) (by rw [hr];simp);rw [hall i hlt] at hul;simp at hul
   | succ fuel ih =>
    intro hJ hf;exact ⟨λhr=>fin listed a w hJ (G0 hp hJ.size hr),step fuel (λl a w=>ih l a w) listed a w hJ hf⟩
def Cc (hp:PlanOk p ops) (hh:∀ (i:Nat) ho,p.hops[i]?=some ho→∃ o,ops[i]?=some o∧(mX P N ops o).map (EL H)=some ho) {K:St→Prop}
  (hn:∀ st' a' w',K st'→SInv P G N h0 φ0 T0 w0 st' a' w'→Q .normal a' w'):∀ (n:Nat) (gc:Bool) (E:List Nat) (hd:HD) (st:St),IF p n gc E=some hd→DT P G hd st K →
  ∀ (fuel:Nat) (listed:Array Bool) (a:Act) (w:World),Drawn P G N h0 φ0 T0 w0 p E st listed a w→Hs listed p.hops.length≤fuel→wpAnyIn (fe ro) 0 P .any ops Q fuel listed a w
 | 0,gc,E,hd,st,hm,_=>by simp [IF] at hm
 | n+1,gc,E,hd,st,hm,hw=>by
  intro fuel listed a w hJ hf;simp only [IF] at hm;split at hm
  ·
   rename_i i hfi;have hri:=Pb hfi;have hqi:=List.find?_some hfi;split at hm
   ·rename_i o ho
    cases hx:IF p n gc (i::E) with
    | none=>simp [hx] at hm
    | some hd' =>
     simp only [hx,lA,Option.some.injEq] at hm;subst hm;simp only [DT] at hw;split at hw
     ·rename_i hwt;split at hw
      ·rename_i x T' he;exact Cc hp hh hn n gc (i::E) hd' _ hx hw fuel listed a w (I4 hp hJ hri hqi ho (.inl ⟨hwt,T',he⟩)) hf
      ·exact hw.elim
     ·rename_i hwt;exact Cc hp hh hn n gc (i::E) hd' _ hx hw fuel listed a w (I4 hp hJ hri hqi ho (.inr ⟨hwt,rfl⟩)) hf
     ·exact hw.elim
   ·simp at hm
  ·rename_i hnone;have hnq:∀ i∈p.ready E,p.quiet i=false:=λi hi=>by
    have:=Ls.1 hnone i hi;simpa using this
   by_cases hperm:∃ c cs,p.ready E=c::cs∧(8≤cs.length&&J3 p E (c::cs)&&(Rt p n true ((c::cs)++E)).isSome)=true
   ·obtain ⟨c,cs,he,hb⟩:=hperm;rw [he] at hm;simp only [hb,if_true] at hm
    cases hq:Rt p n true ((c::cs)++E) with
    | none=>rw [hq] at hm;simp at hm
    | some x =>
     rw [hq] at hm;simp only [lA,Option.some.injEq] at hm;subst hm;simp only [DT] at hw;rw [aL] at hw;have hb2:J3 p E (c::cs)=true:=by simp only [lN] at hb;exact hb.1.2
     have hmem:∀ i∈c::cs,i<p.hops.length∧i∉E:=λi hi=>by
      rw [←he] at hi;simp only [Plan.ready,uD,sH,lN,Gl,Gj,decide_eq_false_iff_not] at hi;exact ⟨hi.1,hi.2.1⟩
     have hnd:(c::cs).Nodup:=by rw [←he];exact List.Pairwise.filter _ List.nodup_range
     exact KB hp hh (l:=c::cs) (E0:=E) (λi hi=>hnq i (by rw [he];exact hi)) (λi hi=>⟨_,nQ (hmem i hi).1⟩) hb2 (λi hi=>(hmem i hi).2)
      (λE2 st2 hE2 hk fuel listed a w hJ hf=>Cc hp hh hn n true E2 x st2 (KA _ _ _ _ ((M7 n true E2 _ hE2).trans hq)) hk fuel listed a w hJ hf)
      (c::cs).length (c::cs) E st rfl (λ_ h=>h) (λi=>⟨λh=>.inr h,λh=>h.elim (λh=>absurd h.1 h.2) id⟩) hnd hw fuel listed a w hJ hf
   by_cases hplan:∃ c cs,p.ready E=c::cs∧(!cs.isEmpty&&12≤((List.range p.hops.length).filter λk=>!E.contains k&&!p.quiet k).length)=true
   ·obtain ⟨c,cs,he,hb⟩:=hplan;rw [he] at hm;simp only at hm;rw [if_neg (λh=>hperm ⟨c,cs,he,h⟩),if_pos hb] at hm;injection hm with hm;subst hm;simp only [DT] at hw;exact BA hp hh hn n gc E st hw fuel listed a w hJ hf
   replace hm:(match p.ready E with
    | []=>some (.done gc)
    | c::cs=>(c::cs).foldr (λi acc=>match acc,p.hops[i]?,IF p n (gc||(!p.ng&&!cs.isEmpty)) (i::E) with
     | some t,some o,some x=>some (.alt o (if fG o.op then [] else p.pend (i::E)) x t)
     | _,_,_=>none) (some .no))=some hd:=by
    cases he:p.ready E with
    | nil=>rw [he] at hm;exact hm
    | cons c cs =>
     rw [he] at hm
     simp only at hm ⊢
     rw [if_neg (λh=>hperm ⟨c,cs,he,h⟩),if_neg (λh=>hplan ⟨c,cs,he,h⟩)] at hm
     exact hm
   have step:∀ (fuel:Nat),(∀ (listed:Array Bool) (a:Act) (w:World),Drawn P G N h0 φ0 T0 w0 p E st listed a w→Hs listed p.hops.length≤fuel→wpAnyIn (fe ro) 0 P .any ops Q fuel listed a w) →
     ∀ (listed:Array Bool) (a:Act) (w:World),Drawn P G N h0 φ0 T0 w0 p E st listed a w→Hs listed p.hops.length≤fuel+1→∀ i∈Region.ready .any ops listed,wpOpIn (fe ro) 0 P ops Q i (wpAnyIn (fe ro) 0 P .any ops Q fuel (listed.setIfInBounds i true)) a w:=by
    intro fuel ih listed a w hJ hf i hi;obtain ⟨hul,hlt,_,hpre⟩:=qJ hp hJ hi;have hf':Hs (listed.setIfInBounds i true) p.hops.length≤fuel:=by
     have:=I3 (by rw [hJ.size];exact hlt) hul hlt;omega
    by_cases hiE:i∈E
    ·exact SL hp hh hJ hi hiE λa' w' hJ'=>ih _ a' w' hJ' hf'
    ·have hri:i∈p.ready E:=by
      simp only [Plan.ready,uD,sH,lN,Gl,Gj,decide_eq_false_iff_not,lF,decide_eq_true_eq];exact ⟨hlt,hiE,λq hq=>hJ.sub q (hpre q hq)⟩
     split at hm
     ·rename_i he;rw [he] at hri;simp at hri
     ·rename_i c cs he;rw [he] at hri;obtain ⟨o,x,h1,h2,h3⟩:=QI hm hw i hri;exact SM hp hh hJ hi hiE (hnq i (by rw [he];exact hri)) h1 h3 λy T a' w' hk hJ'=>Cc hp hh hn n _ (i::E) x _ h2 hk fuel _ a' w' hJ' hf'
   have fin:∀ (listed:Array Bool) (a:Act) (w:World),Drawn P G N h0 φ0 T0 w0 p E st listed a w→(∀ i,i<p.hops.length→listed.getD i false=true)→Q .normal a w:=by
    intro listed a w hJ hall;split at hm
    ·injection hm with hm;subst hm;simp only [DT] at hw;obtain ⟨s',hs,hS⟩:=hJ.inv;have hS':SInv P G N h0 φ0 T0 w0 st a w:=by
      obtain ⟨hr,_,⟨h,φ,hG,hE,hI,hSl⟩,hsz,hdf⟩:=hS;refine ⟨hr,hJ.once,⟨h,φ,hG,hE,hI,λt=>?_⟩,hsz,hdf⟩;have h1:=hSl t;rcases hs t with h2 | ⟨k,ok,h2,h3,_⟩
      ·simp only at h1;rw [h2] at h1;exact h1
      ·rw [hall k (hJ.lt k h2)] at h3;simp at h3
     refine hn _ a w hw ?_;split
     ·exact Ca _ hS'
     ·exact hS'
    ·rename_i c cs he;have hc:c∈p.ready E:=by rw [he];simp
     simp only [Plan.ready,uD,sH,lN,Gl,Gj,decide_eq_false_iff_not] at hc;exact absurd (hJ.sub c (hall c hc.1)) hc.2.1
   refine (?_:∀ (fuel:Nat) (listed:Array Bool) (a:Act) (w:World),Drawn P G N h0 φ0 T0 w0 p E st listed a w→Hs listed p.hops.length≤fuel→wpAnyIn (fe ro) 0 P .any ops Q fuel listed a w) fuel listed a w hJ hf;clear hf hJ listed a w fuel;intro fuel listed a w
   induction fuel generalizing listed a w with
   | zero =>
    intro hJ hf;have hall:=Fu (Ps.1 hf);refine ⟨?_,fin listed a w hJ hall⟩
    cases hr:Region.ready .any ops listed with
    | nil=>rfl
    | cons i l =>
     obtain ⟨hul,hlt,_,_⟩:=qJ hp hJ (i:=i) (by rw [hr];simp);rw [hall i hlt] at hul;simp at hul
   | succ fuel ih =>
    intro hJ hf;exact ⟨λhr=>fin listed a w hJ (G0 hp hJ.size hr),step fuel (λl a w=>ih l a w) listed a w hJ hf⟩
def SO {hd:HD} {K:St→Prop} (hc:Ft P N H ops=some hd) (hw:DT P G hd st K) (hS:SInv P G N h0 φ0 T0 w0 st a w)
  (hn:∀ st' a' w',K st'→SInv P G N h0 φ0 T0 w0 st' a' w'→Q .normal a' w'):wpAnyIn (fe ro) 0 P .any ops Q ops.size (Array.replicate ops.size false) a w:=by
 unfold Ft at hc;split at hc
 ·simp at hc
 ·rename_i hl hcl;simp only at hc;generalize SI ops.toList []++(if (H.any λx=>x.2.2==1002)=true then [[]] else [])=pr at hc;split at hc
  ·rename_i hok;simp only [lN,beq_iff_eq] at hok;obtain ⟨hl0,hcl0,hcle⟩:=Xc.1 hcl;obtain ⟨hlen,hget⟩:=Ht hcl0;have hp:=aAA hok.2 hok.1;have hf:∀ i,(Array.replicate ops.size false).getD i false=false:=λi=>by simp [PY,Array.getElem?_replicate];split<;>rfl
   refine Cc (H:=H) hp (λi ho hi=>?_) hn _ _ [] hd st hc hw _ _ a w ⟨by simpa using hok.2.symm,by simp,λi h=>by rw [hf] at h;simp at h,λi h=>by rw [hf] at h;simp at h,by simp,by simp,by simp,hS.once,st.s,λt=>.inl rfl,hS⟩ ?_
   ·rw [←hcle,lO] at hi;obtain ⟨ho0,hi0,hi1⟩:=Xc.1 hi;obtain ⟨o,h1,h2⟩:=hget i ho0 hi0;exact ⟨o,by simpa using h1,by rw [h2,lA,hi1]⟩
   ·have:∀ m,Hs (Array.replicate ops.size false) m=m:=λm=>by
     induction m with
     | zero=>rfl
     | succ m ih=>simp only [Hs,ih,hf];simp
    rw [this];exact Nat.le_of_eq hok.2
  ·simp at hc
end
def SInv.drawn {P:Program} {G:Nat→Option (List AV)} {N:Nat} {h0:GH} {φ0:Nat→Value} {T0:aH} {w0:World} {st:St} {a:Act} {w:World} (hS:SInv P G N h0 φ0 T0 w0 st a w) :
  SInv P G N h0 φ0 T0 w0 st a { w with drawn:=w.drawn+1 }:=by
 obtain ⟨hr,honce,⟨h,φ,hG,hE,hI,hSl⟩,hsz,hdf⟩:=hS;exact ⟨hr,honce,⟨h,φ,hG,⟨hE.os,hE.tape,hE.output,hE.size,hE.frame,hE.le,hE.gfr,hE.phi,hE.org,hE.len,B7 hE.drawn (Hk _)⟩,⟨hI.gh,hI.obj,hI.dis⟩,hSl⟩,hsz,hdf⟩
end
section
def aHT {T:aH} {i:Nat} {o:AObj} (e:T[i]?=some (some o)):i<T.length:=by
 rcases gM i T.length with hh | hh
 ·exact hh
 ·rw [oW hh] at e;simp at e
def Dc {w:World} {l:Nat} {o:Obj} (e:w.heap[l]?=some o):l<w.heap.size:=by
 rcases gM l w.heap.size with hh | hh
 ·exact hh
 ·rw [Nx hh] at e;simp at e
section
variable {h h' h2:GH} {φ φ' φ2:Nat→Value} {T T' X:aH} {w w' w3:World} {l:Nat}
def OH (hI:Inv h φ w T) (hl:∀ i x,T[i]?=some (some x)→iE (φ i)≠some l) (hg:h l=none) (o:Obj):Inv h φ (w.putObj l o) T:=by
 refine ⟨λb cs e=>?_,λi x e=>?_,hI.dis⟩
 ·obtain ⟨E,fr,hw⟩:=hI.gh b cs e;refine ⟨E,fr,?_⟩;rw [World.putObj_heap_other (λhb=>by subst hb;rw [hg] at e;simp at e)];exact hw
 ·have h1:=hI.obj i x e;exact mV h1 (zG.refl h) (cT _) (λ_ _=>rfl) (aHT e) λg hb=>⟨World.putObj_heap_other λhgl=>hl i x e (hgl ▸ hb),(fO h1 hb).2⟩
def aAB (hE:Evo h φ T w h' φ' T' w') (o:Obj):Evo h φ T (w.putObj l o) h' φ' T' (w'.putObj l o):=by
 refine ⟨hE.os,hE.tape,hE.output,by simpa using hE.size,λb hb hn=>?_,hE.le,λb cs e=>?_,hE.phi,λi o b e hb=>?_,hE.len,hE.drawn⟩
 ·rw [World.putObj_size] at hb;by_cases hbl:b=l
  ·subst hbl;rw [World.putObj_heap_same hb,World.putObj_heap_same (AH hb hE.size)]
  ·rw [World.putObj_heap_other hbl,World.putObj_heap_other hbl];exact hE.frame b hb hn
 ·rw [World.putObj_size];exact hE.gfr b cs e
 ·rw [World.putObj_size];exact hE.org i o b e hb
def YL (hI:Inv h φ w T) {i:Nat} {r:Loop} {s:List (Nat×AV)} (hi:bZ T i=some (.lp r s)) :
  ∃ l:Nat,φ i=.func (.yield l) #[] #[]∧w.heap[l]?=some (.loop r)∧h l=none∧(∀ i x y,(i,x)∈s→(i,y)∈s→x=y)∧∀ p∈s,Rp h φ T.length p.2 (r.tmps.getD p.1 undef):=hI.obj i _ (aZ hi)
def YM (hI:Inv h φ w T) {i:Nat} {r:Loop} {s:List (Nat×AV)} (hi:bZ T i=some (.lp r s)) (hφ:φ i=.func (.yield l) #[] #[]):∀ j x,(T.set i none)[j]?=some (some x)→iE (φ j)≠some l:=by
 intro j x e hb;rcases lH e with ⟨_,e'⟩ | ⟨hne,e'⟩
 ·simp at e'
 ·exact hne (hI.dis j i x _ l e' (aZ hi) hb (by rw [hφ];rfl))
def OI (hI:Inv h φ w T) {i:Nat} {r:Loop} {s:List (Nat×AV)} (hi:bZ T i=some (.lp r s)) (hφ:φ i=.func (.yield l) #[] #[]) {o0:Obj}
  (hE:Evo h φ (T.set i none) (w.putObj l o0) h2 φ2 X w3) (hX:Inv h2 φ2 w3 X) (r':Loop) (hr:r'.tmps=r.tmps) :
  Evo h φ T w h2 φ2 (X.set i (some (.lp r' s))) (w3.putObj l (.loop r'))∧Inv h2 φ2 (w3.putObj l (.loop r')) (X.set i (some (.lp r' s))):=by
 obtain ⟨l',e1,e2,e3,e4,e5⟩:=YL hI hi;rw [hφ] at e1;injection e1 with e1 _ _;injection e1 with e1;subst e1;have hlt:l<w.heap.size:=Dc e2;have hilt:=UE hi;have hoff:=YM hI hi hφ;have hlen:T.length≤X.length:=by have:=hE.len;rwa [gG] at this
 have hlt3:l<w3.heap.size:=by have:=hE.size;rw [World.putObj_size] at this;omega
 have hφ2:φ2 i=.func (.yield l) #[] #[]:=by rw [hE.phi i (by rw [gG];exact hilt)];exact hφ
 have up:∀ j x b,(T.set i none)[j]?=some (some x)→iE (φ j)=some b→∃ j o,T[j]?=some (some o)∧iE (φ j)=some b:=by
  intro j x b e hb;rcases lH e with ⟨_,e'⟩ | ⟨_,e'⟩
  ·simp at e'
  ·exact ⟨j,x,e',hb⟩
 have notl:∀ j o,X[j]?=some (some o)→iE (φ2 j)≠some l:=by
  intro j o e hb;rcases hE.org j o l e hb with h1 | ⟨j',o',h1,h2⟩
  ·rw [World.putObj_size] at h1;omega
  ·exact hoff j' o' h1 h2
 have hgh:h2 l=none:=by
  cases hh:h2 l with
  | none=>rfl
  | some cs =>
   rcases hE.gfr l cs hh with h1 | h1 | ⟨j,o,h1,h2⟩
   ·rw [e3] at h1;simp at h1
   ·rw [World.putObj_size] at h1;omega
   ·exact absurd h2 (hoff j o h1)
 have hX':=OH hX notl hgh (.loop r');refine ⟨⟨hE.os,hE.tape,hE.output,by have:=hE.size;simpa using this,λb hb hn=>?_,hE.le,λb cs e=>?_,λj hj=>hE.phi j (by rw [gG];exact hj),λj o b e hb=>?_,by rw [gG];exact hlen,hE.drawn⟩,⟨hX'.gh,λj o e=>?_,λj k oj ok b ej ek hbj hbk=>?_⟩⟩
 ·have hbl:b≠l:=λhbl=>hn i _ (aZ hi) (by rw [hφ,hbl];rfl);rw [World.putObj_heap_other hbl,hE.frame b (by rw [World.putObj_size];exact hb) λj o ej hbj=>?_,World.putObj_heap_other hbl];obtain ⟨j',o',h1,h2⟩:=up j o b ej hbj;exact hn j' o' h1 h2
 ·rcases hE.gfr b cs e with h1 | h1 | ⟨j,o,h1,h2⟩
  ·exact .inl h1
  ·rw [World.putObj_size] at h1;exact .inr (.inl h1)
  ·exact .inr (.inr (up j o b h1 h2))
 ·rcases lH e with ⟨rfl,_⟩ | ⟨_,e'⟩
  ·rw [hφ2] at hb;exact .inr ⟨j,_,aZ hi,by rw [hφ];exact hb⟩
  ·rcases hE.org j o b e' hb with h1 | ⟨j',o',h1,h2⟩
   ·rw [World.putObj_size] at h1;exact .inl h1
   ·exact .inr (up j' o' b h1 h2)
 ·rw [gG];rcases lH e with ⟨rfl,e'⟩ | ⟨_,e'⟩
  ·injection e' with e';subst e';refine ⟨l,hφ2,World.putObj_heap_same hlt3,hgh,e4,λp hp=>?_⟩;rw [hr];exact (e5 p hp).mono hE.le hlen λj hj=>hE.phi j (by rw [gG];exact hj)
  ·exact hX'.obj j o e'
 ·rcases lH ej with ⟨rfl,_⟩ | ⟨_,ej'⟩<;>rcases lH ek with ⟨rfl,_⟩ | ⟨_,ek'⟩
  ·rfl
  ·rw [hφ2] at hbj;simp only [iE,Option.some.injEq] at hbj;subst hbj;exact absurd hbk (notl k ok ek')
  ·rw [hφ2] at hbk;simp only [iE,Option.some.injEq] at hbk;subst hbk;exact absurd hbj (notl j oj ej')
  ·exact hX.dis j k oj ok b ej' ek' hbj hbk
def KD {d:List Nat} {q:Nat×AV}:∀ {s:List (Nat×AV)},q∈EJ d s→q∈s
 | [],h=>by simp [EJ] at h
 | (i,x)::s,h=>by
  simp only [EJ] at h;split at h
  ·rcases jB.1 h with h | h
   ·simp [h]
   ·simp [KD h]
  ·simp [KD h]
def SP {n:Nat} {s:List (Nat×AV)} {t:Array Value} (hs:∀ p∈s,Rp h φ n p.2 (t.getD p.1 undef)):qU h φ n s ⟨t,[]⟩:=by
 intro i;rcases OD (l:=s) (i:=i) with e | e
 ·rw [e];simp [Rp]
 ·exact hs _ e
def M8 {n:Nat}:∀ {ps:List Nat} {xs:List AV} {us:List Value} {s:List (Nat×AV)} {t:Array Value},qU h φ n s ⟨t,[]⟩→Gv s→bK h φ n xs us→xs.length=ps.length→(∀ p∈ps,p<t.size) →
  qU h φ n (uG s ps xs) ⟨(ps.zip us).foldl (λt (p,u)=>t.setIfInBounds p u) t,[]⟩∧Gv (uG s ps xs)∧((ps.zip us).foldl (λt (p,u)=>t.setIfInBounds p u) t).size=t.size
 | [],[],us,s,t,hs,ho,hr,_,_=>by simpa [uG] using ⟨hs,ho⟩
 | [],x::xs,us,s,t,hs,ho,hr,hl,_=>by simp at hl
 | p::ps,[],us,s,t,hs,ho,hr,hl,_=>by simp at hl
 | p::ps,x::xs,us,s,t,hs,ho,hr,hl,hp=>by
  simp only [bK] at hr;obtain ⟨u,us',rfl,h1,h2⟩:=hr;have hs':=Fp (o:=some p) hs h1 (λj hj=>by injection hj with hj;subst hj;exact hp p (by simp));have:=M8 (t:=t.setIfInBounds p u) (s:=CN s p x) hs' (Jz ho p x) h2 (by simpa using hl) (λq hq=>by rw [aBY];exact hp q (by simp [hq]));simpa only [uG,List.zip_cons_cons,Gm,aBY] using this
end
end
section
def Fv (L:List Nat):List Nat→List Nat
 | []=>L
 | i::r=>if L.contains i then Fv L r else Fv (i::L) r
def IG (L d:List Nat):List Nat:=L.filter λi=>!d.contains i
def OJ (ops:Array Oper):List Oper→List Nat→List Nat→List Nat→List Nat×List Nat×List Nat
 | [],e,w,a=>(e,w,a)
 | o::os,e,w,a =>
  let g:=match o.guard with | some (j,_)=>(match (ops[j]?).bind (·.dst) with | some d=>[d] | none=>[]) | none=>[]
  let rd:=IG (g++o.op.operands.toList.flatMap aY) w
  match o.dst with
  | some d=>OJ ops os (Fv e rd) (d::w) (d::a)
  | none=>OJ ops os (Fv e rd) w a
def atE:List (Nat×List Nat)→Nat→List Nat
 | [],_=>[]
 | (i,x)::r,j=>if i=j then x else atE r j
def mY (ex:List (Nat×List Nat)) (rt:List Nat):Code→List Nat→List Nat
 | .region _ ops _,out=>let u:=OJ ops ops.toList [] [] [];Fv u.1 (IG out u.2.1)
 | .seq a b,out=>mY ex rt a (mY ex rt b out)
 | .cond c a b,out=>Fv (Fv (aY c) (mY ex rt a out)) (mY ex rt b out)
 | .block i a,out=>mY ((i,out)::ex) rt a out
 | .loop a,_=>mY ex rt a []
 | .exit i,_=>atE ex i
 | .ret,_=>rt
 | .scope a,out=>mY ex rt a out
 | .rangeFunc g ps a b,out =>
  let ex':=ex.map λp=>(p.1,([]:List Nat))
  Fv (Fv (Fv (aY g) (IG (mY ex' [] a (mY ex' [] b [])) ps.toList)) out) (Fv rt (ex.flatMap (·.2)))
 | _,out=>out
def UX (d:List Nat) (h:HC):HC:=match d with | []=>h | d=>.seq h (.kill d)
def UY (d:List Nat) (h:HC):HC:=match d with | []=>h | d=>.seq (.kill d) h
def WG (wr:List Nat):List (Nat×Option Nat×Nat)→HC→HC
 | [],h=>h
 | (j,c,k)::r,h=>WG wr r (if wr.contains j&&decide (k<1000) then .seq h (match k with | 0=>.shut (c.getD j) | k=>.own j c k) else h)
def aCw (H:List (Nat×Option Nat×Nat)):Option Nat→Option Nat
 | none=>none
 | some d=>match H.find? λx=>x.1==d&&x.2.2==1000 with
  | some x=>some (x.2.1.getD d)
  | none=>none
def YN (H:List (Nat×Option Nat×Nat)):List HOper→List HOper→HC
 | acc,[]=>.reg acc
 | acc,o::os=>match aCw H o.dst with
  | some j=>.seq (.seq (.reg (acc++[o])) (.shut j)) (YN H [] os)
  | none=>YN H (acc++[o]) os
def cA (P:Program) (N:Nat) (H:List (Nat×Option Nat×Nat)):Code→List (Nat×List Nat)→List Nat→List Nat→Option HC
 | .skip,_,_,_=>some .skip
 | .region id ops dr,ex,rt,out =>
  let u:=OJ ops ops.toList [] [] []
  let k:=IG (Fv u.2.2 (mY ex rt (.region id ops dr) out)) out
  if dr then (if P.follows .mixedOrders then (Ft P N H ops).map λd=>WG (IG u.2.2 k) H (UX k (.regd d)) else none)
  else (eG P N ops ops.toList).map λl=>WG (IG u.2.2 k) H (UX k (YN H [] l))
 | .seq a b,ex,rt,out=>match cA P N H a ex rt (mY ex rt b out),cA P N H b ex rt out with
  | some x,some y=>some (.seq x y)
  | _,_=>none
 | .cond c a b,ex,rt,out =>
  let la:=mY ex rt a out
  let lb:=mY ex rt b out
  let all:=Fv (Fv (aY c) la) lb
  match cA P N H a ex rt out,cA P N H b ex rt out with
  | some x,some y=>some (.cond c (UY (IG all la) x) (UY (IG all lb) y))
  | _,_=>none
 | .block i a,ex,rt,out=>(cA P N H a ((i,out)::ex) rt out).map λh=>WG [1000000+i] H (.block i h)
 | .loop a,ex,rt,_=>(cA P N H a ex rt (mY ex rt a [])).map (.loop [])
 | .exit i,_,_,_=>some (.exit i)
 | .ret,_,_,_=>some .ret
 | .scope a,ex,rt,out=>cA P N H a ex rt out
 | .label _,_,_,_=>some .skip
 | .rangeFunc g ps a b,ex,_,_ =>
  let ex':=ex.map λp=>(p.1,([]:List Nat))
  match cA P N H a ex' [] (mY ex' [] b []),cA P N H b ex' [] [] with
  | some x,some y=>if ps.toList.all (· < N) then some (.rng g ps.toList (IG (mY ex' [] a (mY ex' [] b [])) ps.toList) x y) else none
  | _,_=>none
 | _,_,_,_=>none
structure HFun where
 nt:Nat
 res:List (Nat×Option (Option Nat))
 code:HC
 deriving Inhabited
def KE (P:Program):List ResultVar→Option (List (Nat×Option (Option Nat)))
 | []=>some []
 | .tmp t::r=>(KE P r).map ((t,none)::·)
 | .cell a t::r=>match D2 P t with
  | some n=>(KE P r).map ((a,some n)::·)
  | none=>none
def mZ (P:Program) (f:FuncId) (H:List (Nat×Option Nat×Nat)):Option HFun :=
  match P.funcs[f]? with
  | none=>none
  | some fn=>if fn.name == "runtime.NumGoroutine" then none else match fn.body,KE P fn.results.toList with
    | some c,some rs=>let rt:=rs.map (·.1)
      (cA P fn.ntmps H c [] rt rt).map λh=>⟨fn.ntmps,rs,UY (IG (List.range (fn.params.size+fn.nfree)) (mY [] rt c rt)) h⟩
    | _,_=>none
section
variable {P:Program} {G:Nat→Option (List AV)} {N:Nat} {H:List (Nat×Option Nat×Nat)} {h0:GH} {φ0:Nat→Value} {T0:aH} {w0:World} {a:Act} {w:World}
def exQ (Q:Ex→St→Prop):Exit→St→Prop
 | .normal,s=>Q .normal s
 | .exit i,s=>Q (.exit i) s
 | .ret,s=>Q .ret s
 | _,_=>False
def QK {p:Nat→Prop} (h:∃ n,p n):∃ n,p n∧∀ m,m<n→¬p m:=by
 obtain ⟨n,hn⟩:=h
 induction n using Nat.strongRecOn with
 | _ n ih =>
  by_cases hx:∃ m,m<n∧p m
  ·obtain ⟨m,hm,hp⟩:=hx;exact ih m hm hp
  ·exact ⟨n,hn,λm hm hp=>hx ⟨m,hm,hp⟩⟩
def SInv.kill {st:St} (hS:SInv P G N h0 φ0 T0 w0 st a w) (d:List Nat):SInv P G N h0 φ0 T0 w0 ⟨st.r,jL d st.s,st.T⟩ a w:=by
 obtain ⟨hr,honce,⟨h,φ,hG,hE,hI,hSl⟩,hsz,hdf⟩:=hS;have ho:Gv (jL d st.s):=λi x y hx hy=>honce i x y (Fm hx) (Fm hy);refine ⟨hr,ho,⟨h,φ,hG,hE,hI,λi=>?_⟩,hsz,hdf⟩;show Rp h φ st.T.length (aP (jL d st.s) i) _;rcases OD (l:=jL d st.s) (i:=i) with e | e
 ·rw [e];simp [Rp]
 ·rw [←Jy honce (Fm e)];exact hSl i
def WH {d:List Nat} {c:HC} {Q:Ex→St→Prop} {st:St} (h:dD P G (UX d c) Q st):∃ R:Ex→St→Prop,dD P G c R st∧∀ s,R .normal s→Q .normal s∨Q .normal ⟨s.r,jL d s.s,s.T⟩:=by
 cases d with
 | nil=>exact ⟨Q,h,λs hs=>.inl hs⟩
 | cons i d=>exact ⟨_,h,λs hs=>.inr hs⟩
def G1 {ro:Option Nat} {ops:Array Oper} {Q:Exit→Act→World→Prop} {K:Ex→St→Prop}:∀ {os acc:List HOper} {l1 l2:List Oper} {st:St} {a:Act} {w:World},eG P N ops l1=some acc→eG P N ops l2=some os→dD P G (YN H acc os) K st→SInv P G N h0 φ0 T0 w0 st a w →
  (∀ st' a' w',K .normal st'→SInv P G N h0 φ0 T0 w0 st' a' w'→Q .normal a' w')→wpListIn (fe ro) 0 P ops Q (l1++l2) a w
 | [],acc,l1,[],st,a,w,h1,h2,hw,hS,hn=>by rw [nR];exact WE h1 hw hS hn
 | [],acc,l1,o::l2,st,a,w,h1,h2,hw,hS,hn=>by obtain ⟨x,y,_,_,e⟩:=Fs h2;simp at e
 | o::os,acc,l1,[],st,a,w,h1,h2,hw,hS,hn=>by simp [eG] at h2
 | o::os,acc,l1,o'::l2,st,a,w,h1,h2,hw,hS,hn=>by
  obtain ⟨x,y,e1,e2,e⟩:=Fs h2;injection e with ea eb;subst ea;subst eb;have h3:eG P N ops (l1++[o'])=some (acc++[o]):=Hr h1 (by simp [eG,e1]);have h4:l1++o'::l2=(l1++[o'])++l2:=by simp
  rw [h4];simp only [YN] at hw;split at hw
  ·rename_i j hj;simp only [dD] at hw;exact Az h3 hw hS λst' a' w' hk hS'=>by
    have:=G1 (ro:=ro) (l1:=[]) (acc:=[]) rfl e2 hk (hS'.shut j) hn;simpa using this
  ·exact G1 (ro:=ro) h3 e2 hw hS hn
def SQ {d:List Nat} {l:HD} {Q:Ex→St→Prop} {st:St} (h:dD P G (UX d (.regd l)) Q st) :
  ∃ K:St→Prop,DT P G l st K∧∀ s,K s→Q .normal s∨Q .normal ⟨s.r,jL d s.s,s.T⟩:=by
 cases d with
 | nil=>exact ⟨Q .normal,h,λs hs=>.inl hs⟩
 | cons i d=>exact ⟨_,h,λs hs=>.inr hs⟩
def OK {d:List Nat} {c:HC} {Q:Ex→St→Prop} {st:St} (h:dD P G (UY d c) Q st):dD P G c Q st∨dD P G c Q ⟨st.r,jL d st.s,st.T⟩:=by
 cases d with
 | nil=>exact .inl h
 | cons i d=>exact .inr h
def SInv.own {st:St} (hS:SInv P G N h0 φ0 T0 w0 st a w) (j:Nat) (c:Option Nat) (k:Nat):SInv P G N h0 φ0 T0 w0 (JZ st j c k) a w:=by
 have key:∀ {h:GH} {φ:Nat→Value},Inv h φ w st.T→Evo h0 φ0 T0 w0 h φ st.T w →
   Inv h (Vf φ st.T.length (.slice none 0 0)) w (st.T++[some (.arr k [])])∧Evo h0 φ0 T0 w0 h (Vf φ st.T.length (.slice none 0 0)) (st.T++[some (.arr k [])]) w:=by
  intro h φ hI hE;have:=pG (w':=w) (o:=.arr k []) (v:=.slice none 0 0) hI rfl rfl rfl (cT _) (λ_ _=>rfl) (λg hg=>by simp [iE] at hg) ⟨by simp,.inl ⟨none,bA,rfl⟩⟩;exact ⟨this.1,hE.trans this.2⟩
 cases c with
 | none =>
  simp only [JZ];split
  ·rename_i hj;obtain ⟨hr,honce,⟨h,φ,hG,hE,hI,hSl⟩,hsz,hdf⟩:=hS;obtain ⟨k1,k2⟩:=key hI hE;have hjv:=hSl j;rw [hj] at hjv;simp only [Rp] at hjv;refine ⟨hr,Jz honce _ _,⟨h,_,hG,k2,k1,λi=>?_⟩,hsz,hdf⟩;rw [Fl];split
   ·rename_i e;subst e;simp only [Rp];exact ⟨by simp,by rw [hjv,bA],none,0,0,hjv⟩
   ·exact (hSl i).mono (zG.refl h) (by simp) (λi hi=>eN hi)
  ·exact hS
 | some c =>
  simp only [JZ];split
  ·rename_i i o hj;split
   ·rename_i cs hg;split
    ·rename_i hc;obtain ⟨hr,honce,⟨h,φ,hG,hE,hI,hSl⟩,hsz,hdf⟩:=hS;obtain ⟨k1,k2⟩:=key hI hE;have hgt:=aZ hg;have hlt:i<st.T.length:=by
      rcases gM i st.T.length with hh | hh
      ·exact hh
      ·rw [oW hh] at hgt;simp at hgt
     have hgt':(st.T++[some (.arr k [])])[i]?=some (some (.box cs)):=by rw [JQ hlt];exact hgt
     obtain ⟨g,us,E,e1,e2,e3,e4⟩:=k1.obj i _ hgt'
     have hset:=DW (w':=w) (o':=.box (cs.set c (.own st.T.length))) k1 rfl rfl rfl (cT _) hgt' (λ_ _ _=>rfl) (by
      refine ⟨g,us,E,e1,e2,e3,?_⟩;obtain ⟨u,hu1,hu2⟩:=e4.get hc;simp only [Rp] at hu2
      have:=e4.set (m:=c) (c:=.own st.T.length) (u:=u) (by
       simp only [Rp]
       exact ⟨by simp,by rw [hu2,bA],none,0,0,hu2⟩)
      rwa [show us.toList.set c u=us.toList from by
       apply Dy;intro m;rw [Hf];split
       ·rename_i e;subst e;split
        ·exact hu1.symm
        ·rename_i hh;rw [oW (by omega)]
       ·rfl] at this)
     refine ⟨hr,honce,⟨h,_,hG,k2.trans hset.2,hset.1,λi=>?_⟩,hsz,hdf⟩;exact (hSl i).mono (zG.refl h) (by simp) (λi hi=>eN hi)
    ·exact hS
   ·exact hS
  ·exact hS
def OL {wr:List Nat}:∀ {H:List (Nat×Option Nat×Nat)} {c:HC} {Q:Ex→St→Prop} {st:St},dD P G (WG wr H c) Q st→∃ R:Ex→St→Prop,dD P G c R st ∧
  (∀ s,R .normal s→∀ (a:Act) (w:World),SInv P G N h0 φ0 T0 w0 s a w→∃ s',Q .normal s'∧SInv P G N h0 φ0 T0 w0 s' a w)∧(∀ i s,R (.exit i) s→Q (.exit i) s)∧(∀ s,R .ret s→Q .ret s)
 | [],c,Q,st,h=>⟨Q,h,λs hs a w hS=>⟨s,hs,hS⟩,λ_ _ h=>h,λ_ h=>h⟩
 | (j,d,k)::r,c,Q,st,h=>by
  simp only [WG] at h;obtain ⟨R,h1,h2,h3,h4⟩:=OL h;split at h1
  ·cases k with
   | zero =>
    simp only [dD] at h1;exact ⟨_,h1,λs hs a w hS=>h2 _ hs a w (hS.shut _),λi s hs=>h3 i s hs,λs hs=>h4 s hs⟩
   | succ k =>
    simp only [dD] at h1;exact ⟨_,h1,λs hs a w hS=>h2 _ hs a w (hS.own j d (k+1)),λi s hs=>h3 i s hs,λs hs=>h4 s hs⟩
  ·exact ⟨R,h1,h2,h3,h4⟩
def nU {b:Frame} {x:Code} {k:List Item} {cs:List Frame}:step P (lone (b.atR a (.code (.scope x)::k)) cs w)=.next (lone (b.atR a (.code x::.inScope x::k)) cs w) :=
 step_lone_go (by simp [stepG,stepG.exec,Frame.atR])
def KF {b:Frame} {x:Code} {k:List Item} {cs:List Frame}:step P (lone (b.atR a (.inScope x::k)) cs w)=.next (lone (b.atR a k) cs w) :=
 step_lone_go (by simp [stepG,stepG.exec,Frame.atR])
def QL {F:Fence} {n:Nat} {c:Code} {Q:Exit→Act→World→Prop} (h:c.wpIn F n P Q a w) (hg:∀ l a w,¬Q (.goto l) a w):(Code.scope c).wpIn F n P Q a w:=by
 intro b k cs hro hb hr;have h0:(lone (b.atR a (.code (.scope c)::k)) cs w).fenced P F:=fenced_calm hb hr rfl;obtain ⟨e,a₁,w₁,hq,harr⟩:=h b (.inScope c::k) cs hro hb hr
 cases e with
 | normal=>exact ⟨.normal,a₁,w₁,hq,.head h0 nU (StepsIn.trans harr (.one (fenced_calm hb hr rfl) KF))⟩
 | exit id =>
  have hx:exitTo id (.inScope c::k)=exitTo id k:=by simp [exitTo]
  exact ⟨.exit id,a₁,w₁,hq,λk' hk=>.head h0 nU (harr.1 k' (by rw [hx];exact hk)),
   λhr' hk=>let ⟨k₁,h1,h2⟩:=harr.2 hr' (by rw [hx];exact hk);⟨k₁,h1,.head h0 nU h2⟩⟩
 | goto l=>exact absurd hq (hg l a₁ w₁)
 | ret=>exact ⟨_,a₁,w₁,hq,.of_steps (.one h0 nU) harr⟩
 | panic ch=>exact ⟨_,a₁,w₁,hq,.of_steps (.one h0 nU) harr⟩
 | outgrown=>exact ⟨_,a₁,w₁,hq,.of_steps (b:=b) (k:=k) (cs:=cs) (e:=.outgrown) (.one h0 nU) harr⟩
def aAC (ro:Option Nat) (φ0:Nat→Value) (T0:aH) (w0:World):Prop:=∀ l,ro=some l→(∃ r,w0.heap[l]?=some (.loop r))∧∀ i o,T0[i]?=some (some o)→iE (φ0 i)≠some l
def G2 (P:Program) (G:Nat→Option (List AV)) (N:Nat) (H:List (Nat×Option Nat×Nat)) (c:Code):Prop :=
 ∀ {ro:Option Nat} {h0:GH} {φ0:Nat→Value} {T0:aH} {w0:World} {hc:HC} {Q:Ex→St→Prop} {st:St} {a:Act} {w:World} {ex:List (Nat×List Nat)} {rt out:List Nat},aAC ro φ0 T0 w0→cA P N H c ex rt out=some hc→dD P G hc Q st→SInv P G N h0 φ0 T0 w0 st a w →
  c.wpIn (fe ro) 0 P (λe a' w'=>∃ st',exQ Q e st'∧SInv P G N h0 φ0 T0 w0 st' a' w') a w
def QM {ca cb:Code} (iha:G2 P G N H ca) (ihb:G2 P G N H cb) {ha hb:HC} {ps:List Nat} {exs:List (Nat×List Nat)} {ra oa rb ob:List Nat} (ea:cA P N H ca exs ra oa=some ha) (eb:cA P N H cb exs rb ob=some hb)
  (hps:∀ p∈ps,p<N) {r:Loop} (r1:r.state=.ready) (r2:r.pending=none) (r3:r.params.toList=ps) (r4:r.assign=ca) (r5:r.body=cb) (r6:N≤r.tmps.size)
  (i:Nat) (s:List (Nat×AV)) (T:aH) (args:List AV) (post:AV→aH→Prop) (hi:bZ T i=some (.lp r s)) (hl:args.length=ps.length)
  (hw:dD P G ha (λe s1=>match e with | .normal=>dD P G hb (Gr i r s T.length post) s1 | _=>False) ⟨T.length,uG s ps args,T.set i none⟩):Ap P G i args T post:=by
 intro h φ W vals l hG hI hA hφ;obtain ⟨l',e1,e2,e3,e4,e5⟩:=YL hI hi;rw [hφ] at e1;injection e1 with e1 _ _;injection e1 with e1;subst e1;have hlt:=Dc e2;have hAl:=hA.length;have hpsz:r.params.size=ps.length:=by rw [←r3,Dx]
 have hoff:=YM hI hi hφ;have hilt:=UE hi;refine ⟨_,_,_,_,run_yield e2 (by rw [hpsz,←hl,hAl,Dx]),?_⟩;obtain ⟨p1,p2,p3⟩:=M8 (h:=h) (φ:=φ) (n:=T.length) (ps:=ps) (xs:=args) (us:=vals.toList) (s:=s) (t:=r.tmps) (SP e5) e4 hA hl (λp hp=>AH (hps p hp) r6);have hfold:(r.params.zip vals).foldl (λtmps (x:Tmp×Value)=>tmps.setIfInBounds x.1 x.2) r.tmps=(ps.zip vals.toList).foldl (λt (p,u)=>t.setIfInBounds p u) r.tmps:=by
  rw [←Array.foldl_toList,Array.toList_zip,r3]
 rw [hfold];revert p1 p2 p3;generalize (ps.zip vals.toList).foldl (λt (p,u)=>t.setIfInBounds p u) r.tmps=tm;intro p1 p2 p3;obtain ⟨d1,d2⟩:=tD hI i
 have hS0:SInv P G N h φ (T.set i none) W ⟨T.length,uG s ps args,T.set i none⟩ ⟨tm,[]⟩ W :=
  ⟨by simp,p2,⟨h,φ,hG,Evo.refl,d1,by simpa using p1⟩,by rw [p3];exact r6,by simp [CZ]⟩
 have hro:aAC (some l) φ (T.set i none) W:=by
  intro l2 h2;injection h2 with h2;subst h2;exact ⟨⟨r,e2⟩,hoff⟩
 rw [r4,r5];refine roundIn_of_wpIn (F:=Fence.wide) trivial (wpIn_mono (iha (ro:=some l) hro ea hw hS0) ?_);rintro e a1 w1 ⟨st1,hq,hS1⟩
 cases e with
 | normal =>
  simp only [exQ] at hq;have hl1:w1.heap[l]?=some (.loop r):=by
   obtain ⟨_,_,⟨_,_,_,hE,_,_⟩,_,_⟩:=hS1;rw [hE.frame l hlt hoff];exact e2
  refine ⟨_,run_beginRound hl1 r1,?_⟩;let rb:Loop:={ r with state:=.busy }
  have hS2:SInv P G N h φ (T.set i none) (W.putObj l (.loop rb)) st1 a1 (w1.putObj l (.loop rb)):=by
   obtain ⟨q1,q2,⟨h1,φ1,q3,q4,q5,q6⟩,q7,q8⟩:=hS1;have notl:∀ j o,st1.T[j]?=some (some o)→iE (φ1 j)≠some l:=by
    intro j o e hb;rcases q4.org j o l e hb with h1 | ⟨j',o',h1,h2⟩
    ·omega
    ·exact hoff j' o' h1 h2
   have hgh:h1 l=none:=by
    cases hh:h1 l with
    | none=>rfl
    | some cs =>
     rcases q4.gfr l cs hh with h1 | h1 | ⟨j,o,h1,h2⟩
     ·rw [e3] at h1;simp at h1
     ·omega
     ·exact absurd h2 (hoff j o h1)
   refine ⟨q1,q2,⟨h1,φ1,q3,aAB q4 _,OH q5 notl hgh _,q6⟩,q7,q8.1,λd hd=>?_⟩;obtain ⟨D,f1,f2,f3⟩:=q8.2 d hd;refine ⟨D,f1,by simpa using f2,?_⟩;rw [World.putObj_heap_other (λhD=>by subst hD;rw [hl1] at f3;simp at f3)];exact f3
  have hro2:aAC (some l) φ (T.set i none) (W.putObj l (.loop rb)):=by
   intro l2 h2;injection h2 with h2;subst h2;exact ⟨⟨rb,World.putObj_heap_same hlt⟩,hoff⟩
  refine wpIn_mono (ihb (ro:=some l) hro2 eb hq hS2) ?_;rintro e a3 w3 ⟨st3,hq3,hS3⟩;have hl3:w3.heap[l]?=some (.loop rb):=by
   obtain ⟨_,_,⟨_,_,_,hE,_,_⟩,_,_⟩:=hS3;rw [hE.frame l (by rw [World.putObj_size];exact hlt) hoff];exact World.putObj_heap_same hlt
  have hX:∀ gc:Bool,∃ h2 φ2,Evo h φ (T.set i none) (W.putObj l (.loop rb)) h2 φ2 (if gc then (Aq [] ⟨T.length,[],st3.T⟩).T else st3.T) w3∧Inv h2 φ2 w3 (if gc then (Aq [] ⟨T.length,[],st3.T⟩).T else st3.T):=by
   intro gc;obtain ⟨q1,q2,⟨h1,φ1,q3,q4,q5,q6⟩,q7,q8⟩:=hS3
   cases gc with
   | false=>exact ⟨h1,φ1,q4,q5⟩
   | true =>
    have hS4:SInv P G 0 h φ (T.set i none) (W.putObj l (.loop rb)) ⟨T.length,[],st3.T⟩ ⟨#[],[]⟩ w3:=⟨by simp,λ_ _ _ hx=>by simp at hx,⟨h1,φ1,q3,q4,q5,λ_=>by simp [aP,Rp]⟩,B8 _,by simp [CZ]⟩
    obtain ⟨_,_,⟨h4,φ4,_,g1,g2,_⟩,_,_⟩:=Ca (st:=⟨T.length,[],st3.T⟩) [] hS4;exact ⟨h4,φ4,g1,g2⟩
  cases e with
  | normal =>
   simp only [exQ,Gr] at hq3;obtain ⟨gc,hq3⟩:=hq3;obtain ⟨h2,φ2,x1,x2⟩:=hX gc;have hrun:=run_endRound (P:=P) none hl3;have hr':({ rb with state:=if (none:Option Code).isNone then .ready else .done,pending:=none }:Loop)=r:=by
    cases r;simp_all [rb]
   rw [hr'] at hrun;refine ⟨_,_,hrun,_,rfl,_,_,h2,φ2,hq3,?_⟩;obtain ⟨y1,y2⟩:=OI hI hi hφ x1 x2 r rfl;exact ⟨y1,y2,by simp [Rp]⟩
  | exit id =>
   simp only [exQ,Gr] at hq3;obtain ⟨gc,hq3⟩:=hq3;obtain ⟨h2,φ2,x1,x2⟩:=hX gc;have hrun:=run_endRound (P:=P) (some (.exit id)) hl3;refine ⟨_,_,hrun,_,rfl,_,_,h2,φ2,hq3,?_⟩;obtain ⟨y1,y2⟩:=OI hI hi hφ x1 x2 (left r (.exit id)) rfl;exact ⟨y1,y2,by simp [Rp]⟩
  | ret =>
   simp only [exQ,Gr] at hq3;obtain ⟨gc,hq3⟩:=hq3;obtain ⟨h2,φ2,x1,x2⟩:=hX gc;have hrun:=run_endRound (P:=P) (some .ret) hl3;refine ⟨_,_,hrun,_,rfl,_,_,h2,φ2,hq3,?_⟩;obtain ⟨y1,y2⟩:=OI hI hi hφ x1 x2 (left r .ret) rfl;exact ⟨y1,y2,by simp [Rp]⟩
  | _=>exact hq3.elim
 | exit id=>exact hq.elim
 | goto id=>exact hq.elim
 | ret=>exact hq.elim
 | panic id=>exact hq.elim
 | outgrown=>exact hq.elim
def Fw {f:FuncId} (hb:N3 P f) (vals:Array Value) (w:World):(callFunc f vals).run P w=.ok (.enter f vals) w:=by
 obtain ⟨fn,c,h1,h2,h3⟩:=hb;simp [callFunc,h1,h3,h2]
def QN {ca cb:Code} (iha:G2 P G N H ca) (ihb:G2 P G N H cb) {g:Operand} {params:Array Tmp}:G2 P G N H (.rangeFunc g params ca cb):=by
 intro ro h0 φ0 T0 w0 hc Q st a w exs rt out hroo e hw hS;simp only [cA] at e;split at e
 ·rename_i ha hb ea eb;split at e
  ·rename_i hall;injection e with e;subst e;simp only [dD] at hw;have hps:∀ p∈params.toList,p<N:=λp hp=>by simpa using lF.1 hall p hp
   obtain ⟨hr,honce,⟨h,φ,hG,hE,hI,hSl⟩,hsz,hdf⟩:=hS;refine wpIn_rangeFunc ?_;intro fn _;rw [QF];have hent:∃ (l:Nat) (mark:List Deferred) (w1:World) (df:Nat),(Instr.enterLoop fn a.tmps params ca cb ro).run P w=.ok (l,mark) w1∧w.heap.size≤l∧w1.os=w.os∧w1.tape=w.tape∧w1.output=w.output∧w1.drawn=w.drawn∧w.heap.size≤w1.heap.size ∧
     (∀ b,b<w.heap.size→w1.heap[b]?=w.heap[b]?)∧w1.heap[l]?=some (.loop { state:=.ready,pending:=none,fn,tmps:=a.tmps,params,assign:=ca,body:=cb,defers:=df }) ∧
     (mark=[]∨∃ D,mark=[{ target:=.collected D,args:=#[] }]∧w.heap.size≤D∧w1.heap[D]?=some (.deferred (some []))):=by
    cases ro with
    | none =>
     refine ⟨_,_,_,w.heap.size,run_enterLoop_outer fn a.tmps params ca cb,by omega,rfl,rfl,rfl,rfl,by simp only [World.size_alloc];omega,λb hb=>?_,?_,.inr ⟨_,rfl,cT _,?_⟩⟩
     ·rw [iO _ _ b (by simp;omega),iO _ _ b hb]
     ·have:=World.alloc_heap_new (w.alloc (.deferred (some []))) (.loop { state:=.ready,pending:=none,fn,tmps:=a.tmps,params,assign:=ca,body:=cb,defers:=w.heap.size });rwa [World.size_alloc] at this
     ·rw [iO _ _ _ (by simp)];exact World.alloc_heap_new w _
    | some l0 =>
     obtain ⟨⟨r0,e0⟩,hoff0⟩:=hroo l0 rfl;have hl0:w.heap[l0]?=some (.loop r0):=by
      rw [hE.frame l0 (Dc e0) hoff0];exact e0
     refine ⟨w.heap.size,[],w.alloc (.loop { state:=.ready,pending:=none,fn,tmps:=a.tmps,params,assign:=ca,body:=cb,defers:=r0.defers }),r0.defers,?_,cT _,rfl,rfl,rfl,rfl,by simp,λb hb=>iO _ _ b hb,World.alloc_heap_new w _,.inl rfl⟩;unfold Instr.enterLoop;simp only [Sem.run_bind,run_getLoop hl0,Result.andThen_ok,Sem.run_pure,run_newObj_alloc]
   obtain ⟨l,mark,w1,df,n1,n2,n3,n4,n5,n6,n7,n8,n9,n10⟩:=hent;revert n1 n9;generalize hrec:({ state:=.ready,pending:=none,fn,tmps:=a.tmps,params,assign:=ca,body:=cb,defers:=df }:Loop)=r;intro n1 n9;have r1:r.state=.ready:=by rw [←hrec]
   have r2:r.pending=none:=by rw [←hrec]
   have r3:r.params=params:=by rw [←hrec]
   have r4:r.assign=ca:=by rw [←hrec]
   have r5:r.body=cb:=by rw [←hrec]
   have r6:r.tmps=a.tmps:=by rw [←hrec]
   have hw:=hw r r1 r2 (by rw [r3,Dx]) (λi s T args post hi hl hcw=>QM iha ihb ea eb hps r1 r2 (by rw [r3]) r4 r5 (by rw [r6];exact hsz) i s T args post hi hl hcw);split at hw
   ·rename_i f caps hev;obtain ⟨hgb,hw⟩:=hw;have hf:=cJ hG hSl g;rw [hev] at hf;simp only [Rp] at hf;obtain ⟨us,hu,hcs⟩:=hf;have hk:∀ q∈EJ (IG (mY (exs.map λp=>(p.1,([]:List Nat))) [] ca (mY (exs.map λp=>(p.1,([]:List Nat))) [] cb [])) params.toList) st.s,q∈st.s:=λq hq=>KD hq;revert hk hw;generalize EJ (IG (mY (exs.map λp=>(p.1,([]:List Nat))) [] ca (mY (exs.map λp=>(p.1,([]:List Nat))) [] cb [])) params.toList) st.s=s0;intro hw hk;obtain ⟨i1,i2⟩:=pG (w':=w1) (o:=AObj.lp r s0) (v:=Value.func (.yield l) #[] #[]) hI n3 n4 n5 n7 n8 (λg' hg'=>by simp only [iE,Option.some.injEq] at hg';omega)
     ⟨l,bA,n9,by
      cases hh:h l with
      | none=>rfl
      | some cs=>have:=AL hI hh;omega,λj x y hx hy=>honce j x y (hk _ hx) (hk _ hy),λp hp=>by
      rw [r6,←Jy honce (show (p.1,p.2)∈st.s from hk p hp)]
      exact (hSl p.1).mono (zG.refl h) (by omega) λi hi=>eN hi⟩ (by rw [n6];exact cT _)
    have hargs:bK h (Vf φ st.T.length (Value.func (.yield l) #[] #[])) (st.T++[some (AObj.lp r s0)]).length (.yl st.T.length::caps) (#[Value.func (.yield l) #[] #[]]++us).toList:=by
     simp only [Pf,fX,gW,bK];refine ⟨_,_,rfl,?_,hcs.mono (zG.refl h) (by simp) λi hi=>eN hi⟩;simp only [Rp];exact ⟨by simp,bA.symm,l,rfl⟩
    refine ⟨l,mark,w1,{ target:=.fn (.func f) us,args:=#[.func (.yield l) #[] #[]] },w1,f,#[.func (.yield l) #[] #[]]++us,w1,n1,?_,λf' _=>UR ro f',?_,λhh=>by rw [QG] at hh;simp at hh,?_⟩
    ·simp only [resolve,hu];simp [go_sem]
    ·simp only [invoke];exact Fw hgb _ _
    ·rcases CT hw hG i1 hargs with ⟨_,hcall⟩ | ⟨v,w',e',_⟩
     rotate_left
     ·rw [Fw hgb] at e';simp at e'
     refine (J0 hcall).mono ?_;rintro e w3 ⟨v,rfl,rr,T2,h2,φ2,hK,hE2,hI2,_⟩;simp only [Rw] at hK;split at hK
     ·rename_i rec s' hT2;obtain ⟨hnb,hK⟩:=hK;obtain ⟨l',e1,e2,e3,e4,e5⟩:=YL hI2 hT2;have hφl:φ2 st.T.length=.func (.yield l) #[] #[]:=by rw [hE2.phi _ (by simp),bA]
      rw [hφl] at e1;injection e1 with e1 _ _;injection e1 with e1;subst e1;have hrun:=run_endLoop (P:=P) e2 hnb;have hset:=DW (w':=w3.putObj l (.loop { rec with state:=.exhausted })) (o':=.lp { rec with state:=.exhausted } s') hI2 rfl rfl rfl (by simp) (aZ hT2)
       (λb _ hne=>World.putObj_heap_other λhb=>hne (by rw [hφl,hb];rfl)) ⟨l,hφl,World.putObj_heap_same (Dc e2),e3,e4,e5⟩
      have hdrop:=tD hset.1 st.T.length;rw [List.set_set] at hdrop;have hEE:=((hE.trans i2).trans hE2).trans (hset.2.trans hdrop.2);have hdf4:CZ w0 { a with defers:=mark++a.defers } (w3.putObj l (.loop { rec with state:=.exhausted })):=by
       have hdf1:CZ w0 a w1:=by
        refine ⟨hdf.1,λd hd=>?_⟩;obtain ⟨D,f1,f2,f3⟩:=hdf.2 d hd;exact ⟨D,f1,f2,by rw [n8 D (Dc f3)];exact f3⟩
       have hdf2:CZ w0 { a with defers:=mark++a.defers } w1:=by
        rcases n10 with rfl | ⟨D,rfl,g1,g2⟩
        ·exact hdf1
        ·refine ⟨?_,λd hd=>?_⟩
         ·rw [List.singleton_append,List.pairwise_cons];refine ⟨λd hd=>?_,hdf.1⟩;obtain ⟨D',f1,f2,f3⟩:=hdf.2 d hd;rw [f1];intro hh;injection hh with hh;subst hh;have:=Dc f3;omega
         ·rcases eM.1 hd with hd | hd
          ·simp only [iU] at hd;subst hd;exact ⟨D,rfl,by have:=hE.size;omega,g2⟩
          ·exact hdf1.2 d hd
       exact ((hdf2.keep i1 hE2).keep hI2 hset.2)
      have hSf:SInv P G N h0 φ0 T0 w0 ⟨st.r,st.s,T2.set st.T.length none⟩ { a with defers:=mark++a.defers } (w3.putObj l (.loop { rec with state:=.exhausted })):=by
       refine ⟨hr,honce,⟨h2,φ2,hG.mono hE2.le,hEE,hdrop.1,λi=>?_⟩,hsz,hdf4⟩;have hl2:=hE2.len;exact (hSl i).mono hE2.le (by rw [gG];simp at hl2;omega) λj hj=>by
        rw [hE2.phi j (by simp;omega),eN hj]
      revert hrun hSf;generalize w3.putObj l (.loop { rec with state:=.exhausted })=w4;intro hrun hSf;refine ⟨rec.pending,_,hrun,?_⟩;split at hK
      ·rename_i hp;rw [hp];exact ⟨_,hK,hSf⟩
      ·rename_i id hp;rw [hp];exact wpIn_exit ⟨_,hK,hSf⟩
      ·rename_i hp;rw [hp];exact wpIn_ret ⟨_,hK,hSf⟩
      ·exact hK.elim
     ·exact hK.elim
   ·exact hw.elim
  ·simp at e
 ·simp at e
def KG:∀ (c:Code),G2 P G N H c:=by
 intro c
 induction c with
 | skip =>
  intro ro h0 φ0 T0 w0 hc Q st a w exs rt out hroo e hw hS;simp only [cA,Option.some.injEq] at e;subst e;exact wpIn_skip ⟨st,hw,hS⟩
 | label l =>
  intro ro h0 φ0 T0 w0 hc Q st a w exs rt out hroo e hw hS;simp only [cA,Option.some.injEq] at e;subst e;exact wpIn_label ⟨st,hw,hS⟩
 | scope x ih =>
  intro ro h0 φ0 T0 w0 hc Q st a w exs rt out hroo e hw hS;simp only [cA] at e;exact QL (ih hroo e hw hS) λl a w ⟨_,h,_⟩=>h
 | rangeFunc g ps x y ihx ihy=>exact QN ihx ihy
 | region id ops draw =>
  intro ro h0 φ0 T0 w0 hc Q st a w exs rt out hroo e hw hS
  cases draw with
  | true =>
   simp only [cA,if_true] at e;split at e
   ·rename_i hm
    cases ho:Ft P N H ops with
    | none=>simp [ho] at e
    | some hd =>
     simp only [ho,lA,Option.some.injEq] at e;subst e;obtain ⟨R,hw,h2,_,_⟩:=OL (N:=N) (h0:=h0) (φ0:=φ0) (T0:=T0) (w0:=w0) hw;obtain ⟨K,hw,hK⟩:=SQ hw;refine wpIn_region_any hm (SO ho hw hS.drawn λst' a' w' hk hS'=>(hK st' hk).elim (λhq=>h2 st' hq a' w' hS') λhq=>h2 _ hq a' w' (hS'.kill _))
   ·simp at e
  | false =>
   simp only [cA,kB,if_false] at e
   cases ho:eG P N ops ops.toList with
   | none=>simp [ho] at e
   | some hl =>
    simp only [ho,lA,Option.some.injEq] at e;subst e;obtain ⟨R,hw,h2,_,_⟩:=OL (N:=N) (h0:=h0) (φ0:=φ0) (T0:=T0) (w0:=w0) hw;obtain ⟨K,hw,hK⟩:=WH hw;have:=G1 (H:=H) (ro:=ro) (l1:=[]) (acc:=[]) (Q:=λe a' w'=>∃ st',exQ Q e st'∧SInv P G N h0 φ0 T0 w0 st' a' w') rfl ho hw hS λst' a' w' hk hS'=>(hK st' hk).elim (λhq=>h2 st' hq a' w' hS') λhq=>h2 _ hq a' w' (hS'.kill _);exact wpIn_region_list this
 | seq x y ihx ihy =>
  intro ro h0 φ0 T0 w0 hc Q st a w exs rt out hroo e hw hS;simp only [cA] at e;split at e
  ·rename_i hx hy h1 h2;injection e with e;subst e;simp only [dD] at hw;refine wpIn_seq (wpIn_mono (ihx hroo h1 hw hS) λex a' w' ⟨st',hq,hS'⟩=>?_)
   cases ex with
   | normal=>exact ihy hroo h2 hq hS'
   | exit i=>exact ⟨st',hq,hS'⟩
   | ret=>exact ⟨st',hq,hS'⟩
   | _=>exact hq.elim
  ·simp at e
 | cond c x y ihx ihy =>
  intro ro h0 φ0 T0 w0 hc Q st a w exs rt out hroo e hw hS;simp only [cA] at e;split at e
  ·rename_i hx hy h1 h2;injection e with e;subst e;simp only [dD] at hw;split at hw
   ·rename_i t ht;have hS':=hS;obtain ⟨hr,honce,⟨h,φ,hG,hE,hI,hSl⟩,hsz,hdf⟩:=hS';refine wpIn_cond (t:=t) (jO hG hSl ht) ?_;cases t
    ·rcases OK hw with hw | hw
     ·exact ihy hroo h2 hw hS
     ·exact ihy hroo h2 hw (hS.kill _)
    ·rcases OK hw with hw | hw
     ·exact ihx hroo h1 hw hS
     ·exact ihx hroo h1 hw (hS.kill _)
   ·exact hw.elim
  ·simp at e
 | block id x ih =>
  intro ro h0 φ0 T0 w0 hc Q st a w exs rt out hroo e hw hS;simp only [cA] at e
  cases hx:cA P N H x ((id,out)::exs) rt out with
  | none=>simp [hx] at e
  | some hx' =>
   simp only [hx,lA,Option.some.injEq] at e;subst e;obtain ⟨R,hw,h2,h3,h4⟩:=OL (N:=N) (h0:=h0) (φ0:=φ0) (T0:=T0) (w0:=w0) hw;simp only [dD] at hw;refine wpIn_block (wpIn_mono (ih hroo hx hw hS) λex a' w' ⟨st',hq,hS'⟩=>?_)
   cases ex with
   | normal=>exact h2 st' hq a' w' hS'
   | exit i =>
    simp only [exQ] at hq;simp only [Exit.inBlock];split
    ·rename_i hi;rw [if_pos hi] at hq;exact h2 st' hq a' w' hS'
    ·rename_i hi;rw [if_neg hi] at hq;exact ⟨st',h3 _ _ hq,hS'⟩
   | ret=>exact ⟨st',h4 _ hq,hS'⟩
   | _=>exact hq.elim
 | loop x ih =>
  intro ro h0 φ0 T0 w0 hc Q st a w exs rt out hroo e hw hS;simp only [cA] at e
  cases hx:cA P N H x exs rt (mY exs rt x []) with
  | none=>simp [hx] at e
  | some hx' =>
   simp only [hx,lA,Option.some.injEq] at e;subst e;simp only [dD] at hw;obtain ⟨I,⟨n0,hI0⟩,hround⟩:=hw;let J:Act→World→Nat→Prop:=λa w n=>∃ st,I n st∧SInv P G N h0 φ0 T0 w0 st a w;refine wpIn_loop (λa w=>∃ n,J a w n) (λa w=>open Classical in if h:∃ n,J a w n then (QK h).choose else 0) ⟨n0,hI0.elim (λh=>⟨_,h,Ca _ hS⟩) λh=>⟨_,h,hS⟩⟩ λa w hJ=>?_;obtain ⟨st',hI',hS'⟩:=(QK hJ).choose_spec.1;refine wpIn_mono (ih hroo hx (hround _ st' hI') hS') λex a' w' ⟨st2,hq,hS2⟩=>?_
   cases ex with
   | normal =>
    obtain ⟨m,hm,hIm⟩:=hq;have hJm:J a' w' m:=hIm.elim (λh=>⟨_,h,Ca _ hS2⟩) λh=>⟨_,h,hS2⟩
    have hJ':∃ n,J a' w' n:=⟨m,hJm⟩
    refine ⟨hJ',?_⟩;simp only [dif_pos hJ',dif_pos hJ];have hle:(QK hJ').choose≤m:=by
     rcases gM m (QK hJ').choose with hlt | hge
     ·exact absurd hJm ((QK hJ').choose_spec.2 m hlt)
     ·exact hge
    omega
   | exit i=>exact ⟨st2,hq,hS2⟩
   | ret=>exact ⟨st2,hq,hS2⟩
   | _=>exact hq.elim
 | exit i =>
  intro ro h0 φ0 T0 w0 hc Q st a w exs rt out hroo e hw hS;simp only [cA,Option.some.injEq] at e;subst e;exact wpIn_exit ⟨st,hw,hS⟩
 | ret =>
  intro ro h0 φ0 T0 w0 hc Q st a w exs rt out hroo e hw hS;simp only [cA,Option.some.injEq] at e;subst e;exact wpIn_ret ⟨st,hw,hS⟩
 | _=>intro ro h0 φ0 T0 w0 hc Q st a w exs rt out hroo e;simp [cA] at e
end
end
section
def mM:Nat→List AV→List (Nat×AV)
 | _,[]=>[]
 | i,x::r=>(i,x)::mM (i+1) r
def Ep:List AV→AV
 | [x]=>x
 | l=>.tup l
def YO (st:St) (p:Nat×Option (Option Nat)):Option AV:=match p.2 with
 | none=>some (aP st.s p.1)
 | some n=>match bO st.T (cQ (λ_=>none) st.s) (.ld n (.tmp p.1)) with
  | some (x,_)=>some x
  | none=>none
def KH (st:St):List (Nat×Option (Option Nat))→Option (List AV)
 | []=>some []
 | p::r=>match YO st p with
  | some x=>match KH st r with
   | some l=>some (x::l)
   | none=>none
  | none=>none
def Ly (rs:List (Nat×Option (Option Nat))) (post:AV→aH→Prop) (st:St):Prop :=
 match KH st rs with
 | some l =>
  let r:=Ep l
  let L:=sA st.T (List.range st.r++dZ r)
  post (AF L r) (CP L st.T)∨post r st.T
 | none=>False
def UZ (rs:List (Nat×Option (Option Nat))) (post:AV→aH→Prop):Ex→St→Prop
 | .normal,st=>Ly rs post st
 | .ret,st=>Ly rs post st
 | _,_=>False
def aCx (P:Program) (G:Nat→Option (List AV)) (hf:HFun) (args:List AV) (T:aH) (post:AV→aH→Prop):Prop :=
 dD P G hf.code (UZ hf.res post) ⟨T.length,mM 0 args,T⟩
def G3:∀ (i:Nat) (l:List AV),Gv (mM i l)∧∀ j x,(j,x)∈mM i l→i≤j
 | i,[]=>⟨λ_ _ _ h=>by simp [mM] at h,λ_ _ h=>by simp [mM] at h⟩
 | i,x::l=>by
  obtain ⟨h1,h2⟩:=G3 (i+1) l;refine ⟨λj a b ha hb=>?_,λj a ha=>?_⟩
  ·simp only [mM,jB,Prod.mk.injEq] at ha hb;rcases ha with ⟨rfl,rfl⟩ | ha<;>rcases hb with ⟨hb1,rfl⟩ | hb
   ·rfl
   ·have:=h2 _ _ hb;omega
   ·subst hb1;have:=h2 _ _ ha;omega
   ·exact h1 j a b ha hb
  ·simp only [mM,jB,Prod.mk.injEq] at ha;rcases ha with ⟨rfl,_⟩ | ha
   ·exact cT _
   ·have:=h2 _ _ ha;omega
section
variable {P:Program} {G:Nat→Option (List AV)} {h:GH} {φ:Nat→Value} {n:Nat}
def Fx {P:Program} {fn:Func} {tmps:Array Value} {R:Ending→World→Prop} {h0:GH} {φ0:Nat→Value} {T0:aH} {w0:World} {h:GH} {φ:Nat→Value} {T:aH}
  (fin:∀ w,Inv h φ w T→Evo h0 φ0 T0 w0 h φ T w→∃ v,(results fn tmps).run P w=.ok v w∧R (.returned v) w):∀ (ds:List Deferred) (w:World),(ds.Pairwise λx y=>x.target≠y.target) →
  (∀ d∈ds,∃ D,d.target=.collected D∧w0.heap.size≤D∧w.heap[D]?=some (.deferred (some [])))→Inv h φ w T→Evo h0 φ0 T0 w0 h φ T w→LeavesInM Fence.wide 0 P fn tmps R ds .returning w
 | [],w,_,_,hI,hE=>fin w hI hE
 | d::ds,w,hp,hd,hI,hE=>by
  obtain ⟨D,e1,e2,e3⟩:=hd d (by simp);have hk:=run_takeDeferred (P:=P) e3;refine ⟨by simp,.inl ⟨D,_,e1,hk,?_⟩⟩;obtain ⟨hp1,hp2⟩:=List.pairwise_cons.1 hp;refine Fx fin ds _ hp2 (λd' hm=>?_) ?_ ?_
  ·obtain ⟨D',f1,f2,f3⟩:=hd d' (by simp [hm]);refine ⟨D',f1,f2,?_⟩;rw [World.putObj_heap_other λhDD=>hp1 d' hm (by rw [e1,f1,hDD])];exact f3
  ·refine OH hI (λi x hx hb=>J1 (hI.obj i x hx) hb _ e3) ?_ _
   cases hh:h D with
   | none=>rfl
   | some cs =>
    obtain ⟨E,fr,hw⟩:=hI.gh D cs hh;rw [e3] at hw;simp at hw
  ·refine ⟨hE.os,hE.tape,hE.output,by simpa using hE.size,λb hb hn=>?_,hE.le,hE.gfr,hE.phi,hE.org,hE.len,hE.drawn⟩;rw [World.putObj_heap_other (by omega)];exact hE.frame b hb hn
def OM:∀ (i:Nat) (l:List AV) (pre us post:List Value),pre.length=i→bK h φ n l us→qU h φ n (mM i l) ⟨(pre++us++post).toArray,[]⟩
 | i,[],pre,us,post,_,_=>λj=>by simp [mM,aP,Rp]
 | i,x::l,pre,us,post,hp,hr=>by
  simp only [bK] at hr;obtain ⟨u,us',rfl,h1,h2⟩:=hr;have:=OM (i+1) l (pre++[u]) us' post (by simp [hp]) h2;intro j;simp only [mM,aP];split
  ·rename_i hij;subst hij;have hg:(pre++u::us'++post).toArray.getD i undef=u:=by
    subst hp;simp [PY]
   rw [hg];exact h1
  ·have h3:=this j;simp only [jI,List.singleton_append] at h3 ⊢;exact h3
def YP:List Value→Value
 | [v]=>v
 | l=>.tuple l.toArray
def ON {t:TypeId} {u v:Value} {w w':World} (e:(Instr.loadAt t u).run P w=.ok v w'):(do loadVar t (←asAddr u):Sem Value).run P w=.ok v w':=by
 have key:∀ (s:String),¬((do loadVar t (←stuck s):Sem Value).run P w=.ok v w'):=by
  intro s h;simp [stuck] at h
 cases u with
 | pointer a =>
  cases a with
  | none=>exact absurd e (key _)
  | some a=>exact e
 | _=>exact absurd e (key _)
def QO {fn:Func} {T:aH} {st:St} {a:Act} {w:World} (hG:pS G h) (hI:Inv h φ w st.T) (hS:qU h φ st.T.length st.s a) {rs:List (Nat×Option (Option Nat))} (hr:KE P fn.results.toList=some rs) {l:List AV} (hl:KH st rs=some l) :
  ∃ vs,(results fn a.tmps).run P w=.ok (YP vs) w∧bK h φ st.T.length l vs:=by
 have key:∀ (g:ResultVar→Sem Value),(∀ t,g (.tmp t)=pure (a.tmps.getD t undef))→(∀ i t,g (.cell i t)=(do loadVar t (←asAddr (a.tmps.getD i undef)):Sem Value)) →
   ∀ (rv:List ResultVar) (rs:List (Nat×Option (Option Nat))) (l:List AV),KE P rv=some rs→KH st rs=some l→∃ vs,(rv.mapM g).run P w=.ok vs w∧bK h φ st.T.length l vs:=by
  intro g hg hgc rv
  induction rv with
  | nil =>
   intro rs l e1 e2;simp only [KE,Option.some.injEq] at e1;subst e1;simp only [KH,Option.some.injEq] at e2;subst e2;exact ⟨[],by simp,by simp [bK]⟩
  | cons x rv ih =>
   intro rs l e1 e2;have step:∀ (p:Nat×Option (Option Nat)) (rs':List (Nat×Option (Option Nat))),KE P rv=some rs'→rs=p::rs'→(∀ y,YO st p=some y→∃ v,(g x).run P w=.ok v w∧Rp h φ st.T.length y v)→∃ vs,((x::rv).mapM g).run P w=.ok vs w∧bK h φ st.T.length l vs:=by
    intro p rs' h1 h2 h3;subst h2;simp only [KH] at e2;split at e2
    ·rename_i y hy;split at e2
     ·rename_i l' hl';injection e2 with e2;subst e2;obtain ⟨v,hv,hrv⟩:=h3 y hy;obtain ⟨vs,hvs,hrs⟩:=ih rs' l' h1 hl';refine ⟨v::vs,?_,?_⟩
      ·rw [List.mapM_cons];simp [hv,hvs]
      ·simp only [bK];exact ⟨v,vs,rfl,hrv,hrs⟩
     ·simp at e2
    ·simp at e2
   cases x with
   | tmp t =>
    simp only [KE] at e1
    cases hq:KE P rv with
    | none=>simp [hq] at e1
    | some rs' =>
     simp only [hq,lA,Option.some.injEq] at e1;refine step (t,none) rs' hq e1.symm λy hy=>?_;simp only [YO,Option.some.injEq] at hy;subst hy;exact ⟨_,by rw [hg];simp,hS t⟩
   | cell i t =>
    simp only [KE] at e1;split at e1
    ·rename_i n hn
     cases hq:KE P rv with
     | none=>simp [hq] at e1
     | some rs' =>
      simp only [hq,lA,Option.some.injEq] at e1;refine step (i,some n) rs' hq e1.symm λy hy=>?_;simp only [YO] at hy;split at hy
      ·rename_i y' T' he;injection hy with hy;subst hy;have he':bO st.T (cQ G st.s) (.ld n (.tmp i))=some (y',T'):=he;obtain ⟨_,v,h1,h2⟩:=Jf (P:=P) (w:=w) hn hG hI hS he';exact ⟨v,by rw [hgc];exact ON h1,h2⟩
      ·simp at hy
    ·simp at e1
 obtain ⟨vs,h1,h2⟩:=key (fun | .tmp t=>pure (a.tmps.getD t undef) | .cell a' t=>do loadVar t (←asAddr (a.tmps.getD a' undef))) (λt=>rfl) (λi t=>rfl) _ _ _ hr hl;refine ⟨vs,?_,h2⟩;unfold results;rw [Sem.run_bind,aBU,Sem.run_map];erw [h1];simp only [Result.andThen_ok,Sem.run_pure]
 match vs with
 | []=>rfl
 | [t]=>rfl
 | t::t'::l=>rfl
def aAD {l:List AV} {vs:List Value} (hs:bK h φ n l vs):Rp h φ n (Ep l) (YP vs):=by
 match l,vs,hs with
 | [],vs,hs=>simp only [bK] at hs;subst hs;simp only [Ep,YP,Rp];exact ⟨_,rfl,by simp [bK]⟩
 | [x],vs,hs=>simp only [bK] at hs;obtain ⟨u,us,rfl,h1,rfl⟩:=hs;exact h1
 | x::y::l,vs,hs =>
  have hs':=hs;simp only [bK] at hs;obtain ⟨u,us,rfl,h1,u',us',rfl,h2,h3⟩:=hs;simp only [Ep,YP,Rp];exact ⟨_,rfl,by simpa using hs'⟩
def OO {f:FuncId} {hf:HFun} {H:List (Nat×Option Nat×Nat)} (hc:mZ P f H=some hf) {args:List AV} {T:aH} {post:AV→aH→Prop} (hT:True) (hw:aCx P G hf args T post):aC P G f args T post:=by
  unfold mZ at hc;split at hc
  · simp at hc
  · rename_i fn hfn
    split at hc
    · simp at hc
    · rename_i hname
      split at hc
      · rename_i c rs hb hrs
        cases hcc:cA P fn.ntmps H c [] (rs.map (·.1)) (rs.map (·.1)) with
        | none=>simp [hcc] at hc
        | some hcode =>
          simp only [hcc,lA,Option.some.injEq] at hc
          subst hc
          intro h φ w vals hG hI hA
          refine .inl ⟨?_,?_⟩
          · have hn:¬fn.name = "runtime.NumGoroutine" := by simpa using hname
            simp [callFunc,hfn,hn,hb]
          · have hS0:SInv P G fn.ntmps h φ T w ⟨T.length,mM 0 args,T⟩ ⟨vals++Array.replicate (fn.ntmps-vals.size) undef,[]⟩ w:=by
              refine ⟨rfl,(G3 0 args).1,⟨h,φ,hG,Evo.refl,hI,?_⟩,by simp;omega,by simp [CZ]⟩;have:=OM (h:=h) (φ:=φ) (n:=T.length) 0 args [] vals.toList (List.replicate (fn.ntmps-vals.size) undef) rfl hA;have e:vals++Array.replicate (fn.ntmps-vals.size) undef=(vals.toList++List.replicate (fn.ntmps-vals.size) undef).toArray:=by
                apply CK.1;simp
              rw [e];simpa only [gW] using this
            have hwp:c.wpIn Fence.wide 0 P (λe a' w'=>∃ st',exQ (UZ rs post) e st'∧SInv P G fn.ntmps h φ T w st' a' w') ⟨vals++Array.replicate (fn.ntmps-vals.size) undef,[]⟩ w:=by
              have hro:aAC none φ T w:=λl hl=>by simp at hl
              rcases OK hw with hw | hw
              · exact KG (N:=fn.ntmps) c (ro:=none) hro hcc hw hS0
              · exact KG (N:=fn.ntmps) c (ro:=none) hro hcc hw (hS0.kill _)
            refine callsIn_wide.1 (callsIn_of_wp_marks (n:=0) hfn hb trivial (wpIn_mono hwp ?_))
            · rintro e a' w' ⟨st,hq,hS⟩
              have fin:Ly rs post st→bodyPostM Fence.wide 0 P fn (λe w'=>∃ v,e=.returned v∧Bv h φ T w post v w') .ret a' w':=by
                intro hq;obtain ⟨hr,honce,⟨h2,φ2,hG2,hE2,hI2,hSl⟩,hsz,hdf⟩:=hS;simp only [Ly] at hq;split at hq;rotate_left
                · exact hq.elim
                rename_i lr hlr;refine Fx (λwf hI2 hE2=>?_) a'.defers w' hdf.1 hdf.2 hI2 hE2;obtain ⟨vs,hrun,hrl⟩:=QO (T:=st.T) hG2 hI2 hSl hrs hlr;refine ⟨_,hrun,_,rfl,?_⟩;have hres:=aAD hrl;revert hres;generalize YP vs=v;intro hres;rcases hq with hq | hq
                · have hS3:SInv P G 0 h φ T w ⟨st.r,[(0,Ep lr)],st.T⟩ ⟨#[v],[]⟩ wf:=by
                    refine ⟨hr,λi x y hx hy=>?_,⟨h2,φ2,hG2,hE2,hI2,λi=>?_⟩,by simp,by simp [CZ]⟩
                    · simp only [iU,Prod.mk.injEq] at hx hy;rw [hx.2,hy.2]
                    · simp only [aP]
                      split
                      · rename_i hi;subst hi;exact hres
                      · simp [Rp]
                  obtain ⟨_,_,⟨h4,φ4,_,hE4,hI4,hS4⟩,_,_⟩:=Ca (st:=⟨st.r,[(0,Ep lr)],st.T⟩) [] hS3
                  have h5:=hS4 0
                  have hg:Aq [] ⟨st.r,[(0,Ep lr)],st.T⟩=⟨st.r,[(0,AF (sA st.T (List.range st.r++dZ (Ep lr))) (Ep lr))],CP (sA st.T (List.range st.r++dZ (Ep lr))) st.T⟩:=by
                    simp [Aq,jL,oH,IC,Lv,Pu]
                  rw [hg] at hE4 hI4 h5
                  exact ⟨_,_,h4,φ4,hq,hE4,hI4,h5⟩
                · exact ⟨_,_,h2,φ2,hq,hE2,hI2,hres⟩
              cases e with
              | normal=>exact fin hq
              | ret=>exact fin hq
              | _=>exact hq.elim
      · simp at hc
end
end
end Hud
