import Derived.Test.YtdichbeaekjibaaGreatDoorLib02
set_option linter.all false
namespace Hud
open Go
section
section
variable {P:Program} {G:Nat→Option (List AV)} {h:GH} {φ:Nat→Value} {w:World} {a:Act} {st:St} {K:AV→aH→Prop} {next:Act→World→Prop} {Q:Exit→Act→World→Prop}
def nT (P:Program) (o:Oper) (a:Act) (w:World) (next:Act→World→Prop):Prop :=
 match (execOp a.eval o).run P w with
 | .ok (.value v) w'=>next (a.put o.dst v) w'
 | .ok .skip w'=>next (a.put o.dst undef) w'
 | .ok (.enter f args) w'=>Calls P f args w' λe w''=>∃ v,e=.returned v∧next (a.put o.dst v) w''
 | .ok (.round l f tmps as_ body) w'=>RoundIn Fence.wide 0 P l f tmps as_ body w' λe w''=>∃ v,e=.returned v∧next (a.put o.dst v) w''
 | _=>False
def qZ {o:Oper} {sv:Sem Value} (he:execOp a.eval o=(do pure (.value (←sv)))) {v:Value} {w':World} (hr:sv.run P w=.ok v w') (hn:next (a.put o.dst v) w'):nT P o a w next:=by
 unfold nT;rw [he];simp only [Sem.run_bind,hr,Result.andThen_ok,Sem.run_pure];exact hn
def pA {T:aH} (hI:Inv h φ w T) {x:AV} {v:Value} (hx:Rp h φ T.length x v) {K:AV→aH→Prop} (hk:K x T):Bv h φ T w K v w :=
 ⟨x,T,h,φ,hk,Evo.refl,hI,hx⟩
def AM {T T':aH} {x:AV} {r:Result Value} (hm:fV h φ T w r x T') {K:AV→aH→Prop} (hk:K x T'):∃ v w',r=.ok v w'∧Bv h φ T w K v w' :=
 let ⟨v,w',h',φ',e1,e2,e3,e4⟩:=hm
 ⟨v,w',e1,x,T',h',φ',hk,e2,e3,e4⟩
def D3 {ho:HOp} (hcall:(∀ f l,ho≠.call f l)∧(∀ p,ho≠.nxt p)∧∀ n k x,ho≠.nilS n k x) (hw:rV P G st ho K):∃ x T',bO st.T (cQ G st.s) ho=some (x,T')∧K x T':=by
 unfold rV at hw;split at hw
 ·exact absurd rfl (hcall.1 _ _)
 ·exact absurd rfl (hcall.2.1 _)
 ·exact absurd rfl (hcall.2.2 _ _ _)
 ·split at hw
  ·rename_i x T' e;exact ⟨x,T',e,hw⟩
  ·exact hw.elim
def Iq {n:Nat} {x:AV} {u:Value} {cs:List AV} (hx:Rp h φ n x u) (e:Rv x=some cs):∃ us:Array Value,u=.agg us∧bK h φ n cs us.toList:=by
 unfold Rv at e;split at e
 ·injection e with e;subst e;simpa only [Rp] using hx
 ·injection e with e;subst e;simp only [Rp] at hx;exact ⟨_,hx,Jh h φ n _⟩
 ·simp at e
def Jp {n:Nat}:∀ {ks:List LK} {cs ds:List AV} {us vs:List Value} {b:Bool},eqC ks cs ds=some b→bK h φ n cs us→bK h φ n ds vs→oU ks us vs=some b
 | [],cs,ds,us,vs,b,e,h1,h2=>by
  cases cs with
  | nil =>
   cases ds with
   | nil=>simp only [bK] at h1 h2;subst h1;subst h2;simpa [eqC,oU] using e
   | cons d ds=>simp [eqC] at e
  | cons c cs=>simp [eqC] at e
 | k::ks,cs,ds,us,vs,b,e,h1,h2=>by
  unfold eqC at e;split at e
  ·rename_i hh;simp at hh
  ·rename_i k ks' k1 p cs k2 q ds hh;injection hh with hh1 hh2;subst hh1;subst hh2;simp only [bK,Rp] at h1 h2;obtain ⟨u,us',rfl,rfl,h3⟩:=h1;obtain ⟨v,vs',rfl,rfl,h4⟩:=h2;split at e
   ·rename_i hk;split at e
    ·rename_i r hr;have:=Jp hr h3 h4;simp only [oU,hk,this,and_self,if_true];exact e
    ·simp at e
   ·simp at e
  ·rename_i ks' p cs q ds hh;injection hh with hh1 hh2;subst hh1;subst hh2;simp only [bK,Rp] at h1 h2;obtain ⟨u,us',rfl,rfl,h3⟩:=h1;obtain ⟨v,vs',rfl,rfl,h4⟩:=h2;split at e
   ·rename_i r hr;have:=Jp hr h3 h4;simp only [oU,this];exact e
   ·simp at e
  ·rename_i ks' p cs q ds hh;injection hh with hh1 hh2;subst hh1;subst hh2;simp only [bK,Rp] at h1 h2;obtain ⟨u,us',rfl,rfl,h3⟩:=h1;obtain ⟨v,vs',rfl,rfl,h4⟩:=h2;split at e
   ·rename_i r hr;have:=Jp hr h3 h4;simp only [oU,this];exact e
   ·simp at e
  ·simp at e
def Lw {n:Nat} {t:TypeId} {fs:Array Field} (ht:P.underlying t=some (.struct fs)) {ag:Bool} {ks:List LK} (hk:fH P n t=some (ag,ks)):ag=true:=by
 cases n with
 | zero=>simp [fH] at hk
 | succ n =>
  simp only [fH,ht] at hk;split at hk
  ·simp at hk
  ·split at hk
   ·injection hk with hk;injection hk with hk _;exact hk.symm
   ·simp at hk
def R7 {n:Nat}:∀ {x:AV} {u:Value},Rp h φ n x u→Rp h φ n (fnA x) u:=by
 intro x u e;unfold fnA;split
 ·rename_i g a b;split
  ·rename_i hab;simp only [Rp] at e ⊢;subst e;have ha:a=#[]:=VW hab.1;have hb:b=#[]:=VW hab.2;subst ha hb;exact ⟨#[],rfl,by simp [bK]⟩
  ·exact e
 ·exact e
set_option maxHeartbeats 4000000 in
def Vn {o:Oper} {ho:HOp} (hc:eF P o=some ho) (hw:rV P G st ho K) (hG:pS G h) (hI:Inv h φ w st.T) (hS:qU h φ st.T.length st.s a)
  (hn:∀ v w',Bv h φ st.T w K v w'→next (a.put o.dst v) w'):nT P o a w next:=by
 have pure_op:∀ {sv:Sem Value} (_:execOp a.eval o=(do pure (.value (←sv)))) (_:(∀ f l,ho≠.call f l)∧(∀ p,ho≠.nxt p)∧∀ n k x,ho≠.nilS n k x) (_:∀ x T',bO st.T (cQ G st.s) ho=some (x,T')→T'=st.T∧∃ v,sv.run P w=.ok v w∧Rp h φ st.T.length x v),nT P o a w next:=by
  intro sv he hcall hrun;obtain ⟨x,T',e,hk⟩:=D3 hcall hw;obtain ⟨rfl,v,h1,h2⟩:=hrun x T' e;exact qZ he h1 (hn v w (pA hI h2 hk))
 have make_op:∀ {sv:Sem Value} (_:execOp a.eval o=(do pure (.value (←sv)))) (_:(∀ f l,ho≠.call f l)∧(∀ p,ho≠.nxt p)∧∀ n k x,ho≠.nilS n k x) (_:∀ x T',bO st.T (cQ G st.s) ho=some (x,T')→fV h φ st.T w (sv.run P w) x T'),nT P o a w next:=by
  intro sv he hcall hrun;obtain ⟨x,T',e,hk⟩:=D3 hcall hw;obtain ⟨v,w',h1,h2⟩:=AM (hrun x T' e) hk;exact qZ he h1 (hn v w' h2)
 obtain ⟨dst,op,ty,pos,after,guard⟩:=o
 cases op with
 | move x =>
  simp only [eF,Option.some.injEq] at hc;subst hc;refine pure_op (sv:=pure (a.eval x)) rfl (by simp) λy T' e=>?_;simp only [bO,Option.some.injEq,Prod.mk.injEq] at e;obtain ⟨rfl,rfl⟩:=e;exact ⟨rfl,_,rfl,cJ hG hS x⟩
 | assign x =>
  simp only [eF,Option.some.injEq] at hc;subst hc;refine pure_op (sv:=pure (a.eval x)) rfl (by simp) λy T' e=>?_;simp only [bO,Option.some.injEq,Prod.mk.injEq] at e;obtain ⟨rfl,rfl⟩:=e;exact ⟨rfl,_,rfl,cJ hG hS x⟩
 | pick c x y =>
  simp only [eF,Option.some.injEq] at hc;subst hc;obtain ⟨z,T',e,hk⟩:=D3 (by simp) hw;simp only [bO] at e;split at e
  ·rename_i t ht;simp only [Option.some.injEq,Prod.mk.injEq] at e;obtain ⟨rfl,rfl⟩:=e;unfold nT;have:execOp a.eval { dst:=dst,op:=.pick c x y,type:=ty,pos:=pos,after:=after,guard:=guard }=(do pure (.value (if ←asBool (a.eval c) then a.eval x else a.eval y))):=rfl;rw [this,jO hG hS ht];simp only [Sem.run_bind,asBool,Sem.run_pure,Result.andThen_ok];refine hn _ _ (pA hI ?_ hk);cases t
   ·exact cJ hG hS y
   ·exact cJ hG hS x
  ·simp at e
 | binOp op t x y ty2 =>
  simp only [eF] at hc;split at hc
  ·rename_i hop';split at hc
   ·injection hc with hc;subst hc;refine pure_op (sv:=do eqGuard op t x y (a.eval x) (a.eval y);binOp op t (a.eval x) (a.eval y)) rfl (by simp) λz T' e=>?_;simp only [bO] at e;split at e
    ·rename_i u v hu hv;split at e
     ·rename_i r hr;simp only [Option.some.injEq,Prod.mk.injEq] at e;obtain ⟨rfl,rfl⟩:=e;rw [jO hG hS hu,jO hG hS hv];exact ⟨rfl,r,N4 hr,by simp [Rp]⟩
     ·simp at e
    ·simp at e
   ·rename_i ht;injection hc with hc;subst hc;refine pure_op (sv:=do eqGuard op t x y (a.eval x) (a.eval y);binOp op t (a.eval x) (a.eval y)) rfl (by simp) λz T' e=>?_;simp only [bO] at e;split at e
    ·rename_i u v hu hv;simp only [Option.some.injEq,Prod.mk.injEq] at e;obtain ⟨rfl,rfl⟩:=e;rw [jO hG hS hu,jO hG hS hv];exact ⟨rfl,_,aAs hop' ht,by simp [Rp]⟩
    ·simp at e
   ·injection hc with hc;subst hc;refine pure_op (sv:=do eqGuard op t x y (a.eval x) (a.eval y);binOp op t (a.eval x) (a.eval y)) rfl (by simp) λz T' e=>?_;simp only [bO] at e;split at e
    ·rename_i u v hu hv;split at e
     ·rename_i r hr;simp only [Option.some.injEq,Prod.mk.injEq] at e;obtain ⟨rfl,rfl⟩:=e;rw [jO hG hS hu,jO hG hS hv];exact ⟨rfl,r,N4 hr,by simp [Rp]⟩
     ·simp at e
    ·simp at e
   ·
    rename_i fs ht;split at hc
    ·rename_i ag ks hk;split at hc
     ·simp at hc
     ·rename_i hgd;injection hc with hc;subst hc;refine pure_op (sv:=do eqGuard op t x y (a.eval x) (a.eval y);binOp op t (a.eval x) (a.eval y)) rfl (by simp) λz T' e=>?_;simp only [bO] at e;split at e
      ·rename_i cs ds h1 h2;split at e
       ·rename_i b hb;simp only [Option.some.injEq,Prod.mk.injEq] at e;obtain ⟨rfl,rfl⟩:=e;obtain ⟨us,e1,r1⟩:=Iq (cJ hG hS x) h1;obtain ⟨vs,e2,r2⟩:=Iq (cJ hG hS y) h2;have hag:ag=true:=Lw ht hk;subst hag;have hq:=(DV (P:=P) (w:=w) 20 t true ks hk).2 10000 (by omega) us.toList vs.toList b (Jp hb r1 r2);simp only [gY,if_true,Tz] at hq;rw [e1,e2];have hg2:P.eqGuardType P.depth t=false:=by simpa using hgd
        refine ⟨rfl,.bool (if op==.neq then !b else b),?_,by simp [Rp]⟩;rcases hop' with rfl | rfl
        ·simp only [Sem.run_bind,run_eqGuard_agg w .eql t x y us vs hg2,Result.andThen_ok,run_eql_struct w t us vs,hq];rfl
        ·simp only [Sem.run_bind,run_eqGuard_agg w .neq t x y us vs hg2,Result.andThen_ok,run_neq_struct w t us vs,hq];rfl
       ·simp at e
      ·simp at e
    ·simp at hc
   ·simp at hc
  ·injection hc with hc;subst hc;refine pure_op (sv:=do eqGuard op t x y (a.eval x) (a.eval y);binOp op t (a.eval x) (a.eval y)) rfl (by simp) λz T' e=>?_;simp only [bO] at e;split at e
   ·rename_i u v hu hv;split at e
    ·rename_i r hr;simp only [Option.some.injEq,Prod.mk.injEq] at e;obtain ⟨rfl,rfl⟩:=e;rw [jO hG hS hu,jO hG hS hv];exact ⟨rfl,r,N4 hr,by simp [Rp]⟩
    ·simp at e
   ·simp at e
 | unOp op t x =>
  simp only [eF,Option.some.injEq] at hc;subst hc;refine pure_op (sv:=Op.unary op (a.eval x)) rfl (by simp) λz T' e=>?_;simp only [bO] at e;split at e
  ·rename_i u hu;split at e
   ·rename_i r hr;simp only [Option.some.injEq,Prod.mk.injEq] at e;obtain ⟨rfl,rfl⟩:=e;rw [jO hG hS hu];exact ⟨rfl,r,aCr hr,by simp [Rp]⟩
   ·simp at e
  ·simp at e
 | convert src d x =>
  simp only [eF] at hc;split at hc
  ·rename_i sd k hs hd;injection hc with hc;subst hc;refine pure_op (sv:=convert src d (a.eval x)) rfl (by simp) λz T' e=>?_;simp only [bO] at e;split at e
   ·rename_i kk n hu;simp only [Option.some.injEq,Prod.mk.injEq] at e;obtain ⟨rfl,rfl⟩:=e;rw [jO hG hS hu];exact ⟨rfl,_,by simp [convert,run_underlying hs,run_underlying hd,Conv.intToInt];rfl,by simp [Rp]⟩
   ·simp at e
  ·simp at hc
 | box e x =>
  simp only [eF,Option.some.injEq] at hc;subst hc;exact make_op (sv:=Instr.box e (a.eval x)) rfl (by simp) λz T' he=>Vg hG hI hS he
 | alloc e =>
  simp only [eF] at hc;split at hc
  ·rename_i i hi;split at hc
   ·rename_i z hz;split at hc
    ·injection hc with hc;subst hc;exact make_op (sv:=Instr.alloc e true (.tuple #[])) rfl (by simp) λz T' he=>Pw hI hi hz he
    ·simp at hc
   ·simp at hc
  ·simp at hc
 | build t parts =>
  simp only [eF] at hc;split at hc
  ·rename_i fs i ht hi;split at hc
   ·rename_i z l hz hl;split at hc
    ·rename_i hall;injection hc with hc;subst hc;exact pure_op (sv:=Instr.build t (parts.map λ(i,x)=>(i,a.eval x))) rfl (by simp) λy T' he=>R3 ht hi hz hl hall hG hS he
    ·simp at hc
   ·simp at hc
  ·simp at hc
 | buildSlice t len parts =>
  simp only [eF] at hc;split at hc
  ·rename_i e ht;split at hc
   ·rename_i i hi;split at hc
    ·rename_i z hz;split at hc
     ·rename_i hcs;injection hc with hc;subst hc;exact make_op (sv:=Instr.buildSlice t len (parts.map λ(i,x)=>(i,a.eval x))) rfl (by simp) λy T' he=>Vj ht hi hz hcs.1 hcs.2.1 hcs.2.2.1 hcs.2.2.2 hG hI hS he
     ·simp at hc
    ·simp at hc
   ·simp at hc
  ·simp at hc
 | load t x =>
  simp only [eF] at hc;split at hc
  ·rename_i n ht;injection hc with hc;subst hc;exact pure_op (sv:=Instr.loadAt t (a.eval x)) rfl (by simp) λy T' he=>Jf ht hG hI hS he
  ·simp at hc
 | store t x y =>
  simp only [eF] at hc;split at hc
  ·rename_i n ht;injection hc with hc;subst hc;obtain ⟨z,T',e,hk⟩:=D3 (by simp) hw;obtain ⟨w',h1,rfl,h2,h3⟩:=X2 ht hG hI hS e;unfold nT;have:execOp a.eval { dst:=dst,op:=.store t x y,type:=ty,pos:=pos,after:=after,guard:=guard }=(do Instr.storeAt t (a.eval x) (a.eval y);pure .skip):=rfl;rw [this];simp only [Sem.run_bind,h1,Result.andThen_ok,Sem.run_pure];exact hn undef w' ⟨_,T',h,φ,hk,h2,h3,by simp [Rp]⟩
  ·simp at hc
 | fieldAddr t x f =>
  simp only [eF] at hc;split at hc
  ·rename_i fs ht;split at hc
   ·rename_i fd hf;split at hc
    ·rename_i n hn';split at hc
     ·simp at hc
     ·rename_i h0;injection hc with hc;subst hc;exact pure_op (sv:=Instr.fieldAt t (a.eval x) f) rfl (by simp) λy T' he=>Vb ht hf hn' h0 hG hS he
    ·simp at hc
   ·simp at hc
  ·simp at hc
 | field t x f =>
  simp only [eF] at hc;split at hc
  ·rename_i fs ht;split at hc
   ·rename_i fd hf;split at hc
    ·rename_i m hm;injection hc with hc;subst hc;exact pure_op (sv:=Instr.field t (a.eval x) f) rfl (by simp) λy T' he=>Vc ht hf hm hG hS he
    ·simp at hc
   ·simp at hc
  ·simp at hc
 | indexAddr t x ix =>
  simp only [eF] at hc;split at hc
  ·rename_i e ht;split at hc
   ·rename_i k hk;split at hc
    ·simp at hc
    ·injection hc with hc;subst hc;exact pure_op (sv:=Instr.indexAt t (a.eval x) (a.eval ix)) rfl (by simp) λy T' he=>Vd ht hk hG hI hS he
   ·simp at hc
  ·rename_i len e ht;split at hc
   ·rename_i k hk;injection hc with hc;subst hc;exact pure_op (sv:=Instr.indexAt t (a.eval x) (a.eval ix)) rfl (by simp) λy T' he=>Ry ht hk hG hS he
   ·simp at hc
  ·simp at hc
 | index t x ix =>
  simp only [eF] at hc;split at hc
  ·rename_i ht;injection hc with hc;subst hc;exact pure_op (sv:=Instr.index t (a.eval x) (a.eval ix)) rfl (by simp) λy T' he=>Ve ht hG hS he
  ·simp at hc
 | extract x i =>
  simp only [eF,Option.some.injEq] at hc;subst hc;refine pure_op (sv:=Instr.extract (a.eval x) i) rfl (by simp) λy T' e=>?_;have hx:=cJ hG hS x;simp only [bO] at e;split at e
  ·rename_i vs hev;rw [hev] at hx;simp only [Rp] at hx;obtain ⟨us,hu,hr⟩:=hx;split at e
   ·rename_i z hz;simp only [Option.some.injEq,Prod.mk.injEq] at e;obtain ⟨rfl,rfl⟩:=e;obtain ⟨u,h1,h2⟩:=hr.get hz;have:us[i]?=some u:=by simpa using h1
    rw [hu];exact ⟨rfl,u,by simp [Instr.extract,this],h2⟩
   ·simp at e
  ·rename_i us hev;rw [jO hG hS hev];split at e
   ·rename_i z hz;simp only [Option.some.injEq,Prod.mk.injEq] at e;obtain ⟨rfl,rfl⟩:=e;have:us[i]?=some z:=by simpa using hz
    exact ⟨rfl,z,by simp [Instr.extract,this],by simp [Rp]⟩
   ·simp at e
  ·simp at e
 | nilCheck x =>
  simp only [eF,Option.some.injEq] at hc;subst hc;obtain ⟨z,T',e,hk⟩:=D3 (by simp) hw;have hx:=cJ hG hS x;have key:z=cQ G st.s x∧T'=st.T∧∃ ad,a.eval x=.pointer (some ad):=by
   simp only [bO] at e;split at e
   ·rename_i i o hev;simp only [Option.some.injEq,Prod.mk.injEq] at e;rw [hev] at hx;simp only [Rp] at hx;obtain ⟨_,g,_,hu⟩:=hx;exact ⟨by rw [hev];exact e.1.symm,e.2.symm,_,hu⟩
   ·rename_i i k j o hev;simp only [Option.some.injEq,Prod.mk.injEq] at e;rw [hev] at hx;simp only [Rp] at hx;obtain ⟨_,g,_,_,_,hu⟩:=hx;exact ⟨by rw [hev];exact e.1.symm,e.2.symm,_,hu⟩
   ·rename_i cs hev;simp only [Option.some.injEq,Prod.mk.injEq] at e;rw [hev] at hx;simp only [Rp] at hx;obtain ⟨_,_,hu,_⟩:=hx;exact ⟨by rw [hev];exact e.1.symm,e.2.symm,_,hu⟩
   ·simp at e
  obtain ⟨rfl,rfl,ad,hu⟩:=key;unfold nT;have:execOp a.eval { dst:=dst,op:=.nilCheck x,type:=ty,pos:=pos,after:=after,guard:=guard }=pure (.value (a.eval x)):=by
   simp only [execOp,hu]
  rw [this];simp only [Sem.run_pure];exact hn _ _ (pA hI hx hk)
 | makeFunc fn first caps =>
  cases fn with
  | func f =>
   simp only [eF] at hc;split at hc
   ·rename_i h0;injection hc with hc;subst hc;refine pure_op (sv:=Instr.makeFunc (.func f) (first.map a.eval) (caps.map a.eval)) rfl (by simp) λy T' e=>?_;simp only [bO,Option.some.injEq,Prod.mk.injEq] at e;obtain ⟨rfl,rfl⟩:=e;have hf:first=#[]:=VW h0
    subst hf;refine ⟨rfl,.func (.func f) #[] (caps.map a.eval),by simp [Instr.makeFunc],?_⟩;simp only [Rp];exact ⟨_,rfl,by simpa using Jb hG hS caps.toList⟩
   ·simp at hc
  | _=>simp [eF] at hc
 | call c =>
  obtain ⟨callee,args,argTypes⟩:=c;simp only [eF] at hc
  cases callee with
  | value f =>
   simp only [Option.some.injEq] at hc;subst hc;unfold rV at hw;simp only at hw;split at hw
   ·rename_i g caps hev;have hf:=R7 (cJ hG hS f);rw [hev] at hf;simp only [Rp] at hf;obtain ⟨us,hu,hr⟩:=hf;have hargs:bK h φ st.T.length (args.toList.map (cQ G st.s)++caps) (args.map a.eval++us).toList:=by
     simpa using (Jb hG hS args.toList).app hr
    unfold nT;have hx:∀ wx,(execOp a.eval { dst:=dst,op:=.call { callee:=.value f,args:=args,argTypes:=argTypes },type:=ty,pos:=pos,after:=after,guard:=guard }).run P wx=(callFunc g (args.map a.eval++us)).run P wx:=by
     intro wx;simp only [execOp,resolve,hu,Deferred.ofValue,Sem.run_bind,Sem.run_pure,Result.andThen_ok,invoke,T6]
    rw [hx];rcases CT hw hG hI hargs with ⟨e1,c⟩ | ⟨v,w',e1,c⟩
    ·rw [e1];show Calls P g _ w _;exact c.mono λe w' ⟨v,he,hret⟩=>⟨v,he,hn v w' hret⟩
    ·rw [e1];exact hn v w' c
   ·rename_i g k cs hev;have hf:=R7 (cJ hG hS f);rw [hev] at hf;simp only [Rp] at hf;obtain ⟨us,hu,hr⟩:=hf;have hargs:bK h φ st.T.length (cs.take k++args.toList.map (cQ G st.s)++cs.drop k) ((us.toList.take k).toArray++args.map a.eval++(us.toList.drop k).toArray).toList:=by
     simpa using ((hr.take k).app (Jb hG hS args.toList)).app (hr.drop k)
    unfold nT;have hx:∀ wx,(execOp a.eval { dst:=dst,op:=.call { callee:=.value f,args:=args,argTypes:=argTypes },type:=ty,pos:=pos,after:=after,guard:=guard }).run P wx=(callFunc g ((us.toList.take k).toArray++args.map a.eval++(us.toList.drop k).toArray)).run P wx:=by
     intro wx;simp only [execOp,resolve,hu,Deferred.ofValue,Sem.run_bind,Sem.run_pure,Result.andThen_ok,invoke]
    rw [hx];rcases CT hw hG hI hargs with ⟨e1,c⟩ | ⟨v,w',e1,c⟩
    ·rw [e1];show Calls P g _ w _;exact c.mono λe w' ⟨v,he,hret⟩=>⟨v,he,hn v w' hret⟩
    ·rw [e1];exact hn v w' c
   ·rename_i i hev;have hf:=R7 (cJ hG hS f);rw [hev] at hf;simp only [Rp] at hf;obtain ⟨hlt,hu,l,hl⟩:=hf;have hargs:bK h φ st.T.length (args.toList.map (cQ G st.s)) (args.map a.eval).toList:=by
     simpa using Jb hG hS args.toList
    obtain ⟨f',tmps,as_,body,hy,hr⟩:=hw h φ w (args.map a.eval) l hG hI hargs (by rw [←hu,hl]);unfold nT;have hx:(execOp a.eval { dst:=dst,op:=.call { callee:=.value f,args:=args,argTypes:=argTypes },type:=ty,pos:=pos,after:=after,guard:=guard }).run P w=(Instr.yield l (args.map a.eval)).run P w:=by
     simp only [execOp,resolve,hl,Deferred.ofValue,Sem.run_bind,Sem.run_pure,Result.andThen_ok,invoke,T6]
    rw [hx,hy];exact hr.mono λe w' ⟨v,he,hret⟩=>⟨v,he,hn v w' hret⟩
   ·exact hw.elim
  | builtin b =>
   cases b with
   | len =>
    simp only at hc;split at hc
    ·rename_i t x hts hargs;have ha:args=#[x]:=CK.1 (by rw [hargs]);subst ha;have hex:execOp a.eval { dst:=dst,op:=.call { callee:=.builtin .len,args:=#[x],argTypes:=argTypes },type:=ty,pos:=pos,after:=after,guard:=guard }=(do pure (.value (←Builtin.len_ argTypes ty #[a.eval x]))):=by
      simp [execOp,resolve,invoke,builtin]
     split at hc
     ·rename_i ht;injection hc with hc;subst hc;exact pure_op (sv:=Builtin.len_ argTypes ty #[a.eval x]) hex (by simp) λy T' he=>Rz ht hG hS hts he
     ·rename_i e ht;injection hc with hc;subst hc;exact pure_op (sv:=Builtin.len_ argTypes ty #[a.eval x]) hex (by simp) λy T' he=>R1 ht hG hI hS hts he
     ·simp at hc
    ·simp at hc
   | append =>
    simp only at hc;split at hc
    ·rename_i t t' x y hts hargs;have ha:args=#[x,y]:=CK.1 (by rw [hargs]);subst ha;split at hc
     ·simp at hc
     ·rename_i htt;have htt':t'=t:=by simpa using htt
      subst htt';have hat:argTypes=#[t',t']:=CK.1 (by rw [hts]);subst hat;split at hc
      ·rename_i e ht;split at hc
       ·rename_i i hi;split at hc
        ·rename_i z hz;split at hc
         ·rename_i hcs;injection hc with hc;subst hc;have hex:execOp a.eval { dst:=dst,op:=.call { callee:=.builtin .append,args:=#[x,y],argTypes:=#[t',t'] },type:=ty,pos:=pos,after:=after,guard:=guard }=(do pure (.value (←Builtin.append_ #[t',t'] ty #[a.eval x,a.eval y]))):=by
           simp [execOp,resolve,invoke,builtin]
          exact make_op (sv:=Builtin.append_ #[t',t'] ty #[a.eval x,a.eval y]) hex (by simp) λr T' he=>Vl ht hi hz hcs.1 hcs.2 hG hI hS he
         ·simp at hc
        ·simp at hc
       ·simp at hc
      ·simp at hc
    ·simp at hc
   | _=>simp at hc
  | invoke _ _=>simp at hc
 | _=>simp [eF] at hc
end
end
end Hud
