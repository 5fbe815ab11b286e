import Derived.Test.YthlndebkfkanbaaGreatDoorLib03
set_option linter.all false
namespace Hud
open Go
section
section
variable {P:Program} {G:Nat->Option (List AV)} {h:GH} {φ:Nat->Value} {w:World} {a:Act} {st:St} {K:AV->Tab->Prop} {next:Act->World->Prop} {Q:Exit->Act->World->Prop}
def mA (P:Program) (o:Oper) (a:Act) (w:World) (next:Act->World->Prop):Prop :=
 match (execOp a.eval o).run P w with
 | .ok (.value v) w'=>next (a.put o.dst v) w'
 | .ok .skip w'=>next (a.put o.dst undef) w'
 | .ok (.enter f args) w'=>Calls P f args w' fun e w''=>∃ v,e=.returned v/\next (a.put o.dst v) w''
 | .ok (.round l f tmps as_ body) w'=>RoundIn Fence.wide 0 P l f tmps as_ body w' fun e w''=>∃ v,e=.returned v/\next (a.put o.dst v) w''
 | _=>False
theorem oS {o:Oper} {sv:Sem Value} (he:execOp a.eval o=(do pure (.value (<-sv)))) {v:Value} {w':World} (hr:sv.run P w=.ok v w') (hn:next (a.put o.dst v) w'):mA P o a w next:=by
 unfold mA
 rw [he]
 simp only [Sem.run_bind,hr,Result.andThen_ok,Sem.run_pure]
 exact hn
theorem mX {T:Tab} (hI:Inv h φ w T) {x:AV} {v:Value} (hx:Rp h φ T.length x v) {K:AV->Tab->Prop} (hk:K x T):Ret h φ T w K v w :=
 ⟨x,T,h,φ,hk,Evo.refl,hI,hx⟩
theorem xK {T T':Tab} {x:AV} {r:Result Value} (hm:fE h φ T w r x T') {K:AV->Tab->Prop} (hk:K x T'):∃ v w',r=.ok v w'/\Ret h φ T w K v w' :=
 let ⟨v,w',h',φ',e1,e2,e3,e4⟩:=hm
 ⟨v,w',e1,x,T',h',φ',hk,e2,e3,e4⟩
theorem aCj {ho:HOp} (hcall:(∀ f l,ho≠.call f l)/\(∀ p,ho≠.nxt p)/\∀ n k x,ho≠.nilS n k x) (hw:opW P G st ho K):∃ x T',hop st.T (evO G st.s) ho=some (x,T')/\K x T':=by
 unfold opW at hw
 split at hw
 ·exact absurd rfl (hcall.1 _ _)
 ·exact absurd rfl (hcall.2.1 _)
 ·exact absurd rfl (hcall.2.2 _ _ _)
 ·split at hw
  ·rename_i x T' e;exact ⟨x,T',e,hw⟩
  ·exact hw.elim
theorem aHX {n:Nat} {x:AV} {u:Value} {cs:List AV} (hx:Rp h φ n x u) (e:aPb x=some cs):∃ us:Array Value,u=.agg us/\RpL h φ n cs us.toList:=by
 unfold aPb at e
 split at e
 ·injection e with e;subst e
  simpa only [Rp] using hx
 ·injection e with e;subst e
  simp only [Rp] at hx
  exact ⟨_,hx,aIA h φ n _⟩
 ·simp at e
theorem aIG {n:Nat}:∀ {ks:List LK} {cs ds:List AV} {us vs:List Value} {b:Bool},eqC ks cs ds=some b->RpL h φ n cs us->RpL h φ n ds vs->eqV ks us vs=some b
 | [],cs,ds,us,vs,b,e,h1,h2=>by
  cases cs with
  | nil =>
   cases ds with
   | nil=>simp only [RpL] at h1 h2;subst h1;subst h2;simpa [eqC,eqV] using e
   | cons d ds=>simp [eqC] at e
  | cons c cs=>simp [eqC] at e
 | k::ks,cs,ds,us,vs,b,e,h1,h2=>by
  unfold eqC at e
  split at e
  ·rename_i hh;simp at hh
  ·rename_i k ks' k1 p cs k2 q ds hh
   injection hh with hh1 hh2
   subst hh1;subst hh2
   simp only [RpL,Rp] at h1 h2
   obtain ⟨u,us',rfl,rfl,h3⟩:=h1
   obtain ⟨v,vs',rfl,rfl,h4⟩:=h2
   split at e
   ·rename_i hk
    split at e
    ·rename_i r hr
     have:=aIG hr h3 h4
     simp only [eqV,hk,this,and_self,if_true]
     exact e
    ·simp at e
   ·simp at e
  ·rename_i ks' p cs q ds hh
   injection hh with hh1 hh2
   subst hh1;subst hh2
   simp only [RpL,Rp] at h1 h2
   obtain ⟨u,us',rfl,rfl,h3⟩:=h1
   obtain ⟨v,vs',rfl,rfl,h4⟩:=h2
   split at e
   ·rename_i r hr
    have:=aIG hr h3 h4
    simp only [eqV,this]
    exact e
   ·simp at e
  ·rename_i ks' p cs q ds hh
   injection hh with hh1 hh2
   subst hh1;subst hh2
   simp only [RpL,Rp] at h1 h2
   obtain ⟨u,us',rfl,rfl,h3⟩:=h1
   obtain ⟨v,vs',rfl,rfl,h4⟩:=h2
   split at e
   ·rename_i r hr
    have:=aIG hr h3 h4
    simp only [eqV,this]
    exact e
   ·simp at e
  ·simp at e
theorem aLy {n:Nat} {t:TypeId} {fs:Array Field} (ht:P.underlying t=some (.struct fs)) {ag:Bool} {ks:List LK} (hk:dS P n t=some (ag,ks)):ag=true:=by
 cases n with
 | zero=>simp [dS] at hk
 | succ n =>
  simp only [dS,ht] at hk
  split at hk
  ·simp at hk
  ·split at hk
   ·injection hk with hk;injection hk with hk _;exact hk.symm
   ·simp at hk
set_option maxHeartbeats 4000000 in
theorem aUp {o:Oper} {ho:HOp} (hc:dB P o=some ho) (hw:opW P G st ho K) (hG:GOk G h) (hI:Inv h φ w st.T) (hS:SOk h φ st.T.length st.s a)
  (hn:∀ v w',Ret h φ st.T w K v w'->next (a.put o.dst v) w'):mA P o a w next:=by
 have pure_op:∀ {sv:Sem Value} (_:execOp a.eval o=(do pure (.value (<-sv)))) (_:(∀ f l,ho≠.call f l)/\(∀ p,ho≠.nxt p)/\∀ n k x,ho≠.nilS n k x) (_:∀ x T',hop st.T (evO G st.s) ho=some (x,T')->T'=st.T/\∃ v,sv.run P w=.ok v w/\Rp h φ st.T.length x v),mA P o a w next:=by
  intro sv he hcall hrun
  obtain ⟨x,T',e,hk⟩:=aCj hcall hw
  obtain ⟨rfl,v,h1,h2⟩:=hrun x T' e
  exact oS he h1 (hn v w (mX hI h2 hk))
 have make_op:∀ {sv:Sem Value} (_:execOp a.eval o=(do pure (.value (<-sv)))) (_:(∀ f l,ho≠.call f l)/\(∀ p,ho≠.nxt p)/\∀ n k x,ho≠.nilS n k x) (_:∀ x T',hop st.T (evO G st.s) ho=some (x,T')->fE h φ st.T w (sv.run P w) x T'),mA P o a w next:=by
  intro sv he hcall hrun
  obtain ⟨x,T',e,hk⟩:=aCj hcall hw
  obtain ⟨v,w',h1,h2⟩:=xK (hrun x T' e) hk
  exact oS he h1 (hn v w' h2)
 obtain ⟨dst,op,ty,pos,after,guard⟩:=o
 cases op with
 | move x =>
  simp only [dB,Option.some.injEq] at hc
  subst hc
  refine pure_op (sv:=pure (a.eval x)) rfl (by simp) fun y T' e=>?_
  simp only [hop,Option.some.injEq,Prod.mk.injEq] at e
  obtain ⟨rfl,rfl⟩:=e
  exact ⟨rfl,_,rfl,bP hG hS x⟩
 | assign x =>
  simp only [dB,Option.some.injEq] at hc
  subst hc
  refine pure_op (sv:=pure (a.eval x)) rfl (by simp) fun y T' e=>?_
  simp only [hop,Option.some.injEq,Prod.mk.injEq] at e
  obtain ⟨rfl,rfl⟩:=e
  exact ⟨rfl,_,rfl,bP hG hS x⟩
 | pick c x y =>
  simp only [dB,Option.some.injEq] at hc
  subst hc
  obtain ⟨z,T',e,hk⟩:=aCj (by simp) hw
  simp only [hop] at e
  split at e
  ·rename_i t ht
   simp only [Option.some.injEq,Prod.mk.injEq] at e
   obtain ⟨rfl,rfl⟩:=e
   unfold mA
   have:execOp a.eval { dst:=dst,op:=.pick c x y,type:=ty,pos:=pos,after:=after,guard:=guard }=(do pure (.value (if <-asBool (a.eval c) then a.eval x else a.eval y))):=rfl
   rw [this,iV hG hS ht]
   simp only [Sem.run_bind,asBool,Sem.run_pure,Result.andThen_ok]
   refine hn _ _ (mX hI ?_ hk)
   cases t
   ·exact bP hG hS y
   ·exact bP hG hS x
  ·simp at e
 | binOp op t x y ty2 =>
  simp only [dB] at hc
  split at hc
  ·rename_i hop'
   split at hc
   ·injection hc with hc
    subst hc
    refine pure_op (sv:=do eqGuard op t x y (a.eval x) (a.eval y);binOp op t (a.eval x) (a.eval y)) rfl (by simp) fun z T' e=>?_
    simp only [hop] at e
    split at e
    ·rename_i u v hu hv
     split at e
     ·rename_i r hr
      simp only [Option.some.injEq,Prod.mk.injEq] at e
      obtain ⟨rfl,rfl⟩:=e
      rw [iV hG hS hu,iV hG hS hv]
      exact ⟨rfl,r,aNR hr,by simp [Rp]⟩
     ·simp at e
    ·simp at e
   ·rename_i ht
    injection hc with hc
    subst hc
    refine pure_op (sv:=do eqGuard op t x y (a.eval x) (a.eval y);binOp op t (a.eval x) (a.eval y)) rfl (by simp) fun z T' e=>?_
    simp only [hop] at e
    split at e
    ·rename_i u v hu hv
     simp only [Option.some.injEq,Prod.mk.injEq] at e
     obtain ⟨rfl,rfl⟩:=e
     rw [iV hG hS hu,iV hG hS hv]
     exact ⟨rfl,_,aYO hop' ht,by simp [Rp]⟩
    ·simp at e
   ·injection hc with hc
    subst hc
    refine pure_op (sv:=do eqGuard op t x y (a.eval x) (a.eval y);binOp op t (a.eval x) (a.eval y)) rfl (by simp) fun z T' e=>?_
    simp only [hop] at e
    split at e
    ·rename_i u v hu hv
     split at e
     ·rename_i r hr
      simp only [Option.some.injEq,Prod.mk.injEq] at e
      obtain ⟨rfl,rfl⟩:=e
      rw [iV hG hS hu,iV hG hS hv]
      exact ⟨rfl,r,aNR hr,by simp [Rp]⟩
     ·simp at e
    ·simp at e
   ·
    rename_i fs ht
    split at hc
    ·rename_i ag ks hk
     split at hc
     ·simp at hc
     ·rename_i hgd
      injection hc with hc
      subst hc
      refine pure_op (sv:=do eqGuard op t x y (a.eval x) (a.eval y);binOp op t (a.eval x) (a.eval y)) rfl (by simp) fun z T' e=>?_
      simp only [hop] at e
      split at e
      ·rename_i cs ds h1 h2
       split at e
       ·rename_i b hb
        simp only [Option.some.injEq,Prod.mk.injEq] at e
        obtain ⟨rfl,rfl⟩:=e
        obtain ⟨us,e1,r1⟩:=aHX (bP hG hS x) h1
        obtain ⟨vs,e2,r2⟩:=aHX (bP hG hS y) h2
        have hag:ag=true:=aLy ht hk
        subst hag
        have hq:=(aBX (P:=P) (w:=w) 20 t true ks hk).2 10000 (by omega) us.toList vs.toList b (aIG hb r1 r2)
        simp only [fD,if_true,Array.toArray_toList] at hq
        rw [e1,e2]
        have hg2:P.eqGuardType P.depth t=false:=by simpa using hgd
        refine ⟨rfl,.bool (if op==.neq then !b else b),?_,by simp [Rp]⟩
        rcases hop' with rfl | rfl
        ·simp only [Sem.run_bind,run_eqGuard_agg w .eql t x y us vs hg2,Result.andThen_ok,run_eql_struct w t us vs,hq]
         rfl
        ·simp only [Sem.run_bind,run_eqGuard_agg w .neq t x y us vs hg2,Result.andThen_ok,run_neq_struct w t us vs,hq]
         rfl
       ·simp at e
      ·simp at e
    ·simp at hc
   ·simp at hc
  ·injection hc with hc
   subst hc
   refine pure_op (sv:=do eqGuard op t x y (a.eval x) (a.eval y);binOp op t (a.eval x) (a.eval y)) rfl (by simp) fun z T' e=>?_
   simp only [hop] at e
   split at e
   ·rename_i u v hu hv
    split at e
    ·rename_i r hr
     simp only [Option.some.injEq,Prod.mk.injEq] at e
     obtain ⟨rfl,rfl⟩:=e
     rw [iV hG hS hu,iV hG hS hv]
     exact ⟨rfl,r,aNR hr,by simp [Rp]⟩
    ·simp at e
   ·simp at e
 | unOp op t x =>
  simp only [dB,Option.some.injEq] at hc
  subst hc
  refine pure_op (sv:=Op.unary op (a.eval x)) rfl (by simp) fun z T' e=>?_
  simp only [hop] at e
  split at e
  ·rename_i u hu
   split at e
   ·rename_i r hr
    simp only [Option.some.injEq,Prod.mk.injEq] at e
    obtain ⟨rfl,rfl⟩:=e
    rw [iV hG hS hu]
    exact ⟨rfl,r,bAq hr,by simp [Rp]⟩
   ·simp at e
  ·simp at e
 | convert src d x =>
  simp only [dB] at hc
  split at hc
  ·rename_i sd k hs hd
   injection hc with hc
   subst hc
   refine pure_op (sv:=convert src d (a.eval x)) rfl (by simp) fun z T' e=>?_
   simp only [hop] at e
   split at e
   ·rename_i kk n hu
    simp only [Option.some.injEq,Prod.mk.injEq] at e
    obtain ⟨rfl,rfl⟩:=e
    rw [iV hG hS hu]
    exact ⟨rfl,_,by simp [convert,run_underlying hs,run_underlying hd,Conv.intToInt];rfl,by simp [Rp]⟩
   ·simp at e
  ·simp at hc
 | box e x =>
  simp only [dB,Option.some.injEq] at hc
  subst hc
  exact make_op (sv:=Instr.box e (a.eval x)) rfl (by simp) fun z T' he=>aUi hG hI hS he
 | alloc e =>
  simp only [dB] at hc
  split at hc
  ·rename_i i hi
   split at hc
   ·rename_i z hz
    split at hc
    ·injection hc with hc
     subst hc
     exact make_op (sv:=Instr.alloc e true (.tuple #[])) rfl (by simp) fun z T' he=>aPd hI hi hz he
    ·simp at hc
   ·simp at hc
  ·simp at hc
 | build t parts =>
  simp only [dB] at hc
  split at hc
  ·rename_i fs i ht hi
   split at hc
   ·rename_i z l hz hl
    split at hc
    ·rename_i hall
     injection hc with hc
     subst hc
     exact pure_op (sv:=Instr.build t (parts.map fun (i,x)=>(i,a.eval x))) rfl (by simp) fun y T' he=>aRg ht hi hz hl hall hG hS he
    ·simp at hc
   ·simp at hc
  ·simp at hc
 | buildSlice t len parts =>
  simp only [dB] at hc
  split at hc
  ·rename_i e ht
   split at hc
   ·rename_i i hi
    split at hc
    ·rename_i z hz
     split at hc
     ·rename_i hcs
      injection hc with hc
      subst hc
      exact make_op (sv:=Instr.buildSlice t len (parts.map fun (i,x)=>(i,a.eval x))) rfl (by simp) fun y T' he=>aUl ht hi hz hcs.1 hcs.2.1 hcs.2.2.1 hcs.2.2.2 hG hI hS he
     ·simp at hc
    ·simp at hc
   ·simp at hc
  ·simp at hc
 | load t x =>
  simp only [dB] at hc
  split at hc
  ·rename_i n ht
   injection hc with hc
   subst hc
   exact pure_op (sv:=Instr.loadAt t (a.eval x)) rfl (by simp) fun y T' he=>aIy ht hG hI hS he
  ·simp at hc
 | store t x y =>
  simp only [dB] at hc
  split at hc
  ·rename_i n ht
   injection hc with hc
   subst hc
   obtain ⟨z,T',e,hk⟩:=aCj (by simp) hw
   obtain ⟨w',h1,rfl,h2,h3⟩:=aW4 ht hG hI hS e
   unfold mA
   have:execOp a.eval { dst:=dst,op:=.store t x y,type:=ty,pos:=pos,after:=after,guard:=guard }=(do Instr.storeAt t (a.eval x) (a.eval y);pure .skip):=rfl
   rw [this]
   simp only [Sem.run_bind,h1,Result.andThen_ok,Sem.run_pure]
   exact hn undef w' ⟨_,T',h,φ,hk,h2,h3,by simp [Rp]⟩
  ·simp at hc
 | fieldAddr t x f =>
  simp only [dB] at hc
  split at hc
  ·rename_i fs ht
   split at hc
   ·rename_i fd hf
    split at hc
    ·rename_i n hn'
     split at hc
     ·simp at hc
     ·rename_i h0
      injection hc with hc
      subst hc
      exact pure_op (sv:=Instr.fieldAt t (a.eval x) f) rfl (by simp) fun y T' he=>aUe ht hf hn' h0 hG hS he
    ·simp at hc
   ·simp at hc
  ·simp at hc
 | field t x f =>
  simp only [dB] at hc
  split at hc
  ·rename_i fs ht
   split at hc
   ·rename_i fd hf
    split at hc
    ·rename_i m hm
     injection hc with hc
     subst hc
     exact pure_op (sv:=Instr.field t (a.eval x) f) rfl (by simp) fun y T' he=>aUf ht hf hm hG hS he
    ·simp at hc
   ·simp at hc
  ·simp at hc
 | indexAddr t x ix =>
  simp only [dB] at hc
  split at hc
  ·rename_i e ht
   split at hc
   ·rename_i k hk
    split at hc
    ·simp at hc
    ·injection hc with hc
     subst hc
     exact pure_op (sv:=Instr.indexAt t (a.eval x) (a.eval ix)) rfl (by simp) fun y T' he=>aUg ht hk hG hI hS he
   ·simp at hc
  ·rename_i len e ht
   split at hc
   ·rename_i k hk
    injection hc with hc
    subst hc
    exact pure_op (sv:=Instr.indexAt t (a.eval x) (a.eval ix)) rfl (by simp) fun y T' he=>aRc ht hk hG hS he
   ·simp at hc
  ·simp at hc
 | index t x ix =>
  simp only [dB] at hc
  split at hc
  ·rename_i ht
   injection hc with hc
   subst hc
   exact pure_op (sv:=Instr.index t (a.eval x) (a.eval ix)) rfl (by simp) fun y T' he=>aUh ht hG hS he
  ·simp at hc
 | extract x i =>
  simp only [dB,Option.some.injEq] at hc
  subst hc
  refine pure_op (sv:=Instr.extract (a.eval x) i) rfl (by simp) fun y T' e=>?_
  have hx:=bP hG hS x
  simp only [hop] at e
  split at e
  ·rename_i vs hev
   rw [hev] at hx
   simp only [Rp] at hx
   obtain ⟨us,hu,hr⟩:=hx
   split at e
   ·rename_i z hz
    simp only [Option.some.injEq,Prod.mk.injEq] at e
    obtain ⟨rfl,rfl⟩:=e
    obtain ⟨u,h1,h2⟩:=hr.get hz
    have:us[i]?=some u:=by simpa using h1
    rw [hu]
    exact ⟨rfl,u,by simp [Instr.extract,this],h2⟩
   ·simp at e
  ·rename_i us hev
   rw [iV hG hS hev]
   split at e
   ·rename_i z hz
    simp only [Option.some.injEq,Prod.mk.injEq] at e
    obtain ⟨rfl,rfl⟩:=e
    have:us[i]?=some z:=by simpa using hz
    exact ⟨rfl,z,by simp [Instr.extract,this],by simp [Rp]⟩
   ·simp at e
  ·simp at e
 | nilCheck x =>
  simp only [dB,Option.some.injEq] at hc
  subst hc
  obtain ⟨z,T',e,hk⟩:=aCj (by simp) hw
  have hx:=bP hG hS x
  have key:z=evO G st.s x/\T'=st.T/\∃ ad,a.eval x=.pointer (some ad):=by
   simp only [hop] at e
   split at e
   ·rename_i i o hev
    simp only [Option.some.injEq,Prod.mk.injEq] at e
    rw [hev] at hx;simp only [Rp] at hx
    obtain ⟨_,g,_,hu⟩:=hx
    exact ⟨by rw [hev];exact e.1.symm,e.2.symm,_,hu⟩
   ·rename_i i k j o hev
    simp only [Option.some.injEq,Prod.mk.injEq] at e
    rw [hev] at hx;simp only [Rp] at hx
    obtain ⟨_,g,_,_,_,hu⟩:=hx
    exact ⟨by rw [hev];exact e.1.symm,e.2.symm,_,hu⟩
   ·rename_i cs hev
    simp only [Option.some.injEq,Prod.mk.injEq] at e
    rw [hev] at hx;simp only [Rp] at hx
    obtain ⟨_,_,hu,_⟩:=hx
    exact ⟨by rw [hev];exact e.1.symm,e.2.symm,_,hu⟩
   ·simp at e
  obtain ⟨rfl,rfl,ad,hu⟩:=key
  unfold mA
  have:execOp a.eval { dst:=dst,op:=.nilCheck x,type:=ty,pos:=pos,after:=after,guard:=guard }=pure (.value (a.eval x)):=by
   simp only [execOp,hu]
  rw [this]
  simp only [Sem.run_pure]
  exact hn _ _ (mX hI hx hk)
 | makeFunc fn first caps =>
  cases fn with
  | func f =>
   simp only [dB] at hc
   split at hc
   ·rename_i h0
    injection hc with hc
    subst hc
    refine pure_op (sv:=Instr.makeFunc (.func f) (first.map a.eval) (caps.map a.eval)) rfl (by simp) fun y T' e=>?_
    simp only [hop,Option.some.injEq,Prod.mk.injEq] at e
    obtain ⟨rfl,rfl⟩:=e
    have hf:first=#[]:=Array.eq_empty_of_size_eq_zero h0
    subst hf
    refine ⟨rfl,.func (.func f) #[] (caps.map a.eval),by simp [Instr.makeFunc],?_⟩
    simp only [Rp]
    exact ⟨_,rfl,by simpa using aIu hG hS caps.toList⟩
   ·simp at hc
  | _=>simp [dB] at hc
 | call c =>
  obtain ⟨callee,args,argTypes⟩:=c
  simp only [dB] at hc
  cases callee with
  | value f =>
   simp only [Option.some.injEq] at hc
   subst hc
   unfold opW at hw
   simp only at hw
   split at hw
   ·rename_i g caps hev
    have hf:=bP hG hS f
    rw [hev] at hf
    simp only [Rp] at hf
    obtain ⟨us,hu,hr⟩:=hf
    have hargs:RpL h φ st.T.length (args.toList.map (evO G st.s)++caps) (args.map a.eval++us).toList:=by
     simpa using (aIu hG hS args.toList).app hr
    unfold mA
    have hx:∀ wx,(execOp a.eval { dst:=dst,op:=.call { callee:=.value f,args:=args,argTypes:=argTypes },type:=ty,pos:=pos,after:=after,guard:=guard }).run P wx=(callFunc g (args.map a.eval++us)).run P wx:=by
     intro wx
     simp only [execOp,resolve,hu,Deferred.ofValue,Sem.run_bind,Sem.run_pure,Result.andThen_ok,invoke,Array.empty_append]
    rw [hx]
    rcases aE1 hw hG hI hargs with ⟨e1,c⟩ | ⟨v,w',e1,c⟩
    ·rw [e1]
     show Calls P g _ w _
     exact c.mono fun e w' ⟨v,he,hret⟩=>⟨v,he,hn v w' hret⟩
    ·rw [e1]
     exact hn v w' c
   ·rename_i g k cs hev
    have hf:=bP hG hS f
    rw [hev] at hf
    simp only [Rp] at hf
    obtain ⟨us,hu,hr⟩:=hf
    have hargs:RpL h φ st.T.length (cs.take k++args.toList.map (evO G st.s)++cs.drop k) ((us.toList.take k).toArray++args.map a.eval++(us.toList.drop k).toArray).toList:=by
     simpa using ((hr.take k).app (aIu hG hS args.toList)).app (hr.drop k)
    unfold mA
    have hx:∀ wx,(execOp a.eval { dst:=dst,op:=.call { callee:=.value f,args:=args,argTypes:=argTypes },type:=ty,pos:=pos,after:=after,guard:=guard }).run P wx=(callFunc g ((us.toList.take k).toArray++args.map a.eval++(us.toList.drop k).toArray)).run P wx:=by
     intro wx
     simp only [execOp,resolve,hu,Deferred.ofValue,Sem.run_bind,Sem.run_pure,Result.andThen_ok,invoke]
    rw [hx]
    rcases aE1 hw hG hI hargs with ⟨e1,c⟩ | ⟨v,w',e1,c⟩
    ·rw [e1]
     show Calls P g _ w _
     exact c.mono fun e w' ⟨v,he,hret⟩=>⟨v,he,hn v w' hret⟩
    ·rw [e1]
     exact hn v w' c
   ·rename_i i hev
    have hf:=bP hG hS f
    rw [hev] at hf
    simp only [Rp] at hf
    obtain ⟨hlt,hu,l,hl⟩:=hf
    have hargs:RpL h φ st.T.length (args.toList.map (evO G st.s)) (args.map a.eval).toList:=by
     simpa using aIu hG hS args.toList
    obtain ⟨f',tmps,as_,body,hy,hr⟩:=hw h φ w (args.map a.eval) l hG hI hargs (by rw [<-hu,hl])
    unfold mA
    have hx:(execOp a.eval { dst:=dst,op:=.call { callee:=.value f,args:=args,argTypes:=argTypes },type:=ty,pos:=pos,after:=after,guard:=guard }).run P w=(Instr.yield l (args.map a.eval)).run P w:=by
     simp only [execOp,resolve,hl,Deferred.ofValue,Sem.run_bind,Sem.run_pure,Result.andThen_ok,invoke,Array.empty_append]
    rw [hx,hy]
    exact hr.mono fun e w' ⟨v,he,hret⟩=>⟨v,he,hn v w' hret⟩
   ·exact hw.elim
  | builtin b =>
   cases b with
   | len =>
    simp only at hc
    split at hc
    ·rename_i t x hts hargs
     have ha:args=#[x]:=Array.toList_inj.1 (by rw [hargs])
     subst ha
     have hex:execOp a.eval { dst:=dst,op:=.call { callee:=.builtin .len,args:=#[x],argTypes:=argTypes },type:=ty,pos:=pos,after:=after,guard:=guard }=(do pure (.value (<-Builtin.len_ argTypes ty #[a.eval x]))):=by
      simp [execOp,resolve,invoke,builtin]
     split at hc
     ·rename_i ht
      injection hc with hc
      subst hc
      exact pure_op (sv:=Builtin.len_ argTypes ty #[a.eval x]) hex (by simp) fun y T' he=>aRd ht hG hS hts he
     ·rename_i e ht
      injection hc with hc
      subst hc
      exact pure_op (sv:=Builtin.len_ argTypes ty #[a.eval x]) hex (by simp) fun y T' he=>aRe ht hG hI hS hts he
     ·simp at hc
    ·simp at hc
   | append =>
    simp only at hc
    split at hc
    ·rename_i t t' x y hts hargs
     have ha:args=#[x,y]:=Array.toList_inj.1 (by rw [hargs])
     subst ha
     split at hc
     ·simp at hc
     ·rename_i htt
      have htt':t'=t:=by simpa using htt
      subst htt'
      have hat:argTypes=#[t',t']:=Array.toList_inj.1 (by rw [hts])
      subst hat
      split at hc
      ·rename_i e ht
       split at hc
       ·rename_i i hi
        split at hc
        ·rename_i z hz
         split at hc
         ·rename_i hcs
          injection hc with hc
          subst hc
          have hex:execOp a.eval { dst:=dst,op:=.call { callee:=.builtin .append,args:=#[x,y],argTypes:=#[t',t'] },type:=ty,pos:=pos,after:=after,guard:=guard }=(do pure (.value (<-Builtin.append_ #[t',t'] ty #[a.eval x,a.eval y]))):=by
           simp [execOp,resolve,invoke,builtin]
          exact make_op (sv:=Builtin.append_ #[t',t'] ty #[a.eval x,a.eval y]) hex (by simp) fun r T' he=>aUn ht hi hz hcs.1 hcs.2 hG hI hS he
         ·simp at hc
        ·simp at hc
       ·simp at hc
      ·simp at hc
    ·simp at hc
   | _=>simp at hc
  | invoke _ _=>simp at hc
 | _=>simp [dB] at hc
end
end
end Hud
