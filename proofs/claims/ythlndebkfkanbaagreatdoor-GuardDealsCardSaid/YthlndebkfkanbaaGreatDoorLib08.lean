import Derived.Test.YthlndebkfkanbaaGreatDoorLib07
import Derived.Attr
import Derived.Test.YthlndebkfkanbaaGreatDoorProg
set_option linter.all false
namespace Hud
open Go
section
def lN:Nat->List AV->List (Nat×AV)
 | _,[]=>[]
 | i,x::r=>(i,x)::lN (i+1) r
def aD6:List AV->AV
 | [x]=>x
 | l=>.tup l
def aWr (st:St) (p:Nat×Option (Option Nat)):Option AV:=match p.2 with
 | none=>some (aK st.s p.1)
 | some n=>match hop st.T (evO (fun _=>none) st.s) (.ld n (.tmp p.1)) with
  | some (x,_)=>some x
  | none=>none
def aFv (st:St):List (Nat×Option (Option Nat))->Option (List AV)
 | []=>some []
 | p::r=>match aWr st p with
  | some x=>match aFv st r with
   | some l=>some (x::l)
   | none=>none
  | none=>none
def aPG (rs:List (Nat×Option (Option Nat))) (post:AV->Tab->Prop) (st:St):Prop :=
 match aFv st rs with
 | some l =>
  let r:=aD6 l
  let L:=pT st.T (List.range st.r++eN r)
  post (rnA L r) (rnT L st.T)\/post r st.T
 | none=>False
def aTf (rs:List (Nat×Option (Option Nat))) (post:AV->Tab->Prop):Ex->St->Prop
 | .normal,st=>aPG rs post st
 | .ret,st=>aPG rs post st
 | _,_=>False
def bAw (P:Program) (G:Nat->Option (List AV)) (hf:HFun) (args:List AV) (T:Tab) (post:AV->Tab->Prop):Prop :=
 cF P G hf.code (aTf hf.res post) ⟨T.length,lN 0 args,T⟩
theorem aFw:∀ (i:Nat) (l:List AV),aFn (lN i l)/\∀ j x,(j,x)∈lN i l->i<=j
 | i,[]=>⟨fun _ _ _ h=>by simp [lN] at h,fun _ _ h=>by simp [lN] at h⟩
 | i,x::l=>by
  obtain ⟨h1,h2⟩:=aFw (i+1) l
  refine ⟨fun j a b ha hb=>?_,fun j a ha=>?_⟩
  ·simp only [lN,List.mem_cons,Prod.mk.injEq] at ha hb
   rcases ha with ⟨rfl,rfl⟩ | ha<;>rcases hb with ⟨hb1,rfl⟩ | hb
   ·rfl
   ·have:=h2 _ _ hb;omega
   ·subst hb1;have:=h2 _ _ ha;omega
   ·exact h1 j a b ha hb
  ·simp only [lN,List.mem_cons,Prod.mk.injEq] at ha
   rcases ha with ⟨rfl,_⟩ | ha
   ·exact Nat.le_refl _
   ·have:=h2 _ _ ha;omega
section
variable {P:Program} {G:Nat->Option (List AV)} {h:GH} {φ:Nat->Value} {n:Nat}
theorem aEe {P:Program} {fn:Func} {tmps:Array Value} {R:Ending->World->Prop} {h0:GH} {φ0:Nat->Value} {T0:Tab} {w0:World} {h:GH} {φ:Nat->Value} {T:Tab}
  (fin:∀ w,Inv h φ w T->Evo h0 φ0 T0 w0 h φ T w->∃ v,(results fn tmps).run P w=.ok v w/\R (.returned v) w):∀ (ds:List Deferred) (w:World),(ds.Pairwise fun x y=>x.target≠y.target) ->
  (∀ d∈ds,∃ D,d.target=.collected D/\w0.heap.size<=D/\w.heap[D]?=some (.deferred (some [])))->Inv h φ w T->Evo h0 φ0 T0 w0 h φ T w->LeavesInM Fence.wide 0 P fn tmps R ds .returning w
 | [],w,_,_,hI,hE=>fin w hI hE
 | d::ds,w,hp,hd,hI,hE=>by
  obtain ⟨D,e1,e2,e3⟩:=hd d (by simp)
  have hk:=run_takeDeferred (P:=P) e3
  refine ⟨by simp,.inl ⟨D,_,e1,hk,?_⟩⟩
  obtain ⟨hp1,hp2⟩:=List.pairwise_cons.1 hp
  refine aEe fin ds _ hp2 (fun d' hm=>?_) ?_ ?_
  ·obtain ⟨D',f1,f2,f3⟩:=hd d' (by simp [hm])
   refine ⟨D',f1,f2,?_⟩
   rw [World.putObj_heap_other fun hDD=>hp1 d' hm (by rw [e1,f1,hDD])]
   exact f3
  ·refine aO3 hI (fun i x hx hb=>aIS (hI.obj i x hx) hb _ e3) ?_ _
   cases hh:h D with
   | none=>rfl
   | some cs =>
    obtain ⟨E,fr,hw⟩:=hI.gh D cs hh
    rw [e3] at hw
    simp at hw
  ·refine ⟨hE.os,hE.tape,hE.output,by simpa using hE.size,fun b hb hn=>?_,hE.le,hE.gfr,hE.phi,hE.org,hE.len,hE.drawn⟩
   rw [World.putObj_heap_other (by omega)]
   exact hE.frame b hb hn
theorem aO8:∀ (i:Nat) (l:List AV) (pre us post:List Value),pre.length=i->RpL h φ n l us->SOk h φ n (lN i l) ⟨(pre++us++post).toArray,[]⟩
 | i,[],pre,us,post,_,_=>fun j=>by simp [lN,aK,Rp]
 | i,x::l,pre,us,post,hp,hr=>by
  simp only [RpL] at hr
  obtain ⟨u,us',rfl,h1,h2⟩:=hr
  have:=aO8 (i+1) l (pre++[u]) us' post (by simp [hp]) h2
  intro j
  simp only [lN,aK]
  split
  ·rename_i hij
   subst hij
   have hg:(pre++u::us'++post).toArray.getD i undef=u:=by
    subst hp
    simp [Array.getD_eq_getD_getElem?]
   rw [hg]
   exact h1
  ·have h3:=this j
   simp only [List.append_assoc,List.singleton_append] at h3 ⊢
   exact h3
def aWs:List Value->Value
 | [v]=>v
 | l=>.tuple l.toArray
theorem aO9 {t:TypeId} {u v:Value} {w w':World} (e:(Instr.loadAt t u).run P w=.ok v w'):(do loadVar t (<-asAddr u):Sem Value).run P w=.ok v w':=by
 have key:∀ (s:String),¬((do loadVar t (<-stuck s):Sem Value).run P w=.ok v w'):=by
  intro s h
  simp [stuck] at h
 cases u with
 | pointer a =>
  cases a with
  | none=>exact absurd e (key _)
  | some a=>exact e
 | _=>exact absurd e (key _)
theorem aPH {fn:Func} {T:Tab} {st:St} {a:Act} {w:World} (hG:GOk G h) (hI:Inv h φ w st.T) (hS:SOk h φ st.T.length st.s a) {rs:List (Nat×Option (Option Nat))} (hr:aJ4 P fn.results.toList=some rs) {l:List AV} (hl:aFv st rs=some l) :
  ∃ vs,(results fn a.tmps).run P w=.ok (aWs vs) w/\RpL h φ st.T.length l vs:=by
 have key:∀ (g:ResultVar->Sem Value),(∀ t,g (.tmp t)=pure (a.tmps.getD t undef))->(∀ i t,g (.cell i t)=(do loadVar t (<-asAddr (a.tmps.getD i undef)):Sem Value)) ->
   ∀ (rv:List ResultVar) (rs:List (Nat×Option (Option Nat))) (l:List AV),aJ4 P rv=some rs->aFv st rs=some l->∃ vs,(rv.mapM g).run P w=.ok vs w/\RpL h φ st.T.length l vs:=by
  intro g hg hgc rv
  induction rv with
  | nil =>
   intro rs l e1 e2
   simp only [aJ4,Option.some.injEq] at e1
   subst e1
   simp only [aFv,Option.some.injEq] at e2
   subst e2
   exact ⟨[],by simp,by simp [RpL]⟩
  | cons x rv ih =>
   intro rs l e1 e2
   have step:∀ (p:Nat×Option (Option Nat)) (rs':List (Nat×Option (Option Nat))),aJ4 P rv=some rs'->rs=p::rs'->(∀ y,aWr st p=some y->∃ v,(g x).run P w=.ok v w/\Rp h φ st.T.length y v)->∃ vs,((x::rv).mapM g).run P w=.ok vs w/\RpL h φ st.T.length l vs:=by
    intro p rs' h1 h2 h3
    subst h2
    simp only [aFv] at e2
    split at e2
    ·rename_i y hy
     split at e2
     ·rename_i l' hl'
      injection e2 with e2
      subst e2
      obtain ⟨v,hv,hrv⟩:=h3 y hy
      obtain ⟨vs,hvs,hrs⟩:=ih rs' l' h1 hl'
      refine ⟨v::vs,?_,?_⟩
      ·rw [List.mapM_cons]
       simp [hv,hvs]
      ·simp only [RpL]
       exact ⟨v,vs,rfl,hrv,hrs⟩
     ·simp at e2
    ·simp at e2
   cases x with
   | tmp t =>
    simp only [aJ4] at e1
    cases hq:aJ4 P rv with
    | none=>simp [hq] at e1
    | some rs' =>
     simp only [hq,Option.map_some,Option.some.injEq] at e1
     refine step (t,none) rs' hq e1.symm fun y hy=>?_
     simp only [aWr,Option.some.injEq] at hy
     subst hy
     exact ⟨_,by rw [hg];simp,hS t⟩
   | cell i t =>
    simp only [aJ4] at e1
    split at e1
    ·rename_i n hn
     cases hq:aJ4 P rv with
     | none=>simp [hq] at e1
     | some rs' =>
      simp only [hq,Option.map_some,Option.some.injEq] at e1
      refine step (i,some n) rs' hq e1.symm fun y hy=>?_
      simp only [aWr] at hy
      split at hy
      ·rename_i y' T' he
       injection hy with hy
       subst hy
       have he':hop st.T (evO G st.s) (.ld n (.tmp i))=some (y',T'):=he
       obtain ⟨_,v,h1,h2⟩:=aIy (P:=P) (w:=w) hn hG hI hS he'
       exact ⟨v,by rw [hgc];exact aO9 h1,h2⟩
      ·simp at hy
    ·simp at e1
 obtain ⟨vs,h1,h2⟩:=key (fun | .tmp t=>pure (a.tmps.getD t undef) | .cell a' t=>do loadVar t (<-asAddr (a.tmps.getD a' undef))) (fun t=>rfl) (fun i t=>rfl) _ _ _ hr hl
 refine ⟨vs,?_,h2⟩
 unfold results
 rw [Sem.run_bind,Array.mapM_eq_mapM_toList,Sem.run_map]
 erw [h1]
 simp only [Result.andThen_ok,Sem.run_pure]
 match vs with
 | []=>rfl
 | [t]=>rfl
 | t::t'::l=>rfl
theorem aYX {l:List AV} {vs:List Value} (hs:RpL h φ n l vs):Rp h φ n (aD6 l) (aWs vs):=by
 match l,vs,hs with
 | [],vs,hs=>simp only [RpL] at hs;subst hs;simp only [aD6,aWs,Rp];exact ⟨_,rfl,by simp [RpL]⟩
 | [x],vs,hs=>simp only [RpL] at hs;obtain ⟨u,us,rfl,h1,rfl⟩:=hs;exact h1
 | x::y::l,vs,hs =>
  have hs':=hs
  simp only [RpL] at hs
  obtain ⟨u,us,rfl,h1,u',us',rfl,h2,h3⟩:=hs
  simp only [aD6,aWs,Rp]
  exact ⟨_,rfl,by simpa using hs'⟩
theorem aTg {f:FuncId} {hf:HFun} {H:List (Nat×Option Nat×Nat)} (hc:aB P f H=some hf) {args:List AV} {T:Tab} {post:AV->Tab->Prop} (hT:True) (hw:bAw P G hf args T post):aD P G f args T post:=by
  unfold aB at hc
  split at hc
  · simp at hc
  · rename_i fn hfn
    split at hc
    · simp at hc
    · rename_i hname
      split at hc
      · rename_i c rs hb hrs
        cases hcc:bD P fn.ntmps H c [] (rs.map (·.1)) (rs.map (·.1)) with
        | none=>simp [hcc] at hc
        | some hcode =>
          simp only [hcc,Option.map_some,Option.some.injEq] at hc
          subst hc
          intro h φ w vals hG hI hA
          refine .inl ⟨?_,?_⟩
          · have hn:¬fn.name = "runtime.NumGoroutine" := by simpa using hname
            simp [callFunc,hfn,hn,hb]
          · have hS0:SInv P G fn.ntmps h φ T w ⟨T.length,lN 0 args,T⟩ ⟨vals++Array.replicate (fn.ntmps-vals.size) undef,[]⟩ w:=by
              refine ⟨rfl,(aFw 0 args).1,⟨h,φ,hG,Evo.refl,hI,?_⟩,by simp;omega,by simp [aCk]⟩
              have:=aO8 (h:=h) (φ:=φ) (n:=T.length) 0 args [] vals.toList (List.replicate (fn.ntmps-vals.size) undef) rfl hA
              have e:vals++Array.replicate (fn.ntmps-vals.size) undef=(vals.toList++List.replicate (fn.ntmps-vals.size) undef).toArray:=by
                apply Array.toList_inj.1;simp
              rw [e]
              simpa only [List.nil_append] using this
            have hwp:c.wpIn Fence.wide 0 P (fun e a' w'=>∃ st',exQ (aTf rs post) e st'/\SInv P G fn.ntmps h φ T w st' a' w') ⟨vals++Array.replicate (fn.ntmps-vals.size) undef,[]⟩ w:=by
              have hro:aYW none φ T w:=fun l hl=>by simp at hl
              rcases aO6 hw with hw | hw
              · exact aJ6 (N:=fn.ntmps) c (ro:=none) hro hcc hw hS0
              · exact aJ6 (N:=fn.ntmps) c (ro:=none) hro hcc hw (hS0.kill _)
            refine callsIn_wide.1 (callsIn_of_wp_marks (n:=0) hfn hb trivial (wpIn_mono hwp ?_))
            · rintro e a' w' ⟨st,hq,hS⟩
              have fin:aPG rs post st->bodyPostM Fence.wide 0 P fn (fun e w'=>∃ v,e=.returned v/\Ret h φ T w post v w') .ret a' w':=by
                intro hq
                obtain ⟨hr,honce,⟨h2,φ2,hG2,hE2,hI2,hSl⟩,hsz,hdf⟩:=hS
                simp only [aPG] at hq
                split at hq
                rotate_left
                · exact hq.elim
                rename_i lr hlr
                refine aEe (fun wf hI2 hE2=>?_) a'.defers w' hdf.1 hdf.2 hI2 hE2
                obtain ⟨vs,hrun,hrl⟩:=aPH (T:=st.T) hG2 hI2 hSl hrs hlr
                refine ⟨_,hrun,_,rfl,?_⟩
                have hres:=aYX hrl
                revert hres
                generalize aWs vs=v
                intro hres
                rcases hq with hq | hq
                · have hS3:SInv P G 0 h φ T w ⟨st.r,[(0,aD6 lr)],st.T⟩ ⟨#[v],[]⟩ wf:=by
                    refine ⟨hr,fun i x y hx hy=>?_,⟨h2,φ2,hG2,hE2,hI2,fun i=>?_⟩,by simp,by simp [aCk]⟩
                    · simp only [List.mem_singleton,Prod.mk.injEq] at hx hy;rw [hx.2,hy.2]
                    · simp only [aK]
                      split
                      · rename_i hi;subst hi;exact hres
                      · simp [Rp]
                  obtain ⟨_,_,⟨h4,φ4,_,hE4,hI4,hS4⟩,_,_⟩:=aB0 (st:=⟨st.r,[(0,aD6 lr)],st.T⟩) [] hS3
                  have h5:=hS4 0
                  have hg:gcs [] ⟨st.r,[(0,aD6 lr)],st.T⟩=⟨st.r,[(0,rnA (pT st.T (List.range st.r++eN (aD6 lr))) (aD6 lr))],rnT (pT st.T (List.range st.r++eN (aD6 lr))) st.T⟩:=by
                    simp [gcs,hZ,mJ,aFg,aLx,rnS]
                  rw [hg] at hE4 hI4 h5
                  exact ⟨_,_,h4,φ4,hq,hE4,hI4,h5⟩
                · exact ⟨_,_,h2,φ2,hq,hE2,hI2,hres⟩
              cases e with
              | normal=>exact fin hq
              | ret=>exact fin hq
              | _=>exact hq.elim
      · simp at hc
end
end
section
def bs (l:List UInt8):ByteArray:=⟨l.toArray⟩
class KC (α:Type) where
 k:α->Prop
class PC where
 p:Prop
class KT where
 k:AV->Tab->Prop
class QC where
 q:Ex->St->Prop
def bF {α:Type} (o:Option α) [c:KC α]:Prop:=match o with | some x=>c.k x | none=>False
def aEf (t:Bool) [A:PC] [B:PC]:Prop:=match t with | true=>A.p | false=>B.p
def aWt (v:AV) [c:KC Bool]:Prop:=match v with | .v (.bool t)=>c.k t | _=>False
@[go_sem] theorem bAx {α:Type} (x:α) (K:α->Prop):@bF α (some x) ⟨K⟩=K x:=Eq.trans rfl rfl
@[go_sem] theorem bDM (A B:Prop):@aEf true ⟨A⟩ ⟨B⟩=A:=Eq.trans rfl rfl
@[go_sem] theorem bDN (A B:Prop):@aEf false ⟨A⟩ ⟨B⟩=B:=Eq.trans rfl rfl
@[go_sem] theorem bDO (t:Bool) (K:Bool->Prop):@aWt (.v (.bool t)) ⟨K⟩=K t:=Eq.trans rfl rfl
theorem bM {t:Bool} {A B:Prop} (ha:t=true->A) (hb:t=false->B):@aEf t ⟨A⟩ ⟨B⟩:=by cases t;exact hb rfl;exact ha rfl
theorem aFx {P:Program} {G:Nat->Option (List AV)} {K K':St->Prop} (h:∀ s,K s->K' s):∀ {os:List HOper} {st:St},aFh P G os st K->aFh P G os st K'
 | [],st,hw=>h st hw
 | o::os,st,hw=>by
  simp only [aFh] at hw ⊢
  split<;>rename_i e<;>simp only [e] at hw
  ·exact xP (fun _ _ hk=>aFx h hk) hw
  ·exact aFx h hw
theorem aD7 {P:Program} {G:Nat->Option (List AV)} {K K':St->Prop} {chk:List HOper} (h:∀ s,K s->K' s):∀ {n:Nat} {os:List HOper} {st:St},aDU P G chk n os st K->aDU P G chk n os st K'
 | 0,_,_,hw=>h _ hw
 | n+1,os,st,hw=>fun i o ho=>by
  have hw:=hw i o ho
  split<;>rename_i e<;>simp only [e] at hw
  ·exact xP (fun _ _ hk=>⟨hk.1,aD7 h hk.2⟩) hw
  ·exact ⟨hw.1,aD7 h hw.2⟩
theorem tL {P:Program} {G:Nat->Option (List AV)} {K K':St->Prop} {p:Plan} (h:∀ s,K s->K' s):∀ {n:Nat} {gc:Bool} {E:List Nat} {st:St},pV P G p n gc E st K->pV P G p n gc E st K'
 | 0,_,_,_,hw=>hw
 | n+1,gc,E,st,hw=>by
  simp only [pV] at hw ⊢
  split<;>rename_i e<;>simp only [e] at hw
  ·split<;>rename_i e2<;>simp only [e2] at hw
   split<;>rename_i e3<;>simp only [e3] at hw
   ·split<;>rename_i e4<;>simp only [e4] at hw
    exact tL h hw
   ·exact tL h hw
  ·split<;>rename_i e2<;>simp only [e2] at hw
   ·exact h _ hw
   ·intro i hi
    obtain ⟨o,h1,h2⟩:=hw i hi
    refine ⟨o,h1,?_⟩
    split<;>rename_i e3<;>simp only [e3] at h2
    ·exact xP (fun _ _ hk=>⟨hk.1,tL h hk.2⟩) h2
    ·exact ⟨h2.1,tL h h2.2⟩
theorem tM {P:Program} {G:Nat->Option (List AV)} {K K':St->Prop} (h:∀ s,K s->K' s):∀ {d:HD} {st:St},hdW P G d st K->hdW P G d st K'
 | .done b,st,hw=>h _ hw
 | .no,st,hw=>trivial
 | .q o n,st,hw=>by
  simp only [hdW] at hw ⊢
  split<;>rename_i e<;>simp only [e] at hw
  ·split<;>rename_i e'<;>simp only [e'] at hw
   exact tM h hw
  ·exact tM h hw
 | .alt o c n m,st,hw=>by
  simp only [hdW] at hw ⊢
  refine ⟨?_,tM h hw.2⟩
  have hw:=hw.1
  split<;>rename_i e<;>simp only [e] at hw
  ·exact xP (fun _ _ hk=>⟨hk.1,tM h hk.2⟩) hw
  ·exact ⟨hw.1,tM h hw.2⟩
 | .perm c o n,st,hw=>by
  simp only [hdW] at hw ⊢
  exact aD7 (fun s hs=>tM h hs) hw
 | .plan hs pr n gc E,st,hw=>by
  simp only [hdW] at hw ⊢
  exact tL h hw
theorem gO {P:Program} {G:Nat->Option (List AV)}:∀ {c:HC} {Q Q':Ex->St->Prop} {st:St},(∀ e s,Q e s->Q' e s)->cF P G c Q st->cF P G c Q' st
 | .skip,_,_,_,h,hw=>h _ _ hw
 | .reg l,_,_,_,h,hw=>aFx (h _) hw
 | .regd d,_,_,_,h,hw=>tM (h _) hw
 | .seq a b,_,_,_,h,hw=>by
  simp only [cF] at hw ⊢
  refine gO (fun e s hq=>?_) hw
  cases e with
  | normal=>exact gO h hq
  | exit i=>exact h _ _ hq
  | ret=>exact h _ _ hq
 | .cond c a b,_,_,_,h,hw=>by
  simp only [cF] at hw ⊢
  split<;>rename_i e<;>simp only [e] at hw
  rename_i t
  cases t
  ·exact gO h hw
  ·exact gO h hw
 | .block i a,_,_,_,h,hw=>by
  simp only [cF] at hw ⊢
  refine gO (fun e s hq=>?_) hw
  cases e with
  | normal=>exact h _ _ hq
  | exit j=>by_cases hj:j=i<;>simp only [hj,if_true,if_false] at hq ⊢<;>exact h _ _ hq
  | ret=>exact h _ _ hq
 | .rng g ps d a b,Q,Q',st,h,hw=>by
  simp only [cF] at hw ⊢
  intro r h1 h2 h3 hy
  have hw:=hw r h1 h2 h3 hy
  split<;>rename_i e<;>simp only [e] at hw
  refine ⟨hw.1,aD5 (fun x T hk=>?_) hw.2⟩
  simp only [aRa] at hk ⊢
  split<;>rename_i e'<;>simp only [e'] at hk
  refine ⟨hk.1,?_⟩
  have hk:=hk.2
  split<;>rename_i e''<;>simp only [e''] at hk<;>exact h _ _ hk
 | .loop d a,_,_,_,h,hw=>by
  obtain ⟨I,h0,hr⟩:=hw
  refine ⟨I,h0,fun n s hs=>gO (fun e s hq=>?_) (hr n s hs)⟩
  cases e with
  | normal=>exact hq
  | exit i=>exact h _ _ hq
  | ret=>exact h _ _ hq
 | .exit i,_,_,_,h,hw=>h _ _ hw
 | .ret,_,_,_,h,hw=>h _ _ hw
 | .kill d,_,_,_,h,hw=>h _ _ hw
 | .own j c k,_,_,_,h,hw=>h _ _ hw
 | .shut j,_,_,_,h,hw=>h _ _ hw
section
variable {P:Program} {G:Nat->Option (List AV)} {st:St}
def aWu (rs:List (Nat×Option (Option Nat))) (post:AV->Tab->Prop) (st:St):Prop :=
 match aFv st rs with
 | some l =>
  let r:=aD6 l
  let L:=pT st.T (List.range st.r++eN r)
  post (rnA L r) (rnT L st.T)
 | none=>False
def aWv (rs:List (Nat×Option (Option Nat))) (post:AV->Tab->Prop):Ex->St->Prop
 | .normal,st=>aWu rs post st
 | .ret,st=>aWu rs post st
 | _,_=>False
def bAy (P:Program) (G:Nat->Option (List AV)) (hf:HFun) (args:List AV) (T:Tab) (post:AV->Tab->Prop):Prop :=
 cF P G hf.code (aWv hf.res post) ⟨T.length,lN 0 args,T⟩
theorem bAz {P:Program} {G:Nat->Option (List AV)} {hf:HFun} {args:List AV} {T:Tab} {post:AV->Tab->Prop} (h:bAy P G hf args T post):bAw P G hf args T post:=by
 refine gO (fun e s hq=>?_) h
 have key:aWu hf.res post s->aPG hf.res post s:=by
  intro hr
  unfold aWu at hr
  unfold aPG
  split<;>rename_i e<;>simp only [e] at hr
  exact .inl hr
 cases e with
 | normal=>exact key hq
 | ret=>exact key hq
 | exit i=>exact hq
theorem aF {P:Program} {G:Nat->Option (List AV)} {f:FuncId} {hf:HFun} {H:List (Nat×Option Nat×Nat)} (hc:aB P f H=some hf) {args:List AV} {T:Tab} {post:AV->Tab->Prop} (hT:True) (hw:bAy P G hf args T post):aD P G f args T post:=aTg hc hT (bAz hw)
def bAA (rs:List (Nat×Option (Option Nat))) (post:AV->Tab->Prop) (st:St):Prop :=
 match aFv st rs with
 | some l=>post (aD6 l) st.T
 | none=>False
def aWw (rs:List (Nat×Option (Option Nat))) (post:AV->Tab->Prop):Ex->St->Prop
 | .normal,st=>bAA rs post st
 | .ret,st=>bAA rs post st
 | _,_=>False
def bFq (P:Program) (G:Nat->Option (List AV)) (hf:HFun) (args:List AV) (T:Tab) (post:AV->Tab->Prop):Prop :=
 cF P G hf.code (aWw hf.res post) ⟨T.length,lN 0 args,T⟩
theorem pZ {P:Program} {f:FuncId} {hf:HFun} {H:List (Nat×Option Nat×Nat)} (hc:aB P f H=some hf):aNQ P f:=by
 unfold aB at hc
 split at hc
 ·simp at hc
 ·rename_i fn hfn
  split at hc
  ·simp at hc
  ·rename_i hname
   split at hc
   ·rename_i c rs hb hrs
    exact ⟨fn,c,hfn,hb,by simpa using hname⟩
   ·simp at hc
def qY (P:Program) (G:Nat->Option (List AV)) (f:FuncId) (args:List AV) (T:Tab) [c:KT]:Prop:=aDT P G f args T c.k
def opC (P:Program) (G:Nat->Option (List AV)) (st:St) (o:HOp) [c:KT]:Prop:=opW P G st o c.k
def aPI (P:Program) (G:Nat->Option (List AV)) (os:List HOper) (st:St) [c:KC St]:Prop:=aFh P G os st c.k
def hdC (P:Program) (G:Nat->Option (List AV)) (d:HD) (st:St) [c:KC St]:Prop:=hdW P G d st c.k
def cZ (P:Program) (G:Nat->Option (List AV)) (c:HC) (st:St) [q:QC]:Prop:=cF P G c q.q st
@[go_sem] theorem aOa (hf:HFun) (args:List AV) (T:Tab) (post:AV->Tab->Prop):bAy P G hf args T post=@cZ P G hf.code ⟨T.length,lN 0 args,T⟩ ⟨aWv hf.res post⟩:=Eq.trans rfl rfl
@[go_sem] theorem bDP (hf:HFun) (args:List AV) (T:Tab) (post:AV->Tab->Prop):bFq P G hf args T post=@cZ P G hf.code ⟨T.length,lN 0 args,T⟩ ⟨aWw hf.res post⟩:=Eq.trans rfl rfl
@[go_sem] theorem bCj (K:St->Prop):@aPI P G [] st ⟨K⟩=K st:=Eq.trans rfl rfl
@[go_sem] theorem bCb (d:Option Nat) (o:HOp) (os:List HOper) (K:St->Prop):@aPI P G (⟨d,o,none⟩::os) st ⟨K⟩=@opC P G st o ⟨fun x T=>@aPI P G os ⟨st.r,cG st.s d x,T⟩ ⟨K⟩⟩:=Eq.trans rfl rfl
@[go_sem] theorem bAB (d:Option Nat) (o:HOp) (j:Nat) (b:Bool) (os:List HOper) (K:St->Prop) :
  @aPI P G (⟨d,o,some (j,b)⟩::os) st ⟨K⟩=@bF Bool (cL st.s (some (j,b))) ⟨fun t=>@aEf t ⟨@opC P G st o ⟨fun x T=>@aPI P G os ⟨st.r,cG st.s d x,T⟩ ⟨K⟩⟩⟩ ⟨@aPI P G os ⟨st.r,cG st.s d (.v undef),st.T⟩ ⟨K⟩⟩⟩:=by
 simp only [aPI,aFh]
 unfold bF
 cases cL st.s (some (j,b)) with
 | none=>rfl
 | some t=>cases t<;>rfl
def aWx (P:Program) (G:Nat->Option (List AV)) (i:Nat) (args:List AV) (T:Tab) [c:KT]:Prop:=yR P G i args T c.k
def aWy (P:Program) (G:Nat->Option (List AV)) (f:AV) (args:List AV) (T:Tab) [c:KT]:Prop:=match f with
 | .cl g caps=>qY P G g (args++caps) T
 | .bm g k cs=>qY P G g (cs.take k++args++cs.drop k) T
 | .yl i=>aWx P G i args T
 | _=>False
@[go_sem] theorem bDQ (g:Nat) (caps args:List AV) (T:Tab) (K:AV->Tab->Prop):@aWy P G (.cl g caps) args T ⟨K⟩=@qY P G g (args++caps) T ⟨K⟩:=Eq.trans rfl rfl
@[go_sem] theorem bDR (g k:Nat) (cs args:List AV) (T:Tab) (K:AV->Tab->Prop):@aWy P G (.bm g k cs) args T ⟨K⟩=@qY P G g (cs.take k++args++cs.drop k) T ⟨K⟩:=Eq.trans rfl rfl
@[go_sem] theorem bDS (i:Nat) (args:List AV) (T:Tab) (K:AV->Tab->Prop):@aWy P G (.yl i) args T ⟨K⟩=@aWx P G i args T ⟨K⟩:=Eq.trans rfl rfl
@[go_sem] theorem bCk (f:Operand) (as_:List Operand) (K:AV->Tab->Prop):@opC P G st (.call f as_) ⟨K⟩=@aWy P G (evO G st.s f) (as_.map (evO G st.s)) st.T ⟨K⟩:=by
 simp only [opC,opW]
 unfold aWy
 cases evO G st.s f<;>rfl
theorem aW {o:HOp} (h:∀ f l,o≠.call f l) (h':∀ p,o≠.nxt p) (h'':∀ n k x,o≠.nilS n k x) (K:AV->Tab->Prop):@opC P G st o ⟨K⟩=@bF (AV×Tab) (hop st.T (evO G st.s) o) ⟨fun p=>K p.1 p.2⟩:=by
 cases o with
 | call f l=>exact absurd rfl (h f l)
 | nxt p=>exact absurd rfl (h' p)
 | nilS n k x=>exact absurd rfl (h'' n k x)
 | _ =>
  simp only [opC,opW]
  unfold bF
  cases hop st.T (evO G st.s) _ with
  | none=>rfl
  | some p=>rfl
@[go_sem] theorem bDT {x} (K:AV->Tab->Prop):@opC P G st (.mov x) ⟨K⟩=@bF (AV×Tab) (hop st.T (evO G st.s) (.mov x)) ⟨fun p=>K p.1 p.2⟩:=aW (fun _ _ e=>by cases e) (fun _ e=>by cases e) (fun _ _ _ e=>by cases e) K
@[go_sem] theorem bCl {c a b} (K:AV->Tab->Prop):@opC P G st (.pick c a b) ⟨K⟩=@bF (AV×Tab) (hop st.T (evO G st.s) (.pick c a b)) ⟨fun p=>K p.1 p.2⟩:=aW (fun _ _ e=>by cases e) (fun _ e=>by cases e) (fun _ _ _ e=>by cases e) K
@[go_sem] theorem bDU {op x y} (K:AV->Tab->Prop):@opC P G st (.bin op x y) ⟨K⟩=@bF (AV×Tab) (hop st.T (evO G st.s) (.bin op x y)) ⟨fun p=>K p.1 p.2⟩:=aW (fun _ _ e=>by cases e) (fun _ e=>by cases e) (fun _ _ _ e=>by cases e) K
@[go_sem] theorem bDV {neg ks x y} (K:AV->Tab->Prop):@opC P G st (.eqa neg ks x y) ⟨K⟩=@bF (AV×Tab) (hop st.T (evO G st.s) (.eqa neg ks x y)) ⟨fun p=>K p.1 p.2⟩:=aW (fun _ _ e=>by cases e) (fun _ e=>by cases e) (fun _ _ _ e=>by cases e) K
@[go_sem] theorem bDW {neg x y} (K:AV->Tab->Prop):@opC P G st (.eqb neg x y) ⟨K⟩=@bF (AV×Tab) (hop st.T (evO G st.s) (.eqb neg x y)) ⟨fun p=>K p.1 p.2⟩:=aW (fun _ _ e=>by cases e) (fun _ e=>by cases e) (fun _ _ _ e=>by cases e) K
@[go_sem] theorem bFr {op x} (K:AV->Tab->Prop):@opC P G st (.un op x) ⟨K⟩=@bF (AV×Tab) (hop st.T (evO G st.s) (.un op x)) ⟨fun p=>K p.1 p.2⟩:=aW (fun _ _ e=>by cases e) (fun _ e=>by cases e) (fun _ _ _ e=>by cases e) K
@[go_sem] theorem bCm {k x} (K:AV->Tab->Prop):@opC P G st (.conv k x) ⟨K⟩=@bF (AV×Tab) (hop st.T (evO G st.s) (.conv k x)) ⟨fun p=>K p.1 p.2⟩:=aW (fun _ _ e=>by cases e) (fun _ e=>by cases e) (fun _ _ _ e=>by cases e) K
@[go_sem] theorem bDX {x} (K:AV->Tab->Prop):@opC P G st (.box x) ⟨K⟩=@bF (AV×Tab) (hop st.T (evO G st.s) (.box x)) ⟨fun p=>K p.1 p.2⟩:=aW (fun _ _ e=>by cases e) (fun _ e=>by cases e) (fun _ _ _ e=>by cases e) K
@[go_sem] theorem bCc {z} (K:AV->Tab->Prop):@opC P G st (.alloc z) ⟨K⟩=@bF (AV×Tab) (hop st.T (evO G st.s) (.alloc z)) ⟨fun p=>K p.1 p.2⟩:=aW (fun _ _ e=>by cases e) (fun _ e=>by cases e) (fun _ _ _ e=>by cases e) K
@[go_sem] theorem bDY {z parts} (K:AV->Tab->Prop):@opC P G st (.bld z parts) ⟨K⟩=@bF (AV×Tab) (hop st.T (evO G st.s) (.bld z parts)) ⟨fun p=>K p.1 p.2⟩:=aW (fun _ _ e=>by cases e) (fun _ e=>by cases e) (fun _ _ _ e=>by cases e) K
@[go_sem] theorem bDZ {k z parts len} (K:AV->Tab->Prop):@opC P G st (.bsl k z parts len) ⟨K⟩=@bF (AV×Tab) (hop st.T (evO G st.s) (.bsl k z parts len)) ⟨fun p=>K p.1 p.2⟩:=aW (fun _ _ e=>by cases e) (fun _ e=>by cases e) (fun _ _ _ e=>by cases e) K
@[go_sem] theorem bFs {n p} (K:AV->Tab->Prop):@opC P G st (.ld n p) ⟨K⟩=@bF (AV×Tab) (hop st.T (evO G st.s) (.ld n p)) ⟨fun p=>K p.1 p.2⟩:=aW (fun _ _ e=>by cases e) (fun _ e=>by cases e) (fun _ _ _ e=>by cases e) K
@[go_sem] theorem bFt {n p x} (K:AV->Tab->Prop):@opC P G st (.st n p x) ⟨K⟩=@bF (AV×Tab) (hop st.T (evO G st.s) (.st n p x)) ⟨fun p=>K p.1 p.2⟩:=aW (fun _ _ e=>by cases e) (fun _ e=>by cases e) (fun _ _ _ e=>by cases e) K
@[go_sem] theorem bE0 {p off} (K:AV->Tab->Prop):@opC P G st (.fad p off) ⟨K⟩=@bF (AV×Tab) (hop st.T (evO G st.s) (.fad p off)) ⟨fun p=>K p.1 p.2⟩:=aW (fun _ _ e=>by cases e) (fun _ e=>by cases e) (fun _ _ _ e=>by cases e) K
@[go_sem] theorem bE1 {x off n} (K:AV->Tab->Prop):@opC P G st (.fld x off n) ⟨K⟩=@bF (AV×Tab) (hop st.T (evO G st.s) (.fld x off n)) ⟨fun p=>K p.1 p.2⟩:=aW (fun _ _ e=>by cases e) (fun _ e=>by cases e) (fun _ _ _ e=>by cases e) K
@[go_sem] theorem bE2 {x ix k} (K:AV->Tab->Prop):@opC P G st (.iad x ix k) ⟨K⟩=@bF (AV×Tab) (hop st.T (evO G st.s) (.iad x ix k)) ⟨fun p=>K p.1 p.2⟩:=aW (fun _ _ e=>by cases e) (fun _ e=>by cases e) (fun _ _ _ e=>by cases e) K
@[go_sem] theorem bCn {x ix len k} (K:AV->Tab->Prop):@opC P G st (.iadA x ix len k) ⟨K⟩=@bF (AV×Tab) (hop st.T (evO G st.s) (.iadA x ix len k)) ⟨fun p=>K p.1 p.2⟩:=aW (fun _ _ e=>by cases e) (fun _ e=>by cases e) (fun _ _ _ e=>by cases e) K
@[go_sem] theorem bE3 {x ix} (K:AV->Tab->Prop):@opC P G st (.ixS x ix) ⟨K⟩=@bF (AV×Tab) (hop st.T (evO G st.s) (.ixS x ix)) ⟨fun p=>K p.1 p.2⟩:=aW (fun _ _ e=>by cases e) (fun _ e=>by cases e) (fun _ _ _ e=>by cases e) K
@[go_sem] theorem bCo {x} (K:AV->Tab->Prop):@opC P G st (.lenS x) ⟨K⟩=@bF (AV×Tab) (hop st.T (evO G st.s) (.lenS x)) ⟨fun p=>K p.1 p.2⟩:=aW (fun _ _ e=>by cases e) (fun _ e=>by cases e) (fun _ _ _ e=>by cases e) K
@[go_sem] theorem bCp {x} (K:AV->Tab->Prop):@opC P G st (.lenL x) ⟨K⟩=@bF (AV×Tab) (hop st.T (evO G st.s) (.lenL x)) ⟨fun p=>K p.1 p.2⟩:=aW (fun _ _ e=>by cases e) (fun _ e=>by cases e) (fun _ _ _ e=>by cases e) K
@[go_sem] theorem bE4 {x y k bytes} (K:AV->Tab->Prop):@opC P G st (.app x y k bytes) ⟨K⟩=@bF (AV×Tab) (hop st.T (evO G st.s) (.app x y k bytes)) ⟨fun p=>K p.1 p.2⟩:=aW (fun _ _ e=>by cases e) (fun _ e=>by cases e) (fun _ _ _ e=>by cases e) K
@[go_sem] theorem bE5 {x i} (K:AV->Tab->Prop):@opC P G st (.ext x i) ⟨K⟩=@bF (AV×Tab) (hop st.T (evO G st.s) (.ext x i)) ⟨fun p=>K p.1 p.2⟩:=aW (fun _ _ e=>by cases e) (fun _ e=>by cases e) (fun _ _ _ e=>by cases e) K
@[go_sem] theorem bE6 {f caps} (K:AV->Tab->Prop):@opC P G st (.clo f caps) ⟨K⟩=@bF (AV×Tab) (hop st.T (evO G st.s) (.clo f caps)) ⟨fun p=>K p.1 p.2⟩:=aW (fun _ _ e=>by cases e) (fun _ e=>by cases e) (fun _ _ _ e=>by cases e) K
@[go_sem] theorem bCq {x} (K:AV->Tab->Prop):@opC P G st (.nilc x) ⟨K⟩=@bF (AV×Tab) (hop st.T (evO G st.s) (.nilc x)) ⟨fun p=>K p.1 p.2⟩:=aW (fun _ _ e=>by cases e) (fun _ e=>by cases e) (fun _ _ _ e=>by cases e) K
@[go_sem] theorem bE7 {x lo hi k} (K:AV->Tab->Prop):@opC P G st (.slc x lo hi k) ⟨K⟩=@bF (AV×Tab) (hop st.T (evO G st.s) (.slc x lo hi k)) ⟨fun p=>K p.1 p.2⟩:=aW (fun _ _ e=>by cases e) (fun _ e=>by cases e) (fun _ _ _ e=>by cases e) K
@[go_sem] theorem bCr {x lo hi} (K:AV->Tab->Prop):@opC P G st (.slcS x lo hi) ⟨K⟩=@bF (AV×Tab) (hop st.T (evO G st.s) (.slcS x lo hi)) ⟨fun p=>K p.1 p.2⟩:=aW (fun _ _ e=>by cases e) (fun _ e=>by cases e) (fun _ _ _ e=>by cases e) K
@[go_sem] theorem bCs {neg kd x} (K:AV->Tab->Prop):@opC P G st (.nilS neg kd x) ⟨K⟩=@aEf (aNP kd (evO G st.s x)) ⟨K (.v (.bool true)) st.T/\K (.v (.bool false)) st.T⟩ ⟨@bF (AV×Tab) (hop st.T (evO G st.s) (.nilS neg kd x)) ⟨fun p=>K p.1 p.2⟩⟩:=by
 simp only [opC,opW]
 unfold aEf bF
 split<;>rename_i h
 ·rw [h]
  rfl
 ·have h:aNP kd (evO G st.s x)=false:=by simpa using h
  rw [h]
  simp only
  cases hop st.T (evO G st.s) (.nilS neg kd x) with
  | none=>rfl
  | some p=>rfl
@[go_sem] theorem bFu {mx x y} (K:AV->Tab->Prop):@opC P G st (.mm mx x y) ⟨K⟩=@bF (AV×Tab) (hop st.T (evO G st.s) (.mm mx x y)) ⟨fun p=>K p.1 p.2⟩:=aW (fun _ _ e=>by cases e) (fun _ e=>by cases e) (fun _ _ _ e=>by cases e) K
@[go_sem] theorem bE8 {ag} (K:AV->Tab->Prop):@opC P G st (.mkm ag) ⟨K⟩=@bF (AV×Tab) (hop st.T (evO G st.s) (.mkm ag)) ⟨fun p=>K p.1 p.2⟩:=aW (fun _ _ e=>by cases e) (fun _ e=>by cases e) (fun _ _ _ e=>by cases e) K
@[go_sem] theorem bE9 {ag ls z m k ok} (K:AV->Tab->Prop):@opC P G st (.lku ag ls z m k ok) ⟨K⟩=@bF (AV×Tab) (hop st.T (evO G st.s) (.lku ag ls z m k ok)) ⟨fun p=>K p.1 p.2⟩:=aW (fun _ _ e=>by cases e) (fun _ e=>by cases e) (fun _ _ _ e=>by cases e) K
@[go_sem] theorem bEa {ag ls m k x} (K:AV->Tab->Prop):@opC P G st (.mup ag ls m k x) ⟨K⟩=@bF (AV×Tab) (hop st.T (evO G st.s) (.mup ag ls m k x)) ⟨fun p=>K p.1 p.2⟩:=aW (fun _ _ e=>by cases e) (fun _ e=>by cases e) (fun _ _ _ e=>by cases e) K
@[go_sem] theorem bEb {ag ls z m k} (K:AV->Tab->Prop):@opC P G st (.men ag ls z m k) ⟨K⟩=@bF (AV×Tab) (hop st.T (evO G st.s) (.men ag ls z m k)) ⟨fun p=>K p.1 p.2⟩:=aW (fun _ _ e=>by cases e) (fun _ e=>by cases e) (fun _ _ _ e=>by cases e) K
@[go_sem] theorem bEc {m s x} (K:AV->Tab->Prop):@opC P G st (.mst m s x) ⟨K⟩=@bF (AV×Tab) (hop st.T (evO G st.s) (.mst m s x)) ⟨fun p=>K p.1 p.2⟩:=aW (fun _ _ e=>by cases e) (fun _ e=>by cases e) (fun _ _ _ e=>by cases e) K
@[go_sem] theorem bEd {ag ls m k} (K:AV->Tab->Prop):@opC P G st (.del ag ls m k) ⟨K⟩=@bF (AV×Tab) (hop st.T (evO G st.s) (.del ag ls m k)) ⟨fun p=>K p.1 p.2⟩:=aW (fun _ _ e=>by cases e) (fun _ e=>by cases e) (fun _ _ _ e=>by cases e) K
@[go_sem] theorem bCt {m} (K:AV->Tab->Prop):@opC P G st (.lenM m) ⟨K⟩=@bF (AV×Tab) (hop st.T (evO G st.s) (.lenM m)) ⟨fun p=>K p.1 p.2⟩:=aW (fun _ _ e=>by cases e) (fun _ e=>by cases e) (fun _ _ _ e=>by cases e) K
@[go_sem] theorem bEe {k z bytes x y} (K:AV->Tab->Prop):@opC P G st (.mks k z bytes x y) ⟨K⟩=@bF (AV×Tab) (hop st.T (evO G st.s) (.mks k z bytes x y)) ⟨fun p=>K p.1 p.2⟩:=aW (fun _ _ e=>by cases e) (fun _ e=>by cases e) (fun _ _ _ e=>by cases e) K
@[go_sem] theorem bEf {x} (K:AV->Tab->Prop):@opC P G st (.s2b x) ⟨K⟩=@bF (AV×Tab) (hop st.T (evO G st.s) (.s2b x)) ⟨fun p=>K p.1 p.2⟩:=aW (fun _ _ e=>by cases e) (fun _ e=>by cases e) (fun _ _ _ e=>by cases e) K
@[go_sem] theorem bEg {x} (K:AV->Tab->Prop):@opC P G st (.b2s x) ⟨K⟩=@bF (AV×Tab) (hop st.T (evO G st.s) (.b2s x)) ⟨fun p=>K p.1 p.2⟩:=aW (fun _ _ e=>by cases e) (fun _ e=>by cases e) (fun _ _ _ e=>by cases e) K
@[go_sem] theorem bEh {x y} (K:AV->Tab->Prop):@opC P G st (.apS x y) ⟨K⟩=@bF (AV×Tab) (hop st.T (evO G st.s) (.apS x y)) ⟨fun p=>K p.1 p.2⟩:=aW (fun _ _ e=>by cases e) (fun _ e=>by cases e) (fun _ _ _ e=>by cases e) K
@[go_sem] theorem bEi {f k cs} (K:AV->Tab->Prop):@opC P G st (.bmo f k cs) ⟨K⟩=@bF (AV×Tab) (hop st.T (evO G st.s) (.bmo f k cs)) ⟨fun p=>K p.1 p.2⟩:=aW (fun _ _ e=>by cases e) (fun _ e=>by cases e) (fun _ _ _ e=>by cases e) K
@[go_sem] theorem bCu {k z ps len} (K:AV->Tab->Prop):@opC P G st (.bslS k z ps len) ⟨K⟩=@bF (AV×Tab) (hop st.T (evO G st.s) (.bslS k z ps len)) ⟨fun p=>K p.1 p.2⟩:=aW (fun _ _ e=>by cases e) (fun _ e=>by cases e) (fun _ _ _ e=>by cases e) K
@[go_sem] theorem bEj (K:AV->Tab->Prop):@opC P G st .bad ⟨K⟩=False:=Eq.trans rfl rfl
@[go_sem] theorem bEk {m} (K:AV->Tab->Prop):@opC P G st (.rgm m) ⟨K⟩=@bF (AV×Tab) (hop st.T (evO G st.s) (.rgm m)) ⟨fun p=>K p.1 p.2⟩:=aW (fun _ _ e=>by cases e) (fun _ e=>by cases e) (fun _ _ _ e=>by cases e) K
@[go_sem] theorem bEl {m} (K:AV->Tab->Prop):@opC P G st (.ent m) ⟨K⟩=@bF (AV×Tab) (hop st.T (evO G st.s) (.ent m)) ⟨fun p=>K p.1 p.2⟩:=aW (fun _ _ e=>by cases e) (fun _ e=>by cases e) (fun _ _ _ e=>by cases e) K
@[go_sem] theorem bEm {x k z} (K:AV->Tab->Prop):@opC P G st (.clr x k z) ⟨K⟩=@bF (AV×Tab) (hop st.T (evO G st.s) (.clr x k z)) ⟨fun p=>K p.1 p.2⟩:=aW (fun _ _ e=>by cases e) (fun _ e=>by cases e) (fun _ _ _ e=>by cases e) K
def bAC (T:Tab) (x:AV) [c:KT]:Prop:=match x with
 | .ptr i 0=>match bK T i with
  | some (.mit none _ _ _)=>c.k (.v (.tuple #[.bool false])) T
  | some (.mit (some j) since seen la)=>match bK T j with
   | some (.map ag ks vs bs cl)=>since<=la/\(∀ b∈bs,b<since)/\((∀ b∈bs,b∈seen)->c.k (.v (.tuple #[.bool false])) T) /\
     ∀ (e:Nat) (k:List Value) (v:AV) (b:Nat),ks[e]?=some k->vs[e]?=some v->bs[e]?=some b->b∉seen ->
      c.k (.tup [.v (.bool true),.v (fD ag k),v]) (T.set i (some (.mit (some j) since (seen++[b]) cl)))
   | _=>False
  | _=>False
 | _=>False
@[go_sem] theorem bEn {p} (K:AV->Tab->Prop):@opC P G st (.nxt p) ⟨K⟩=@bAC st.T (evO G st.s p) ⟨K⟩:=Eq.trans rfl rfl
@[go_sem] theorem bEo {x lo hi mx k} (K:AV->Tab->Prop):@opC P G st (.slx x lo hi mx k) ⟨K⟩=@bF (AV×Tab) (hop st.T (evO G st.s) (.slx x lo hi mx k)) ⟨fun p=>K p.1 p.2⟩:=aW (fun _ _ e=>by cases e) (fun _ e=>by cases e) (fun _ _ _ e=>by cases e) K
@[go_sem] theorem bCv (b:Bool) (K:St->Prop):@hdC P G (.done b) st ⟨K⟩=K (if b then gcs [] st else st):=Eq.trans rfl rfl
@[go_sem] theorem bFv (K:St->Prop):@hdC P G .no st ⟨K⟩=True:=Eq.trans rfl rfl
@[go_sem] theorem bFW (d:Option Nat) (o:HOp) (n:HD) (K:St->Prop):@hdC P G (.q ⟨d,o,none⟩ n) st ⟨K⟩=@bF (AV×Tab) (hop st.T (evO G st.s) o) ⟨fun p=>@hdC P G n ⟨st.r,cG st.s d p.1,st.T⟩ ⟨K⟩⟩:=by
 simp only [hdC,hdW,cL]
 unfold bF
 cases hop st.T (evO G st.s) o with
 | none=>rfl
 | some p=>rfl
@[go_sem] theorem bFw (d:Option Nat) (o:HOp) (j:Nat) (b:Bool) (n:HD) (K:St->Prop) :
  @hdC P G (.q ⟨d,o,some (j,b)⟩ n) st ⟨K⟩=@bF Bool (cL st.s (some (j,b))) ⟨fun t=>@aEf t ⟨@bF (AV×Tab) (hop st.T (evO G st.s) o) ⟨fun p=>@hdC P G n ⟨st.r,cG st.s d p.1,st.T⟩ ⟨K⟩⟩⟩ ⟨@hdC P G n ⟨st.r,cG st.s d (.v undef),st.T⟩ ⟨K⟩⟩⟩:=by
 simp only [hdC,hdW]
 unfold bF
 cases cL st.s (some (j,b)) with
 | none=>rfl
 | some t =>
  cases t
  ·rfl
  ·cases hop st.T (evO G st.s) o with
   | none=>rfl
   | some p=>rfl
@[go_sem] theorem bEp (d:Option Nat) (o:HOp) (chk:List HOper) (n m:HD) (K:St->Prop) :
  @hdC P G (.alt ⟨d,o,none⟩ chk n m) st ⟨K⟩=((@opC P G st o ⟨fun x T=>kK G ⟨st.r,cG st.s d x,T⟩ chk/\@hdC P G n ⟨st.r,cG st.s d x,T⟩ ⟨K⟩⟩)/\@hdC P G m st ⟨K⟩):=Eq.trans rfl rfl
@[go_sem] theorem bCw (d:Option Nat) (o:HOp) (j:Nat) (b:Bool) (chk:List HOper) (n m:HD) (K:St->Prop) :
  @hdC P G (.alt ⟨d,o,some (j,b)⟩ chk n m) st ⟨K⟩=((@bF Bool (cL st.s (some (j,b))) ⟨fun t=>@aEf t ⟨@opC P G st o ⟨fun x T=>kK G ⟨st.r,cG st.s d x,T⟩ chk/\@hdC P G n ⟨st.r,cG st.s d x,T⟩ ⟨K⟩⟩⟩
   ⟨kK G ⟨st.r,cG st.s d (.v undef),st.T⟩ chk/\@hdC P G n ⟨st.r,cG st.s d (.v undef),st.T⟩ ⟨K⟩⟩⟩)/\@hdC P G m st ⟨K⟩):=by
 simp only [hdC,hdW]
 unfold bF
 cases cL st.s (some (j,b)) with
 | none=>rfl
 | some t=>cases t<;>rfl
@[go_sem] theorem bAD (Q:Ex->St->Prop):@cZ P G .skip st ⟨Q⟩=Q .normal st:=Eq.trans rfl rfl
@[go_sem] theorem bCd (l:List HOper) (Q:Ex->St->Prop):@cZ P G (.reg l) st ⟨Q⟩=@aPI P G l st ⟨Q .normal⟩:=Eq.trans rfl rfl
@[go_sem] theorem bAE (d:HD) (Q:Ex->St->Prop):@cZ P G (.regd d) st ⟨Q⟩=@hdC P G d st ⟨Q .normal⟩:=Eq.trans rfl rfl
@[go_sem] theorem bAF (d:List Nat) (Q:Ex->St->Prop):@cZ P G (.kill d) st ⟨Q⟩=Q .normal ⟨st.r,hZ d st.s,st.T⟩:=Eq.trans rfl rfl
@[go_sem] theorem bCe (j:Nat) (c:Option Nat) (k:Nat) (Q:Ex->St->Prop):@cZ P G (.own j c k) st ⟨Q⟩=Q .normal (aIs st j c k):=Eq.trans rfl rfl
@[go_sem] theorem bAG (j:Nat) (Q:Ex->St->Prop):@cZ P G (.shut j) st ⟨Q⟩=Q .normal (gcs [] (aIt st j)):=Eq.trans rfl rfl
@[go_sem] theorem bAH (i:Nat) (Q:Ex->St->Prop):@cZ P G (.exit i) st ⟨Q⟩=Q (.exit i) st:=Eq.trans rfl rfl
@[go_sem] theorem bCf (Q:Ex->St->Prop):@cZ P G .ret st ⟨Q⟩=Q .ret st:=Eq.trans rfl rfl
def aJ7 [c:KC St] [q:QC]:Ex->St->Prop | .normal,s=>c.k s | .exit i,s=>q.q (.exit i) s | .ret,s=>q.q .ret s
@[go_sem] theorem bAI (K:St->Prop) (Q:Ex->St->Prop) (s:St):@aJ7 ⟨K⟩ ⟨Q⟩ .normal s=K s:=Eq.trans rfl rfl
@[go_sem] theorem bAJ (K:St->Prop) (Q:Ex->St->Prop) (i:Nat) (s:St):@aJ7 ⟨K⟩ ⟨Q⟩ (.exit i) s=Q (.exit i) s:=Eq.trans rfl rfl
@[go_sem] theorem bAK (K:St->Prop) (Q:Ex->St->Prop) (s:St):@aJ7 ⟨K⟩ ⟨Q⟩ .ret s=Q .ret s:=Eq.trans rfl rfl
@[go_sem] theorem dH (a b:HC) (Q:Ex->St->Prop):@cZ P G (.seq a b) st ⟨Q⟩=@cZ P G a st ⟨@aJ7 ⟨fun s=>@cZ P G b s ⟨Q⟩⟩ ⟨Q⟩⟩:=by
 simp only [cZ,cF]
 congr 1
 funext e s
 cases e<;>rfl
def aD8 (id:Nat) [q:QC]:Ex->St->Prop | .normal,s=>q.q .normal s | .exit i,s=>if i=id then q.q .normal s else q.q (.exit i) s | .ret,s=>q.q .ret s
@[go_sem] theorem bCx (id:Nat) (Q:Ex->St->Prop) (s:St):@aD8 id ⟨Q⟩ .normal s=Q .normal s:=Eq.trans rfl rfl
@[go_sem] theorem bCy (id i:Nat) (Q:Ex->St->Prop) (s:St):@aD8 id ⟨Q⟩ (.exit i) s=if i=id then Q .normal s else Q (.exit i) s:=Eq.trans rfl rfl
@[go_sem] theorem bCz (id:Nat) (Q:Ex->St->Prop) (s:St):@aD8 id ⟨Q⟩ .ret s=Q .ret s:=Eq.trans rfl rfl
@[go_sem] theorem bA7 (id:Nat) (a:HC) (Q:Ex->St->Prop):@cZ P G (.block id a) st ⟨Q⟩=@cZ P G a st ⟨@aD8 id ⟨Q⟩⟩:=by
 simp only [cZ,cF]
 congr 1
 funext e s
 cases e<;>rfl
@[go_sem] theorem bAL (c:Operand) (a b:HC) (Q:Ex->St->Prop):@cZ P G (.cond c a b) st ⟨Q⟩=@aWt (evO G st.s c) ⟨fun t=>@aEf t ⟨@cZ P G a st ⟨Q⟩⟩ ⟨@cZ P G b st ⟨Q⟩⟩⟩:=by
 simp only [cZ,cF]
 unfold aWt
 split
 ·rename_i t h
  rw [h]
  cases t<;>rfl
 ·rename_i h
  split
  ·rename_i t h';exact absurd h' (h t)
  ·rfl
def aEg (d:List Nat) [c:KC St] [q:QC]:Ex->St->Prop | .normal,s=>c.k (gcs d s) | .exit i,s=>q.q (.exit i) s | .ret,s=>q.q .ret s
@[go_sem] theorem bEq (d:List Nat) (J:St->Prop) (Q:Ex->St->Prop) (s:St):@aEg d ⟨J⟩ ⟨Q⟩ .normal s=J (gcs d s):=Eq.trans rfl rfl
@[go_sem] theorem bEr (d:List Nat) (J:St->Prop) (Q:Ex->St->Prop) (i:Nat) (s:St):@aEg d ⟨J⟩ ⟨Q⟩ (.exit i) s=Q (.exit i) s:=Eq.trans rfl rfl
@[go_sem] theorem bEs (d:List Nat) (J:St->Prop) (Q:Ex->St->Prop) (s:St):@aEg d ⟨J⟩ ⟨Q⟩ .ret s=Q .ret s:=Eq.trans rfl rfl
theorem tN {c:HC} {Q Q':Ex->St->Prop} {st:St} (h:∀ e s,Q e s->Q' e s) (hc:@cZ P G c st ⟨Q⟩):@cZ P G c st ⟨Q'⟩:=gO h hc
theorem aYY {d:List Nat} {a:HC} {Q:Ex->St->Prop} (I:Nat->St->Prop) (n:Nat) (h0:I n (gcs d st)\/I n st) (hr:∀ n s,I n s->@cZ P G a s ⟨@aEg d ⟨fun s'=>∃ m,m<n/\I m s'⟩ ⟨Q⟩⟩):@cZ P G (.loop d a) st ⟨Q⟩:=by
 refine ⟨I,⟨n,h0⟩,fun n s hs=>?_⟩
 have:=hr n s hs
 refine gO (fun e s hq=>?_) this
 cases e with
 | normal=>exact ⟨hq.choose,hq.choose_spec.1,.inl hq.choose_spec.2⟩
 | exit i=>exact hq
 | ret=>exact hq
def aWz [c:KC St] [q:QC]:Ex->St->Prop | .normal,s=>c.k s | .exit i,s=>q.q (.exit i) s | .ret,s=>q.q .ret s
@[go_sem] theorem bEt (J:St->Prop) (Q:Ex->St->Prop) (s:St):@aWz ⟨J⟩ ⟨Q⟩ .normal s=J s:=Eq.trans rfl rfl
@[go_sem] theorem bEu (J:St->Prop) (Q:Ex->St->Prop) (i:Nat) (s:St):@aWz ⟨J⟩ ⟨Q⟩ (.exit i) s=Q (.exit i) s:=Eq.trans rfl rfl
@[go_sem] theorem bEv (J:St->Prop) (Q:Ex->St->Prop) (s:St):@aWz ⟨J⟩ ⟨Q⟩ .ret s=Q .ret s:=Eq.trans rfl rfl
theorem fS {d:List Nat} {a:HC} {Q:Ex->St->Prop} (I:Nat->St->Prop) (n:Nat) (h0:I n (gcs d st)) (hr:∀ n s,I n s->@cZ P G a s ⟨@aEg d ⟨fun s'=>∃ m,m<n/\I m s'⟩ ⟨Q⟩⟩):@cZ P G (.loop d a) st ⟨Q⟩:=by
 exact aYY I n (.inl h0) hr
theorem aJ8 {d:List Nat} {J J':St->Prop} {Q:Ex->St->Prop} (h:∀ s,J s->J' s):∀ e s,@aEg d ⟨J⟩ ⟨Q⟩ e s->@aEg d ⟨J'⟩ ⟨Q⟩ e s:=by
 intro e s
 cases e with
 | normal=>exact h _
 | exit i=>exact id
 | ret=>exact id
theorem aL {d:List Nat} {a:HC} {Q:Ex->St->Prop} (N:Nat) (S:Nat->St) (J:Nat->Prop) (h0:gcs d st=S 0) (j0:J 0) (hr:∀ i,i<N->J i->@cZ P G a (S i) ⟨@aEg d ⟨fun s'=>s'=S (i+1)/\J (i+1)⟩ ⟨Q⟩⟩)
  (hl:J N->@cZ P G a (S N) ⟨@aEg d ⟨fun _=>False⟩ ⟨Q⟩⟩):@cZ P G (.loop d a) st ⟨Q⟩:=by
 refine fS (fun n s=>∃ i,i<=N/\n=N-i/\s=S i/\J i) N ⟨0,Nat.zero_le _,by simp,h0,j0⟩ ?_
 rintro n s ⟨i,hi,rfl,rfl,hj⟩
 rcases Nat.lt_or_ge i N with hlt | hge
 ·exact tN (aJ8 fun s ⟨h1,h2⟩=>⟨N-(i+1),by omega,i+1,by omega,rfl,h1,h2⟩) (hr i hlt hj)
 ·obtain rfl:i=N:=by omega
  exact tN (aJ8 fun s h=>h.elim) (hl hj)
def aWA (i:Nat) (r:Loop) (s:List (Nat×AV)) (n:Nat) [c:KT]:Ex->St->Prop
 | .normal,st=>c.k (.v (.bool true)) ((gcs [] ⟨n,[],st.T⟩).T.set i (some (.lp r s)))
 | .exit id,st=>c.k (.v (.bool false)) ((gcs [] ⟨n,[],st.T⟩).T.set i (some (.lp (left r (.exit id)) s)))
 | .ret,st=>c.k (.v (.bool false)) ((gcs [] ⟨n,[],st.T⟩).T.set i (some (.lp (left r .ret) s)))
@[go_sem] theorem bFx (i:Nat) (r:Loop) (s:List (Nat×AV)) (n:Nat) (K:AV->Tab->Prop) (st:St):@aWA i r s n ⟨K⟩ .normal st=K (.v (.bool true)) ((gcs [] ⟨n,[],st.T⟩).T.set i (some (.lp r s))):=Eq.trans rfl rfl
@[go_sem] theorem bFy (i:Nat) (r:Loop) (s:List (Nat×AV)) (n:Nat) (K:AV->Tab->Prop) (id:Nat) (st:St):@aWA i r s n ⟨K⟩ (.exit id) st=K (.v (.bool false)) ((gcs [] ⟨n,[],st.T⟩).T.set i (some (.lp (left r (.exit id)) s))):=Eq.trans rfl rfl
@[go_sem] theorem bFz (i:Nat) (r:Loop) (s:List (Nat×AV)) (n:Nat) (K:AV->Tab->Prop) (st:St):@aWA i r s n ⟨K⟩ .ret st=K (.v (.bool false)) ((gcs [] ⟨n,[],st.T⟩).T.set i (some (.lp (left r .ret) s))):=Eq.trans rfl rfl
def aWB (i:Nat) (r:Loop) (s:List (Nat×AV)) [c:KT]:Ex->St->Prop
 | .normal,st=>c.k (.v (.bool true)) (st.T.set i (some (.lp r s)))
 | .exit id,st=>c.k (.v (.bool false)) (st.T.set i (some (.lp (left r (.exit id)) s)))
 | .ret,st=>c.k (.v (.bool false)) (st.T.set i (some (.lp (left r .ret) s)))
@[go_sem] theorem bFA (i:Nat) (r:Loop) (s:List (Nat×AV)) (K:AV->Tab->Prop) (st:St):@aWB i r s ⟨K⟩ .normal st=K (.v (.bool true)) (st.T.set i (some (.lp r s))):=Eq.trans rfl rfl
@[go_sem] theorem bFB (i:Nat) (r:Loop) (s:List (Nat×AV)) (K:AV->Tab->Prop) (id:Nat) (st:St):@aWB i r s ⟨K⟩ (.exit id) st=K (.v (.bool false)) (st.T.set i (some (.lp (left r (.exit id)) s))):=Eq.trans rfl rfl
@[go_sem] theorem bFC (i:Nat) (r:Loop) (s:List (Nat×AV)) (K:AV->Tab->Prop) (st:St):@aWB i r s ⟨K⟩ .ret st=K (.v (.bool false)) (st.T.set i (some (.lp (left r .ret) s))):=Eq.trans rfl rfl
def aUR (r:Nat) (s:List (Nat×AV)) (n:Nat) (T:Tab) [q:QC]:Prop :=
 match bK T n with
 | some (.lp rec _)=>rec.state≠.busy/\(match rec.pending with
  | none=>q.q .normal ⟨r,s,T.set n none⟩
  | some (.exit id)=>q.q (.exit id) ⟨r,s,T.set n none⟩
  | some .ret=>q.q .ret ⟨r,s,T.set n none⟩
  | _=>False)
 | _=>False
def bCA (P:Program) (G:Nat->Option (List AV)) (r:Loop) (ps:List Nat) (a b:HC):Prop :=
 ∀ (i:Nat) (s:List (Nat×AV)) (T:Tab) (args:List AV) (K:AV->Tab->Prop),bK T i=some (.lp r s)->args.length=ps.length ->
  (@cZ P G a ⟨T.length,rQ s ps args,T.set i none⟩ ⟨@aJ7 ⟨fun s1=>@cZ P G b s1 ⟨@aWA i r s T.length ⟨K⟩⟩⟩ ⟨fun _ _=>False⟩⟩)->@aWx P G i args T ⟨K⟩
def bAM (P:Program) (G:Nat->Option (List AV)) (r:Loop) (ps:List Nat) (a b:HC):Prop :=
 ∀ (i:Nat) (s:List (Nat×AV)) (T:Tab) (args:List AV) (K:AV->Tab->Prop),bK T i=some (.lp r s)->args.length=ps.length ->
  (@cZ P G a ⟨T.length,rQ s ps args,T.set i none⟩ ⟨@aJ7 ⟨fun s1=>@cZ P G b s1 ⟨@aWB i r s ⟨K⟩⟩⟩ ⟨fun _ _=>False⟩⟩)->@aWx P G i args T ⟨K⟩
theorem aJ9 {g:Operand} {ps d:List Nat} {a b:HC} {Q:Ex->St->Prop} {f:FuncId} {caps:List AV} (hg:evO G st.s g=.cl f caps) (hb:aNQ P f)
  (h:∀ r:Loop,r.state=.ready->r.pending=none->bCA P G r ps a b->bAM P G r ps a b ->
   @qY P G f (.yl st.T.length::caps) (st.T++[some (.lp r (aCx d st.s))]) ⟨fun _ T2=>@aUR st.r st.s st.T.length T2 ⟨Q⟩⟩):@cZ P G (.rng g ps d a b) st ⟨Q⟩:=by
 show cF P G (.rng g ps d a b) Q st
 simp only [cF]
 intro r h1 h2 h3 hy
 rw [hg]
 refine ⟨hb,?_⟩
 have key:∀ (R:Nat->Loop->List (Nat×AV)->Nat->(AV->Tab->Prop)->Ex->St->Prop),(∀ i s n K e st,R i r s n K e st->aFi i r s n K e st) ->
   ∀ (i:Nat) (s:List (Nat×AV)) (T:Tab) (args:List AV) (K:AV->Tab->Prop),bK T i=some (.lp r s)->args.length=ps.length ->
  (@cZ P G a ⟨T.length,rQ s ps args,T.set i none⟩ ⟨@aJ7 ⟨fun s1=>@cZ P G b s1 ⟨R i r s T.length K⟩⟩ ⟨fun _ _=>False⟩⟩)->@aWx P G i args T ⟨K⟩:=by
  intro R hR i s T args K hi hl hc
  refine hy i s T args K hi hl (gO (fun e s1 hq=>?_) hc)
  cases e with
  | normal=>exact gO (fun e s2 h2=>hR _ _ _ _ _ _ h2) hq
  | exit i=>exact hq
  | ret=>exact hq
 refine h r h1 h2 (key (fun i r s n K=>@aWA i r s n ⟨K⟩) fun i s n K e st hq=>?_) (key (fun i r s n K=>@aWB i r s ⟨K⟩) fun i s n K e st hq=>?_)
 ·cases e<;>exact ⟨true,hq⟩
 ·cases e<;>exact ⟨false,hq⟩
theorem aFy {c:HC} {id:Nat} {K:St->Prop} {Q:Ex->St->Prop} (R:St->Prop) (h:@cZ P G c st ⟨@aD8 id ⟨@aJ7 ⟨R⟩ ⟨Q⟩⟩⟩) (hr:∀ s,R s->K s):@cZ P G c st ⟨@aD8 id ⟨@aJ7 ⟨K⟩ ⟨Q⟩⟩⟩:=by
 refine tN (fun e s hq=>?_) h
 cases e with
 | normal=>exact hr s hq
 | exit i =>
  simp only [aD8] at hq ⊢
  split
  ·rename_i e;rw [if_pos e] at hq;exact hr s hq
  ·rename_i e;rw [if_neg e] at hq;exact hq
 | ret=>exact hq
theorem gV {c:HC} {K:St->Prop} {Q:Ex->St->Prop} (R:St->Prop) (h:@cZ P G c st ⟨@aJ7 ⟨R⟩ ⟨Q⟩⟩) (hr:∀ s,R s->K s):@cZ P G c st ⟨@aJ7 ⟨K⟩ ⟨Q⟩⟩:=by
 refine tN (fun e s hq=>?_) h
 cases e with
 | normal=>exact hr s hq
 | exit i=>exact hq
 | ret=>exact hq
end
attribute [go_sem] aCw oR aNP mI eR okC aCx rQ aUR bAp rnF bkF bkS aLx rnS left hop evO aK cG aAQ aDR hZ lN bK bR aPb aIp gM aP aU pun eqC eqV cL aWv aWu aWw bAA aD6 aWr aFv aNO aUd aGm pT aAR aDS eN fI aW0 bCh rnA rnL rnT rnO idx gcs mJ aFg
 aIs aIt xI shutI slA slL slO slT slS pU aAS kJ kX aIr bkA bkL bkO bkT bk aIq yS jV aVZ aFf oQ kK
attribute [go_sem] ne_eq not_false_eq_true not_true_eq_false Option.bind_some Option.bind_none if_true if_false Bool.false_eq_true true_and and_true List.getElem?_cons_zero List.getElem?_cons_succ List.length_cons List.length_nil List.map_cons List.map_nil List.take_succ_cons List.drop_succ_cons List.take_zero List.drop_zero List.take_nil List.drop_nil
 List.cons_append List.nil_append List.append_nil List.all_cons List.all_nil Bool.and_true Bool.and_self Bool.not_true Bool.not_false List.set_cons_zero List.set_cons_succ List.contains_cons List.contains_nil List.map_map Option.map_some Option.map_none
 Int.toNat_natCast Int.natCast_nonneg decide_true decide_false Bool.not_eq_true
@[go_sem] theorem bEw:List.range 0=[]:=Eq.trans rfl rfl
@[go_sem] theorem bEx:List.range 1=[0]:=Eq.trans rfl rfl
@[go_sem] theorem bEy:List.range 2=[0,1]:=Eq.trans rfl rfl
@[go_sem] theorem bEz:List.range 3=[0,1,2]:=Eq.trans rfl rfl
@[go_sem] theorem bEA:List.range 4=[0,1,2,3]:=Eq.trans rfl rfl
@[go_sem] theorem bEB:List.range 5=[0,1,2,3,4]:=Eq.trans rfl rfl
@[go_sem] theorem bEC:List.range 6=[0,1,2,3,4,5]:=Eq.trans rfl rfl
@[go_sem] theorem bED:List.range 7=[0,1,2,3,4,5,6]:=Eq.trans rfl rfl
@[go_sem] theorem bEE:List.range 8=[0,1,2,3,4,5,6,7]:=Eq.trans rfl rfl
@[go_sem] theorem bEF:List.range 9=[0,1,2,3,4,5,6,7,8]:=Eq.trans rfl rfl
@[go_sem] theorem bCB:List.range 10=[0,1,2,3,4,5,6,7,8,9]:=Eq.trans rfl rfl
@[go_sem] theorem bCC:List.range 11=[0,1,2,3,4,5,6,7,8,9,10]:=Eq.trans rfl rfl
@[go_sem] theorem bCD:List.range 12=[0,1,2,3,4,5,6,7,8,9,10,11]:=Eq.trans rfl rfl
@[go_sem] theorem bCE:List.range 13=[0,1,2,3,4,5,6,7,8,9,10,11,12]:=Eq.trans rfl rfl
@[go_sem] theorem bCF:List.range 14=[0,1,2,3,4,5,6,7,8,9,10,11,12,13]:=Eq.trans rfl rfl
@[go_sem] theorem bCG:List.range 15=[0,1,2,3,4,5,6,7,8,9,10,11,12,13,14]:=Eq.trans rfl rfl
@[go_sem] theorem bCH:List.range 16=[0,1,2,3,4,5,6,7,8,9,10,11,12,13,14,15]:=Eq.trans rfl rfl
@[go_sem] theorem bFY (b:Bool):(b==true)=b:=by cases b<;>rfl
@[go_sem] theorem bFZ (b:Bool):(b==false)=!b:=by cases b<;>rfl
attribute [go_sem] Bool.not_not bne_self_eq_false beq_self_eq_true
attribute [go_sem] Nat.min_self List.length_map List.length_append List.length_take List.length_drop Nat.zero_add Nat.add_zero Nat.sub_zero Nat.le_refl Nat.zero_le List.length_range List.length_set List.map_append
attribute [go_sem] List.getD_cons_zero List.getD_cons_succ List.getD_nil
attribute [go_sem] Bool.or_false Bool.or_true Bool.true_or Bool.false_or List.idxOf?_cons List.idxOf?_nil List.findIdx?_cons List.findIdx?_nil List.filter_cons List.filter_nil
@[go_sem] theorem bAN:((0:Nat):Int)=0:=Eq.trans rfl rfl
@[go_sem] theorem bAO:((1:Nat):Int)=1:=Eq.trans rfl rfl
@[go_sem] theorem bFD:((2:Nat):Int)=2:=Eq.trans rfl rfl
@[go_sem] theorem bFE:((3:Nat):Int)=3:=Eq.trans rfl rfl
@[go_sem] theorem bFF:((4:Nat):Int)=4:=Eq.trans rfl rfl
@[go_sem] theorem bFG:((5:Nat):Int)=5:=Eq.trans rfl rfl
@[go_sem] theorem bFH:((6:Nat):Int)=6:=Eq.trans rfl rfl
@[go_sem] theorem bFI:((7:Nat):Int)=7:=Eq.trans rfl rfl
@[go_sem] theorem bFJ:((8:Nat):Int)=8:=Eq.trans rfl rfl
@[go_sem] theorem bFK:((9:Nat):Int)=9:=Eq.trans rfl rfl
@[go_sem] theorem bEG:((10:Nat):Int)=10:=Eq.trans rfl rfl
@[go_sem] theorem bEH:((11:Nat):Int)=11:=Eq.trans rfl rfl
@[go_sem] theorem bEI:((12:Nat):Int)=12:=Eq.trans rfl rfl
@[go_sem] theorem bEJ:((13:Nat):Int)=13:=Eq.trans rfl rfl
@[go_sem] theorem bEK:((14:Nat):Int)=14:=Eq.trans rfl rfl
@[go_sem] theorem bEL:((15:Nat):Int)=15:=Eq.trans rfl rfl
@[go_sem] theorem bEM:((16:Nat):Int)=16:=Eq.trans rfl rfl
@[go_sem] theorem bEN:((17:Nat):Int)=17:=Eq.trans rfl rfl
@[go_sem] theorem bEO:((18:Nat):Int)=18:=Eq.trans rfl rfl
@[go_sem] theorem bEP:((19:Nat):Int)=19:=Eq.trans rfl rfl
@[go_sem] theorem bEQ:((20:Nat):Int)=20:=Eq.trans rfl rfl
@[go_sem] theorem bER:((21:Nat):Int)=21:=Eq.trans rfl rfl
@[go_sem] theorem bES:((22:Nat):Int)=22:=Eq.trans rfl rfl
@[go_sem] theorem bET:((23:Nat):Int)=23:=Eq.trans rfl rfl
@[go_sem] theorem bEU:((24:Nat):Int)=24:=Eq.trans rfl rfl
@[go_sem] theorem bEV:((25:Nat):Int)=25:=Eq.trans rfl rfl
@[go_sem] theorem bEW:((26:Nat):Int)=26:=Eq.trans rfl rfl
@[go_sem] theorem bEX:((27:Nat):Int)=27:=Eq.trans rfl rfl
@[go_sem] theorem bEY:((28:Nat):Int)=28:=Eq.trans rfl rfl
@[go_sem] theorem bEZ:((29:Nat):Int)=29:=Eq.trans rfl rfl
@[go_sem] theorem bF0:((30:Nat):Int)=30:=Eq.trans rfl rfl
@[go_sem] theorem bF1:((31:Nat):Int)=31:=Eq.trans rfl rfl
@[go_sem] theorem bF2:((32:Nat):Int)=32:=Eq.trans rfl rfl
@[go_sem] theorem bCI (t a:Bool):(if t=true then AV.v (.bool a) else AV.v (.bool false))=AV.v (.bool (t&&a)):=by cases t<;>rfl
@[go_sem] theorem bF3 (t b:Bool):(if t=true then AV.v (.bool true) else AV.v (.bool b))=AV.v (.bool (t||b)):=by cases t<;>rfl
attribute [go_sem] Bool.and_true Bool.true_and Bool.false_and Bool.and_false
attribute [go_sem] reduceCtorEq Nat.reduceEqDiff Nat.reduceBEq Nat.reduceAdd Nat.reduceSub Nat.reduceMul Nat.reduceLT Nat.reduceLeDiff Int.reduceEq Int.reduceLT Int.reduceLE Int.reduceToNat Int.reduceNeg Int.reduceBEq Int.reduceMul Int.reduceAdd Int.reduceSub
end
section
def zm (d t:Nat):HOper:=⟨some d,.mov (.tmp t),none⟩
def zo (d:Nat) (o:HOp):HOper:=⟨some d,o,none⟩
def zs (o:HOp):HOper:=⟨none,o,none⟩
def zg (d:Nat) (o:HOp) (j:Nat) (b:Bool):HOper:=⟨some d,o,some (j,b)⟩
def zh (d t j:Nat) (b:Bool):HOper:=⟨some d,.mov (.tmp t),some (j,b)⟩
def zl (d a:Nat):HOper:=⟨some d,.ld none (.tmp a),none⟩
def zv (d k a:Nat):HOper:=⟨some d,.ld (some k) (.tmp a),none⟩
def zf (d a k:Nat):HOper:=⟨some d,.fad (.tmp a) k,none⟩
def zi (d a b k:Nat):HOper:=⟨some d,.iad (.tmp a) (.tmp b) k,none⟩
def zn (d a:Nat):HOper:=⟨some d,.lenL (.tmp a),none⟩
def zb (d:Nat) (o:BinOp) (a b:Nat):HOper:=⟨some d,.bin o (.tmp a) (.tmp b),none⟩
def zc (d f:Nat) (a:List Operand):HOper:=⟨some d,.call (.func f) a,none⟩
def ze (d a k:Nat):HOper:=⟨some d,.ext (.tmp a) k,none⟩
def zk (d:Nat) (n:Int):HOper:=⟨some d,.mov (.const (.int .i64 n)),none⟩
def zw (n:Int):Operand:=.const (.int .i64 n)
def zu (n:Int):Operand:=.const (.int .u64 n)
def zt (n:Nat):Operand:=.tmp n
def zr (o:List HOper) (k:List Nat):HC:=.seq (.reg o) (.kill k)
def zR (o:HD) (k:List Nat):HC:=.seq (.regd o) (.kill k)
def zK (k:List Nat) (c:HC):HC:=.seq (.kill k) c
def zN (d:Nat):HOper:=⟨some d,.mov (.const (.slice none 0 0)),none⟩
def zS:Value:=.slice none 0 0
def z0:Value:=.int .i64 0
def zU:Value:=.int .u64 0
def zj (d:Nat) (o:BinOp) (a:Nat) (n:Int):HOper:=⟨some d,.bin o (.tmp a) (.const (.int .i64 n)),none⟩
def zT:Operand:=.const (.bool true)
def zF:Operand:=.const (.bool false)
def zC (n:Nat) (a b:HC):HC:=.cond (.tmp n) a b
def zE (o:List HOper) (c:HC):HC:=.seq (.reg o) c
def zP (n:Nat) (c:HC):HC:=.block n (.loop [] c)
def zQ (a b:HC):HC:=.seq a b
def zq (a:HOper) (b:HD):HD:=.q a b
def zA (a:HOper) (c:List HOper) (b d:HD):HD:=.alt a c b d
abbrev xR:Nat:=3
abbrev xS:Nat:=4
abbrev vC:Nat:=5
abbrev qA:Nat:=9
abbrev fY:Nat:=10
abbrev jZ:Nat:=11
abbrev fZ:Nat:=12
abbrev kA:Nat:=13
abbrev iN:Nat:=14
abbrev nQ:Nat:=15
abbrev vD:Nat:=16
abbrev mY:Nat:=17
abbrev qZ:Nat:=18
abbrev zD:Nat:=19
abbrev zG:Nat:=20
abbrev mZ:Nat:=21
abbrev iX:Nat:=22
abbrev nJ:Nat:=23
abbrev kZ:Nat:=24
abbrev vE:Nat:=25
abbrev dW:Nat:=26
abbrev aEh:Nat:=28
abbrev vF:Nat:=31
abbrev aEi:Nat:=32
abbrev fF:Nat:=34
abbrev rA:Nat:=35
abbrev kB:Nat:=39
abbrev tO:Nat:=44
abbrev oT:Nat:=45
abbrev oU:Nat:=46
abbrev wR:Nat:=47
abbrev aD9:Nat:=48
abbrev aDa:Nat:=49
abbrev cM:Nat:=50
abbrev nX:Nat:=51
abbrev gG:Nat:=52
abbrev rB:Nat:=53
abbrev aB3:Nat:=54
abbrev zH:Nat:=55
abbrev tQ:Nat:=56
abbrev aB4:Nat:=57
abbrev vG:Nat:=58
abbrev oV:Nat:=59
abbrev rC:Nat:=60
abbrev kC:Nat:=61
abbrev tR:Nat:=62
abbrev aZ:Nat:=63
abbrev iO:Nat:=64
abbrev aDb:Nat:=65
abbrev aFz:Nat:=66
abbrev lO:Nat:=67
abbrev bN:Nat:=69
abbrev eE:Nat:=70
abbrev vH:Nat:=71
abbrev oW:Nat:=72
abbrev fJ:Nat:=73
abbrev aDc:Nat:=74
abbrev zI:Nat:=77
abbrev vI:Nat:=78
abbrev aB5:Nat:=79
abbrev sP:Nat:=80
abbrev aC3:Nat:=81
abbrev mC:Nat:=82
abbrev tS:Nat:=87
abbrev oX:Nat:=90
abbrev cN:Nat:=91
abbrev oY:Nat:=92
abbrev nY:Nat:=93
abbrev xT:Nat:=94
abbrev wS:Nat:=95
abbrev aJa:Nat:=96
abbrev aDd:Nat:=97
abbrev fC:Nat:=98
abbrev nZ:Nat:=99
abbrev iH:Nat:=100
abbrev mN:Nat:=101
abbrev iY:Nat:=102
abbrev qN:Nat:=103
abbrev lA:Nat:=104
abbrev aDe:Nat:=105
abbrev kQ:Nat:=106
abbrev aC4:Nat:=107
abbrev iP:Nat:=108
abbrev zJ:Nat:=109
abbrev dX:Nat:=110
abbrev oZ:Nat:=111
abbrev oB:Nat:=112
abbrev cS:Nat:=113
abbrev pA:Nat:=114
abbrev rD:Nat:=115
abbrev mD:Nat:=116
abbrev zL:Nat:=117
abbrev jD:Nat:=118
abbrev nA:Nat:=119
abbrev wT:Nat:=120
abbrev qB:Nat:=121
abbrev dI:Nat:=123
abbrev aFA:Nat:=124
abbrev aDf:Nat:=125
abbrev aDg:Nat:=126
abbrev rE:Nat:=127
abbrev dJ:Nat:=128
abbrev zM:Nat:=129
abbrev aB6:Nat:=130
abbrev dM:Nat:=131
abbrev fV:Nat:=132
abbrev nB:Nat:=133
abbrev aDh:Nat:=134
abbrev nC:Nat:=135
abbrev kD:Nat:=136
abbrev aB7:Nat:=137
abbrev jC:Nat:=138
abbrev rS:Nat:=139
abbrev jE:Nat:=140
abbrev rT:Nat:=141
abbrev zO:Nat:=142
abbrev bB:Nat:=143
abbrev jF:Nat:=146
abbrev sQ:Nat:=147
abbrev oC:Nat:=148
abbrev bA:Nat:=149
abbrev gH:Nat:=150
abbrev cH:Nat:=151
abbrev nR:Nat:=152
abbrev cO:Nat:=153
abbrev pB:Nat:=154
abbrev rF:Nat:=155
abbrev mE:Nat:=156
abbrev nK:Nat:=157
abbrev rU:Nat:=158
abbrev zV:Nat:=159
abbrev mO:Nat:=160
abbrev rG:Nat:=161
abbrev aFB:Nat:=169
abbrev dY:Nat:=170
abbrev lP:Nat:=175
abbrev kE:Nat:=176
abbrev bH:Nat:=177
abbrev fK:Nat:=178
abbrev rV:Nat:=179
abbrev sR:Nat:=180
abbrev dF:Nat:=181
abbrev qO:Nat:=182
abbrev mF:Nat:=183
abbrev rH:Nat:=184
abbrev pC:Nat:=185
abbrev aI8:Nat:=186
abbrev aB8:Nat:=187
abbrev aI9:Nat:=188
abbrev gI:Nat:=189
abbrev qC:Nat:=190
abbrev oD:Nat:=191
abbrev oE:Nat:=192
abbrev vJ:Nat:=193
abbrev dZ:Nat:=194
abbrev zW:Nat:=195
abbrev zX:Nat:=196
abbrev aB9:Nat:=197
abbrev aBa:Nat:=198
abbrev aBb:Nat:=199
abbrev vK:Nat:=200
abbrev rW:Nat:=202
abbrev zY:Nat:=203
abbrev aBc:Nat:=204
abbrev aFC:Nat:=205
abbrev cT:Nat:=206
abbrev cW:Nat:=207
abbrev fL:Nat:=208
abbrev bG:Nat:=209
abbrev dN:Nat:=210
abbrev cP:Nat:=211
abbrev zZ:Nat:=212
abbrev bW:Nat:=213
abbrev bX:Nat:=214
abbrev aA0:Nat:=216
abbrev lB:Nat:=217
abbrev dO:Nat:=219
abbrev jG:Nat:=220
abbrev iI:Nat:=221
abbrev aBd:Nat:=222
abbrev lQ:Nat:=237
abbrev aA1:Nat:=238
abbrev gA:Nat:=241
abbrev cA:Nat:=242
abbrev pD:Nat:=243
abbrev aDi:Nat:=244
abbrev wU:Nat:=245
abbrev aBe:Nat:=246
abbrev aDj:Nat:=247
abbrev aEj:Nat:=256
abbrev pE:Nat:=257
abbrev aQ:Nat:=258
abbrev cI:Nat:=259
abbrev fG:Nat:=260
abbrev qP:Nat:=261
abbrev jH:Nat:=262
abbrev qD:Nat:=263
abbrev qQ:Nat:=264
abbrev qR:Nat:=265
abbrev sT:Nat:=266
abbrev nL:Nat:=267
abbrev aA2:Nat:=268
abbrev kF:Nat:=269
abbrev fM:Nat:=270
abbrev eF:Nat:=271
abbrev vL:Nat:=272
abbrev vM:Nat:=273
abbrev tT:Nat:=274
abbrev aBf:Nat:=275
abbrev aY:Nat:=276
abbrev fT:Nat:=285
abbrev gB:Nat:=286
abbrev cV:Nat:=293
abbrev kG:Nat:=295
abbrev aBg:Nat:=296
abbrev aDk:Nat:=297
abbrev aMG:Nat:=299
abbrev dP:Nat:=300
abbrev rX:Nat:=301
abbrev oN:Nat:=302
abbrev pR:Nat:=303
abbrev pF:Nat:=304
abbrev kS:Nat:=305
abbrev pG:Nat:=306
abbrev nS:Nat:=307
abbrev rI:Nat:=308
abbrev cJ:Nat:=309
abbrev jW:Nat:=310
abbrev mG:Nat:=311
abbrev xU:Nat:=312
abbrev vN:Nat:=313
abbrev cK:Nat:=319
abbrev eZ:Nat:=320
abbrev fA:Nat:=321
abbrev jI:Nat:=322
abbrev fN:Nat:=323
abbrev bO:Nat:=324
abbrev dK:Nat:=325
abbrev bY:Nat:=326
abbrev eG:Nat:=327
abbrev bI:Nat:=328
abbrev cX:Nat:=329
abbrev dQ:Nat:=345
abbrev vO:Nat:=346
abbrev aDl:Nat:=347
abbrev aC5:Nat:=348
abbrev wV:Nat:=349
abbrev aBh:Nat:=350
abbrev qS:Nat:=351
abbrev tU:Nat:=352
abbrev aA3:Nat:=353
abbrev wW:Nat:=354
abbrev dA:Nat:=359
abbrev gC:Nat:=360
abbrev cQ:Nat:=361
abbrev bS:Nat:=362
abbrev aDm:Nat:=367
abbrev aC6:Nat:=368
abbrev jJ:Nat:=369
abbrev tV:Nat:=370
abbrev vP:Nat:=371
abbrev aLA:Nat:=372
abbrev iQ:Nat:=373
abbrev aJb:Nat:=374
abbrev aA4:Nat:=375
abbrev rJ:Nat:=376
abbrev aJc:Nat:=377
abbrev aJd:Nat:=378
abbrev aLB:Nat:=379
abbrev aLC:Nat:=380
abbrev aPJ:Nat:=381
abbrev aJe:Nat:=382
abbrev aDn:Nat:=383
abbrev aFD:Nat:=384
abbrev aDo:Nat:=385
abbrev aA5:Nat:=386
abbrev aPK:Nat:=387
abbrev tW:Nat:=388
abbrev aGs:Nat:=389
abbrev aFE:Nat:=392
abbrev aDp:Nat:=395
abbrev aEk:Nat:=396
end
section
open Go.Proofs.Tryz
def aA6:HFun:=⟨13,[(4,none)],zQ (zr [zk 4 0] [4]) (zQ (zQ (zr [zm 5 0,zj 6 .lss 5 0] [5]) (zC 6 (zK [6] (zr [zm 7 0,zj 8 .add 7 1,zo 9 (.un .neg (zt 8)),zm 0 9] [9,8,7])) (zK [6] .skip))) (zQ (zr [zm 10 0,zm 11 1,zb 12 .rem 10 11,zm 4 12] [0,1,12,11,10]) .ret))⟩
theorem aAv:aB prog fY []=some aA6:=by kernel_rfl
def aGt:HFun:=⟨21,[(4,none)],zQ (zr [zo 4 (.mov (zu 0))] [4]) (zQ (zr [zm 8 0,zc 9 aZ [zt 8],zm 10 1,zc 11 aZ [zt 10],zc 12 oZ [zt 9,zt 11],zm 7 12,ze 13 7 0,ze 14 7 1,zm 5 13,zm 6 14] [0,1,14,13,7,12,11,10,9,8]) (zQ (zr [zm 15 6,zc 16 aZ [zt 15],zm 17 5,zo 18 (.bin .shl (zt 17) (zu 3)),zb 19 .add 16 18,zc 20 aZ [zt 19],zm 4 20] [6,5,20,19,18,17,16,15]) .ret))⟩
theorem aJf:aB prog gG []=some aGt:=by kernel_rfl
def aGu:HFun:=⟨12,[(4,none)],zQ (zr [zo 4 (.mov (zu 0))] [4]) (zQ (zr [zm 5 0,zc 6 aZ [zt 5],zo 7 (.bin .add (zt 6) (zu 2305843009213693951)),zm 8 1,zc 9 aZ [zt 8],zb 10 .sub 7 9,zc 11 aZ [zt 10],zm 4 11] [0,1,11,10,9,8,7,6,5]) .ret)⟩
theorem aJg:aB prog rB []=some aGu:=by kernel_rfl
def aFF:HFun:=⟨59,[(4,none)],zQ (zr [zo 4 (.mov (zu 0))] [4]) (zQ (zr [zm 10 0,zo 11 (.bin .rem (zt 10) (zu 2305843009213693951)),zm 0 11] [11,10]) (zQ (zr [zm 12 1,zo 13 (.bin .rem (zt 12) (zu 2305843009213693951)),zm 1 13] [13,12]) (zE [zo 5 (.mov (zu 4294967296))] (zQ (zR (zq (zm 14 0) (zq (zm 15 5) (zq (zb 16 .rem 14 15) (zq (zm 17 1) (zq (zm 18 5) (zq (zb 19 .rem 17 18) (zq (zb 20 .mul 16 19) (zq (zm 6 20) (.done false))))))))) [20,19,18,17,16,15,14]) (zQ (zR (zq (zm 21 0) (zq (zm 22 5) (zq (zb 23 .quo 21 22) (zq (zm 24 1) (zq (zm 25 5) (zq (zb 26 .rem 24 25) (zq (zb 27 .mul 23 26) (zq (zm 28 0) (zq (zm 29 5) (zq (zb 30 .rem 28 29) (zq (zm 31 1) (zq (zm 32 5) (zq (zb 33 .quo 31 32) (zq (zb 34 .mul 30 33) (zq (zb 35 .add 27 34) (zq (zm 7 35) (.done false))))))))))))))))) [35,34,33,32,31,30,29,28,27,26,25,24,23,22,21]) (zQ (zR (zq (zm 36 0) (zq (zm 37 5) (zq (zb 38 .quo 36 37) (zq (zm 39 1) (zq (zm 40 5) (zq (zb 41 .quo 39 40) (zq (zb 42 .mul 38 41) (zq (zm 8 42) (.done false))))))))) [0,1,42,41,40,39,38,37,36]) (zE [zo 9 (.mov (zu 536870912))] (zQ (zR (zq (zm 43 6) (zq (zo 44 (.bin .rem (zt 43) (zu 2305843009213693951))) (zq (zm 45 7) (zq (zm 46 9) (zq (zb 47 .rem 45 46) (zq (zm 48 5) (zq (zb 49 .mul 47 48) (zq (zb 50 .add 44 49) (zq (zm 51 7) (zq (zm 52 9) (zq (zb 53 .quo 51 52) (zq (zb 54 .add 50 53) (zq (zm 55 8) (zq (zo 56 (.bin .mul (zu 8) (zt 55))) (zq (zb 57 .add 54 56) (zq (zo 58 (.bin .rem (zt 57) (zu 2305843009213693951))) (zq (zm 4 58) (.done false)))))))))))))))))) [6,7,9,5,8,58,57,56,55,54,53,52,51,50,49,48,47,46,45,44,43]) .ret))))))))⟩
theorem aEl:aB prog mF []=some aFF:=by kernel_rfl
def aMH:HFun:=⟨40,[(4,none)],zE [zo 4 (.mov (zu 0))] (zQ (zr [zm 9 0,zo 10 (.lenS (zt 9)),zo 11 (.conv .u64 (zt 10)),zo 12 (.bld [zU,zU] [(0,(1,zt 11))]),zo 5 (.alloc [zU,zU]),zs (.st 2 (zt 5) (zt 12))] [12,11,10,9]) (zQ (zQ (zr [zm 13 0,zo 14 (.s2b (zt 13)),zc 15 sQ [zt 14]] [0,14,13]) (.block 0 (.rng (zt 15) [16] [5] (zr [zm 6 16] [16]) (.block 1 (zr [zm 17 6,zo 18 (.bsl 1 [zU] [(0,(1,zt 17))] 1),zc 19 fK [zt 5,zt 18]] [6,5,19,18,17]))))) (zQ (zr [zm 20 1,zn 21 20,zo 22 (.conv .u64 (zt 21)),zo 23 (.bsl 1 [zU] [(0,(1,zt 22))] 1),zc 24 fK [zt 5,zt 23]] [24,23,22,21,20]) (zQ (zQ (zr [zm 25 1,zn 26 25,zk 27 0] [1]) (zP 2 (zE [zb 28 .lss 27 26] (zQ (zC 28 (zK [28] .skip) (zK [25,27,26,28] (.exit 2))) (zQ (.block 3 (zQ (zr [zi 29 25 27 1,zl 30 29,zm 8 30] [30,29]) (zr [zm 31 8,zc 32 aZ [zt 31],zo 33 (.bsl 1 [zU] [(0,(1,zt 32))] 1),zc 34 fK [zt 5,zt 33]] [8,34,33,32,31]))) (zr [zj 35 .add 27 1,zm 27 35] [35])))))) (zQ (zr [zo 36 (.bsl 1 [zU] [(0,(1,zu 0))] 1),zc 37 fK [zt 5,zt 36]] [37,36]) (zQ (zr [zf 38 5 0,zl 39 38,zm 4 39] [5,39,38]) .ret))))))⟩
theorem aOb:aB prog kQ []=some aMH:=by kernel_rfl
def aAw:HFun:=⟨8,[(2,none)],zQ (zr [zk 2 0] [2]) (zQ (.cond zF (zQ (zr [zm 3 0,zo 4 (.conv .u32 (zt 3)),zc 5 aEj [zt 4],zm 2 5] [0,5,4,3]) .ret) .skip) (zQ (zr [zm 6 0,zc 7 pE [zt 6],zm 2 7] [0,7,6]) .ret))⟩
theorem aDq:aB prog rW []=some aAw:=by kernel_rfl
def aGv:HFun:=⟨5,[(2,none)],zQ (zr [zo 2 (.mov (zu 0))] [2]) (zQ (zr [zm 3 0,zc 4 rB [zu 0,zt 3],zm 2 4] [0,4,3]) .ret)⟩
theorem aJh:aB prog aB4 []=some aGv:=by kernel_rfl
def aGw:HFun:=⟨11,[(4,none)],zQ (zr [zo 4 (.mov (zu 0))] [4]) (zQ (zr [zm 5 0,zc 6 aZ [zt 5],zm 7 1,zc 8 aZ [zt 7],zb 9 .add 6 8,zc 10 aZ [zt 9],zm 4 10] [0,1,10,9,8,7,6,5]) .ret)⟩
theorem aJi:aB prog iO []=some aGw:=by kernel_rfl
def aGx:HFun:=⟨5,[(2,none)],zQ (zr [zo 2 (.mov (zu 0))] [2]) (zQ (zr [zm 3 0,zc 4 iP [zt 3,zu 2305843009213693949],zm 2 4] [0,4,3]) .ret)⟩
theorem aJj:aB prog aB3 []=some aGx:=by kernel_rfl
def vQ:HFun:=⟨51,[(4,none),(5,none)],zQ (zr [zo 4 (.mov (zu 0)),zo 5 (.mov (zu 0))] [5,4]) (zQ (zr [zm 14 0,zo 15 (.bin .and (zt 14) (zu 4294967295)),zm 6 15] [15,14]) (zQ (zr [zm 16 0,zo 17 (.bin .shr (zt 16) (zu 32)),zm 7 17] [17,16]) (zQ (zr [zm 18 1,zo 19 (.bin .and (zt 18) (zu 4294967295)),zm 8 19] [19,18]) (zQ (zr [zm 20 1,zo 21 (.bin .shr (zt 20) (zu 32)),zm 9 21] [21,20]) (zQ (zr [zm 22 6,zm 23 8,zb 24 .mul 22 23,zm 10 24] [24,23,22]) (zQ (zr [zm 25 7,zm 26 8,zb 27 .mul 25 26,zm 28 10,zo 29 (.bin .shr (zt 28) (zu 32)),zb 30 .add 27 29,zm 11 30] [8,10,30,29,28,27,26,25]) (zQ (zr [zm 31 11,zo 32 (.bin .and (zt 31) (zu 4294967295)),zm 12 32] [32,31]) (zQ (zr [zm 33 11,zo 34 (.bin .shr (zt 33) (zu 32)),zm 13 34] [11,34,33]) (zQ (zr [zm 35 12,zm 36 6,zm 37 9,zb 38 .mul 36 37,zb 39 .add 35 38,zm 12 39] [6,39,38,37,36,35]) (zQ (zr [zm 40 7,zm 41 9,zb 42 .mul 40 41,zm 43 13,zb 44 .add 42 43,zm 45 12,zo 46 (.bin .shr (zt 45) (zu 32)),zb 47 .add 44 46,zm 4 47] [7,9,13,12,47,46,45,44,43,42,41,40]) (zQ (zr [zm 48 0,zm 49 1,zb 50 .mul 48 49,zm 5 50] [0,1,50,49,48]) .ret)))))))))))⟩
theorem aBi:aB prog oZ []=some vQ:=by kernel_rfl
def aGy:HFun:=⟨13,[(2,none)],zQ (zr [zo 2 (.mov (zu 0))] [2]) (zQ (zr [zm 3 0,zo 4 (.bin .and (zt 3) (zu 2305843009213693951)),zm 5 0,zo 6 (.bin .shr (zt 5) (zu 61)),zb 7 .add 4 6,zm 0 7] [7,6,5,4,3]) (zQ (zQ (zr [zm 8 0,zo 9 (.bin .geq (zt 8) (zu 2305843009213693951))] [8]) (zC 9 (zK [9] (zr [zm 10 0,zo 11 (.bin .sub (zt 10) (zu 2305843009213693951)),zm 0 11] [11,10])) (zK [9] .skip))) (zQ (zr [zm 12 0,zm 2 12] [0,12]) .ret)))⟩
theorem aJk:aB prog aZ []=some aGy:=by kernel_rfl
def aJl:HFun:=⟨58,[(4,none)],zQ (zr [zo 4 (.mov (zu 0))] [4]) (zQ (zr [zm 10 0,zo 11 (.s2b (zt 10)),zc 12 rH [zt 11],zm 13 1,zn 14 13,zo 15 (.conv .u64 (zt 14)),zo 16 (.bsl 1 [zU] [(0,(1,zt 15))] 1),zo 17 (.app (zt 12) (zt 16) 1 8),zm 5 17] [17,16,15,14,13,12,11,10]) (zQ (zE [zk 6 0] (zP 0 (zQ (zQ (zr [zm 18 6,zm 19 1,zn 20 19,zb 21 .lss 18 20] [20,19,18]) (zC 21 (zK [21] .skip) (zK [1,6,21] (.exit 0)))) (zQ (.block 1 (zr [zm 24 5,zm 25 1,zm 26 6,zi 27 25 26 1,zl 28 27,zo 29 (.bin .rem (zt 28) (zu 2305843009213693951)),zo 30 (.bsl 1 [zU] [(0,(1,zt 29))] 1),zo 31 (.app (zt 24) (zt 30) 1 8),zm 5 31] [31,30,29,28,27,26,25,24])) (zr [zm 22 6,zj 23 .add 22 1,zm 6 23] [23,22]))))) (zQ (zr [zm 32 5,zo 33 (.bsl 1 [zU] [(0,(1,zu 0))] 1),zo 34 (.app (zt 32) (zt 33) 1 8),zm 5 34] [34,33,32]) (zQ (zr [zm 35 0,zo 36 (.lenS (zt 35)),zo 37 (.conv .u64 (zt 36)),zm 7 37] [0,37,36,35]) (zQ (zE [zk 8 0] (zP 2 (zQ (zQ (zr [zm 38 8,zm 39 5,zn 40 39,zb 41 .lss 38 40] [40,39,38]) (zC 41 (zK [41] .skip) (zK [5,8,41] (.exit 2)))) (zQ (.block 3 (zQ (zR (zq (zm 44 7) (zq (zm 46 5) (zq (zm 47 8) (zq (zi 48 46 47 1) (zq (zl 49 48) (zq (zm 50 8) (zq (zj 51 .add 50 1) (zq (zo 52 (.conv .u64 (zt 51))) (zA (zc 45 mF [zu 37,zt 44]) [zo 52 (.conv .u64 (zt 51)),zj 51 .add 50 1,zm 50 8,zl 49 48,zi 48 46 47 1,zm 47 8,zm 46 5] (zA (zc 53 nZ [zt 49,zt 52]) [] (zA (zc 54 nZ [zt 45,zt 53]) [] (zq (zm 9 54) (.done false)) .no) .no) .no))))))))) [7,54,53,52,51,50,49,48,47,46,45,44]) (zr [zm 55 9,zc 56 jD [zt 55,zu 17],zm 7 56] [9,56,55]))) (zr [zm 42 8,zj 43 .add 42 1,zm 8 43] [43,42]))))) (zQ (zr [zm 57 7,zm 4 57] [7,57]) .ret))))))⟩
theorem aGz:aB prog nA []=some aJl:=by kernel_rfl
def aMI:HFun:=⟨12,[(4,none)],zQ (zr [zo 4 (.mov (zu 0))] [4]) (zQ (zr [zm 5 0,zo 6 (.bin .rem (zt 5) (zu 2305843009213693951)),zo 7 (.bin .add (zt 6) (zu 2305843009213693951)),zm 8 1,zo 9 (.bin .rem (zt 8) (zu 2305843009213693951)),zb 10 .sub 7 9,zo 11 (.bin .rem (zt 10) (zu 2305843009213693951)),zm 4 11] [0,1,11,10,9,8,7,6,5]) .ret)⟩
theorem aOc:aB prog aMG []=some aMI:=by kernel_rfl
def aEm:HFun:=⟨4,[(2,none)],zQ (zr [zo 1 (.box (zt 0)),zo 2 (.mov (.const .nilFunc))] [0,2]) (zQ (zr [zo 3 (.clo jG [zt 1]),zm 2 3] [1,3]) .ret)⟩
theorem aHt:aB prog sQ []=some aEm:=by kernel_rfl
def vR:HFun:=⟨37,[],zQ (zr [zm 6 1,zn 7 6,zk 8 0] [1]) (zP 0 (zE [zb 9 .lss 8 7] (zQ (zC 9 (zK [9] .skip) (zK [6,8,7,0,9] (.exit 0))) (zQ (.block 1 (zQ (zr [zi 10 6 8 1,zl 11 10,zm 5 11] [11,10]) (zQ (zr [zm 12 0,zo 13 (.nilc (zt 12)),zf 14 13 1,zl 15 14,zo 16 (.bin .add (zt 15) (zu 1)),zo 17 (.nilc (zt 12)),zf 18 17 1,zs (.st 1 (zt 18) (zt 16))] [18,17,16,15,14,13,12]) (zR (zq (zm 19 0) (zq (zm 20 0) (zq (zo 21 (.nilc (zt 20))) (zq (zf 22 21 0) (zq (zl 23 22) (zq (zm 25 5) (zq (zm 26 0) (zq (zo 27 (.nilc (zt 26))) (zq (zf 28 27 1) (zq (zl 29 28) (zq (zb 30 .add 25 29) (zA (zc 24 gG [zu 37,zt 23]) [zb 30 .add 25 29,zl 29 28,zf 28 27 1,zo 27 (.nilc (zt 26)),zm 26 0,zm 25 5,zm 19 0] (zA (zc 31 aZ [zt 30]) [zm 19 0] (zA (zc 32 iO [zt 24,zt 31]) [zm 19 0] (zA (zc 33 iP [zt 32,zu 17]) [zm 19 0] (zq (zo 34 (.nilc (zt 19))) (zq (zf 35 34 0) (zA (zs (.st 1 (zt 35) (zt 33))) [] (.done false) .no))) .no) .no) .no) .no)))))))))))) [5,35,34,33,32,31,30,29,28,27,26,25,24,23,22,21,20,19])))) (zr [zj 36 .add 8 1,zm 8 36] [36])))))⟩
theorem aBj:aB prog fK []=some vR:=by kernel_rfl
def vS:HFun:=⟨25,[(2,none)],zE [zk 2 0] (zQ (zQ (zr [zm 3 0,zo 4 (.bin .geq (zt 3) (zu 4294967296))] [3]) (zC 4 (zK [2,4] (zQ (zr [zm 5 0,zo 6 (.bin .shr (zt 5) (zu 32)),zm 0 6] [6,5]) (.reg [zk 2 32]))) (zK [4] .skip))) (zQ (zQ (zr [zm 7 0,zo 8 (.bin .geq (zt 7) (zu 65536))] [7]) (zC 8 (zK [8] (zQ (zr [zm 9 0,zo 10 (.bin .shr (zt 9) (zu 16)),zm 0 10] [10,9]) (zr [zm 11 2,zj 12 .add 11 16,zm 2 12] [12,11]))) (zK [8] .skip))) (zQ (zQ (zr [zm 13 0,zo 14 (.bin .geq (zt 13) (zu 256))] [13]) (zC 14 (zK [14] (zQ (zr [zm 15 0,zo 16 (.bin .shr (zt 15) (zu 8)),zm 0 16] [16,15]) (zr [zm 17 2,zj 18 .add 17 8,zm 2 18] [18,17]))) (zK [14] .skip))) (zQ (zr [zm 19 2,zm 20 0,zo 21 (.conv .u8 (zt 20)),zo 22 (.ixS (.const (.string (Hud.bs [0,1,2,2,3,3,3,3,4,4,4,4,4,4,4,4,5,5,5,5,5,5,5,5,5,5,5,5,5,5,5,5,6,6,6,6,6,6,6,6,6,6,6,6,6,6,6,6,6,6,6,6,6,6,6,6,6,6,6,6,6,6,6,6,7,7,7,7,7,7,7,7,7,7,7,7,7,7,7,7,7,7,7,7,7,7,7,7,7,7,7,7,7,7,7,7,7,7,7,7,7,7,7,7,7,7,7,7,7,7,7,7,7,7,7,7,7,7,7,7,7,7,7,7,7,7,7,7,8,8,8,8,8,8,8,8,8,8,8,8,8,8,8,8,8,8,8,8,8,8,8,8,8,8,8,8,8,8,8,8,8,8,8,8,8,8,8,8,8,8,8,8,8,8,8,8,8,8,8,8,8,8,8,8,8,8,8,8,8,8,8,8,8,8,8,8,8,8,8,8,8,8,8,8,8,8,8,8,8,8,8,8,8,8,8,8,8,8,8,8,8,8,8,8,8,8,8,8,8,8,8,8,8,8,8,8,8,8,8,8,8,8,8,8,8,8,8,8,8,8,8,8,8,8,8,8]))) (zt 21)),zo 23 (.conv .i64 (zt 22)),zb 24 .add 19 23,zm 2 24] [0,24,23,22,21,20,19]) .ret))))⟩
theorem aBk:aB prog pE []=some vS:=by kernel_rfl
def aGA:HFun:=⟨18,[(4,none)],zE [zo 4 (.mov (zu 0))] (zE [zo 5 (.alloc [zU]),zs (.st 1 (zt 5) (zu 1))] (zQ (zQ (zr [zm 8 0,zm 9 1,zc 10 rV [zt 8,zt 9]] [0,1,9,8]) (.block 0 (.rng (zt 10) [11,12] [5] (zQ (zr [zm 6 11] [11]) (zr [zm 7 12] [12])) (.block 1 (zQ (zr [zm 13 7] [7]) (zC 13 (zK [13] (zr [zl 14 5,zm 15 6,zc 16 gG [zt 14,zt 15],zs (.st 1 (zt 5) (zt 16))] [5,6,16,15,14])) (zK [5,6,13] .skip))))))) (zQ (zr [zl 17 5,zm 4 17] [5,17]) .ret)))⟩
theorem aJm:aB prog iP []=some aGA:=by kernel_rfl
def aBl:HFun:=⟨37,[(2,none)],zQ (zr [zN 2] [2]) (zQ (zE [zN 3] (.own 3 none 1)) (zQ (zE [zk 4 0] (zP 0 (zQ (zQ (zr [zm 7 4,zm 8 0,zn 9 8,zb 10 .lss 7 9] [9,8,7]) (zC 10 (zK [10] .skip) (zK [4,0,10] (.exit 0)))) (zQ (.block 1 (zE [zo 5 (.mov (zu 0))] (zQ (zQ (zr [zm 13 0,zn 14 13,zm 15 4,zj 16 .add 15 7,zo 17 (.mm false (zt 14) (zt 16)),zj 18 .sub 17 1,zm 6 18] [18,17,16,15,14,13]) (zP 2 (zQ (zQ (zr [zm 19 6,zm 20 4,zb 21 .geq 19 20] [20,19]) (zC 21 (zK [21] .skip) (zK [6,21] (.exit 2)))) (zQ (.block 3 (zr [zm 24 5,zo 25 (.bin .mul (zt 24) (zu 256)),zm 26 0,zm 27 6,zi 28 26 27 1,zl 29 28,zo 30 (.conv .u64 (zt 29)),zb 31 .add 25 30,zm 5 31] [31,30,29,28,27,26,25,24])) (zr [zm 22 6,zj 23 .sub 22 1,zm 6 23] [23,22]))))) (zQ (zr [zm 32 3,zm 33 5,zo 34 (.bsl 1 [zU] [(0,(1,zt 33))] 1),zo 35 (.app (zt 32) (zt 34) 1 8),zm 3 35] [5,35,34,33,32]) (.own 3 none 1))))) (zr [zm 11 4,zj 12 .add 11 7,zm 4 12] [12,11]))))) (zQ (zQ (zr [zm 36 3,zm 2 36] [3,36]) (.own 2 none 1)) .ret)))⟩
theorem aBm:aB prog rH [(2,none,1),(3,none,1)]=some aBl:=by kernel_rfl
def aFG:HFun:=⟨11,[(4,none)],zQ (zr [zo 4 (.mov (zu 0))] [4]) (zQ (zr [zm 5 0,zo 6 (.bin .rem (zt 5) (zu 2305843009213693951)),zm 7 1,zo 8 (.bin .rem (zt 7) (zu 2305843009213693951)),zb 9 .add 6 8,zo 10 (.bin .rem (zt 9) (zu 2305843009213693951)),zm 4 10] [0,1,10,9,8,7,6,5]) .ret)⟩
theorem aEn:aB prog nZ []=some aFG:=by kernel_rfl
def aFH:HFun:=⟨25,[(4,none)],zQ (zr [zo 4 (.mov (zu 0))] [4]) (zE [zo 5 (.mov (zu 1))] (zQ (zr [zm 8 0,zo 9 (.bin .rem (zt 8) (zu 2305843009213693951)),zm 6 9] [0,9,8]) (zQ (zQ (zr [zm 10 1,zm 7 10] [1,10]) (zP 0 (zQ (zQ (zr [zm 11 7,zo 12 (.bin .gtr (zt 11) (zu 0))] [11]) (zC 12 (zK [12] .skip) (zK [7,6,12] (.exit 0)))) (zQ (.block 1 (zQ (zQ (zr [zm 15 7,zo 16 (.bin .rem (zt 15) (zu 2)),zo 17 (.bin .eql (zt 16) (zu 1))] [16,15]) (zC 17 (zK [17] (zr [zm 18 5,zm 19 6,zc 20 mF [zt 18,zt 19],zm 5 20] [20,19,18])) (zK [17] .skip))) (zr [zm 21 6,zm 22 6,zc 23 mF [zt 21,zt 22],zm 6 23] [23,22,21]))) (zr [zm 13 7,zo 14 (.bin .quo (zt 13) (zu 2)),zm 7 14] [14,13]))))) (zQ (zr [zm 24 5,zm 4 24] [5,24]) .ret))))⟩
theorem aEo:aB prog jD []=some aFH:=by kernel_rfl
def tX:HFun:=⟨29,[],zQ (zr [zo 2 (.box (zt 0))] [0]) (zQ (zr [zl 7 1,zc 8 iI [zt 7,zw 7]] [1,7]) (.block 0 (.rng (zt 8) [9] [2] (zr [zm 3 9] [9]) (.block 1 (zE [zo 4 (.mov (zu 0))] (zQ (zQ (zr [zm 10 3,zn 11 10,zk 12 0] [3]) (zP 2 (zE [zb 13 .lss 12 11] (zQ (zC 13 (zK [13] .skip) (zK [12,10,11,13] (.exit 2))) (zQ (.block 3 (zQ (zr [zm 14 12,zi 15 10 12 1,zl 16 15,zm 5 14,zm 6 16] [16,15,14]) (zr [zm 17 4,zm 18 6,zo 19 (.conv .u64 (zt 18)),zm 20 5,zo 21 (.bin .mul (zw 8) (zt 20)),zb 22 .shl 19 21,zb 23 .or 17 22,zm 4 23] [6,5,23,22,21,20,19,18,17]))) (zr [zj 24 .add 12 1,zm 12 24] [24])))))) (zQ (zr [zl 25 2,zm 26 4,zo 27 (.call (zt 25) [zt 26]),zo 28 (.un .not (zt 27))] [2,4,27,26,25]) (zC 28 (zK [28] .ret) (zK [28] .skip)))))))))⟩
theorem lC:aB prog jG []=some tX:=by kernel_rfl
def mK:HFun:=⟨9,[(4,none)],zQ (zr [zo 2 (.box (zt 0)),zo 3 (.box (zt 1)),zo 4 (.mov (.const .nilFunc))] [0,1,4]) (zQ (zQ (zr [zl 5 3,zj 6 .lss 5 1] [5]) (zC 6 (zK [6] (zr [zo 7 (.bad),zs (.bad)] [7])) (zK [6] .skip))) (zQ (zr [zo 8 (.clo gB [zt 2,zt 3]),zm 4 8] [2,3,8]) .ret))⟩
theorem rY:aB prog iI []=some mK:=by kernel_rfl
def aAx:HFun:=⟨6,[(4,none)],zQ (zr [zo 2 (.box (zt 0)),zo 3 (.box (zt 1)),zo 4 (.mov (.const .nilFunc))] [0,1,4]) (zQ (zr [zo 5 (.clo pD [zt 2,zt 3]),zm 4 5] [2,3,5]) .ret)⟩
theorem aDr:aB prog rV []=some aAx:=by kernel_rfl
def gD:HFun:=⟨31,[],zE [zk 4 0] (zP 0 (zQ (zQ (zr [zm 6 4,zl 7 1,zn 8 7,zb 9 .lss 6 8] [8,7,6]) (zC 9 (zK [9] .skip) (zK [2,1,4,0,9] (.exit 0)))) (zQ (.block 1 (zQ (zR (zq (zl 13 2) (zq (zl 14 1) (zq (zm 15 4) (zq (zo 16 (.slc (zt 14) (some (zt 15)) none 1)) (zq (zn 17 16) (zq (zo 18 (.mm false (zt 13) (zt 17))) (zq (zm 5 18) (.done false)))))))) [18,17,16,15,14,13]) (zQ (zr [zm 19 0,zl 20 1,zm 21 4,zm 22 4,zm 23 5,zb 24 .add 22 23,zm 25 4,zm 26 5,zb 27 .add 25 26,zo 28 (.slx (zt 20) (some (zt 21)) (zt 24) (zt 27) 1),zo 29 (.call (zt 19) [zt 28]),zo 30 (.un .not (zt 29))] [5,29,28,27,26,25,24,23,22,21,20,19]) (zC 30 (zK [4,2,0,1,30] .ret) (zK [30] .skip))))) (zr [zm 10 4,zl 11 2,zb 12 .add 10 11,zm 4 12] [12,11,10]))))⟩
theorem cR:aB prog gB []=some gD:=by kernel_rfl
def vT:HFun:=⟨22,[],zQ (zr [zl 5 1,zc 6 aZ [zt 5],zm 4 6] [1,6,5]) (zP 0 (zQ (zQ (zr [zl 7 2,zo 8 (.bin .gtr (zt 7) (zu 0)),zm 9 8,zh 10 0 9 true,zh 11 4 9 true,zg 12 (.ld none (zt 2)) 9 true,zg 13 (.bin .and (zt 12) (zu 1)) 9 true,zg 14 (.bin .eql (zt 13) (zu 1)) 9 true,zg 15 (.call (zt 10) [zt 11,zt 14]) 9 true,zo 16 (.pick (zt 9) (zt 15) zF)] [15,14,13,12,11,10,9,8,7]) (zC 16 (zK [16] .skip) (zK [4,0,2,16] (.exit 0)))) (zQ (.block 1 (zr [zm 19 4,zm 20 4,zc 21 gG [zt 19,zt 20],zm 4 21] [21,20,19])) (zr [zl 17 2,zo 18 (.bin .shr (zt 17) (zu 1)),zs (.st 1 (zt 2) (zt 18))] [18,17]))))⟩
theorem rK:aB prog pD []=some vT:=by kernel_rfl
end
end Hud
section
namespace Hud
def pwm (m:Nat):Nat->Nat->Nat->Nat->Nat
 | 0,_,_,acc=>acc
 | f+1,b,e,acc=>if e=0 then acc else pwm m f (b*b%m) (e/2) (if e%2=1 then acc*b%m else acc)
theorem aJn (m:Nat):∀ (f b e acc:Nat),e<2^f->pwm m f b e acc%m=acc*b^e%m
 | 0,b,e,acc,h=>by
  have:e=0:=by simp at h;omega
  subst this;simp [pwm]
 | f+1,b,e,acc,h=>by
  simp only [pwm]
  split
  ·rename_i h0;subst h0;simp
  ·rw [aJn m f _ (e/2) _ (by rw [Nat.pow_succ] at h;omega)]
   have h2:b^e=(b*b)^(e/2)*b^(e%2):=by
    rw [<-Nat.pow_two,<-Nat.pow_mul,<-Nat.pow_add]
    congr 1;omega
   rw [Nat.mul_mod,Nat.pow_mod,Nat.mod_mod,<-Nat.pow_mod,<-Nat.mul_mod,h2]
   rcases Nat.mod_two_eq_zero_or_one e with h3 | h3
   ·rw [h3];simp
   ·rw [h3]
    simp only [if_true,Nat.pow_one]
    rw [Nat.mul_mod,Nat.mod_mod,<-Nat.mul_mod]
    congr 1
    rw [Nat.mul_assoc,Nat.mul_comm b]
def PP:Nat:=2305843009213693951
def NN:Nat:=2305843009213693950
def aRD:List Nat:=[2,3,5,7,11,13,31,41,61,151,331,1321]
theorem bA8:37^NN%PP=1:=by
 have:=aJn PP 61 37 NN 1 (by decide)
 rw [Nat.one_mul] at this
 rw [<-this]
 decide +kernel
theorem bCJ:∀ r∈aRD,37^(NN/r)%PP≠1:=by
 intro r hr
 have key:∀ r∈aRD,pwm PP 61 37 (NN/r) 1%PP≠1:=by decide +kernel
 have:=aJn PP 61 37 (NN/r) 1 (Nat.lt_of_le_of_lt (Nat.div_le_self _ _) (by decide))
 rw [Nat.one_mul] at this
 rw [<-this]
 exact key r hr
theorem aJo:∀ r∈aRD,1<r/\∀ d,d ∣ r->d=1\/d=r:=by
 have key:∀ r∈aRD,1<r/\∀ d,d<r->1<d->r%d≠0:=by decide +kernel
 intro r hr
 obtain ⟨h1,h2⟩:=key r hr
 refine ⟨h1,fun d hd=>?_⟩
 have hle:=Nat.le_of_dvd (by omega) hd
 have h0:d≠0:=fun e=>by subst e;rw [Nat.zero_dvd] at hd;omega
 by_cases h:d=1
 ·exact .inl h
 ·by_cases h':d=r
  ·exact .inr h'
  ·exact absurd (Nat.mod_eq_zero_of_dvd hd) (h2 d (by omega) (by omega))
theorem aYZ:NN=2*(3^2*(5^2*(7*(11*(13*(31*(41*(61*(151*(331*1321)))))))))):=by decide
theorem bAP {r m:Nat} (hr:∀ d,d ∣ r->d=1\/d=r):Nat.Coprime m r\/r ∣ m:=by
 rcases hr (Nat.gcd m r) (Nat.gcd_dvd_right m r) with h | h
 ·exact .inl h
 ·exact .inr (h ▸ Nat.gcd_dvd_left m r)
theorem aWC {e:Nat} (hd:e ∣ NN) (hlt:e<NN):∃ r∈aRD,e ∣ NN/r:=by
 obtain ⟨m,hm⟩:=hd
 have hm1:m≠1:=fun h=>by subst h;omega
 have hex:∃ r∈aRD,r ∣ m:=by
  refine Classical.byContradiction fun hno=>hm1 ?_
  have hc:∀ r∈aRD,Nat.Coprime m r:=fun r hr=>(bAP (aJo r hr).2).resolve_right fun h=>hno ⟨r,hr,h⟩
  have hcop:Nat.Coprime m NN:=by
   rw [aYZ]
   exact Nat.Coprime.mul_right (hc 2 (by decide)) <| Nat.Coprime.mul_right (Nat.Coprime.pow_right _ (hc 3 (by decide))) <| Nat.Coprime.mul_right (Nat.Coprime.pow_right _ (hc 5 (by decide))) <|
    Nat.Coprime.mul_right (hc 7 (by decide)) <| Nat.Coprime.mul_right (hc 11 (by decide)) <| Nat.Coprime.mul_right (hc 13 (by decide)) <| Nat.Coprime.mul_right (hc 31 (by decide)) <|
    Nat.Coprime.mul_right (hc 41 (by decide)) <| Nat.Coprime.mul_right (hc 61 (by decide)) <| Nat.Coprime.mul_right (hc 151 (by decide)) <| Nat.Coprime.mul_right (hc 331 (by decide)) (hc 1321 (by decide))
  have:Nat.gcd m NN=m:=Nat.gcd_eq_left ⟨e,by rw [Nat.mul_comm];exact hm⟩
  rw [<-this];exact hcop
 obtain ⟨r,hr,k,hk⟩:=hex
 refine ⟨r,hr,k,?_⟩
 have hr0:0<r:=by have:=(aJo r hr).1;omega
 rw [hm,hk,Nat.mul_left_comm,Nat.mul_div_cancel_left _ hr0]
theorem aPL {g m:Nat} (hm:1<m):∀ (a b:Nat),g^a%m=1->g^b%m=1->g^Nat.gcd a b%m=1:=by
 intro a b
 induction a,b using Nat.gcd.induction with
 | H0 n=>intro _ h;simpa using h
 | H1 a b ha ih =>
  intro h1 h2
  rw [Nat.gcd_rec]
  refine ih ?_ h1
  have hb:b=a*(b/a)+b%a:=(Nat.div_add_mod b a).symm
  rw [hb,Nat.pow_add,Nat.pow_mul,Nat.mul_mod,Nat.pow_mod,h1,Nat.one_pow,Nat.mod_eq_of_lt hm,Nat.one_mul,Nat.mod_mod] at h2
  exact h2
theorem bAQ {d:Nat} (h0:0<d) (hlt:d<NN):37^d%PP≠1:=by
 intro h
 have hg:=aPL (g:=37) (m:=PP) (by decide) d NN h bA8
 have hdvd:=Nat.gcd_dvd_right d NN
 have hle:Nat.gcd d NN<=d:=Nat.le_of_dvd h0 (Nat.gcd_dvd_left d NN)
 obtain ⟨r,hr,k,hk⟩:=aWC hdvd (by omega)
 refine bCJ r hr ?_
 rw [hk,Nat.pow_mul,Nat.pow_mod,hg,Nat.one_pow]
 decide
theorem aWD (i:Nat):Nat.Coprime (37^i) PP:=Nat.Coprime.pow_left i (by decide)
theorem bAR {i j:Nat} (hij:i<j) (hj:j<NN):37^i%PP≠37^j%PP:=by
 intro h
 have hd:PP ∣ 37^j-37^i:=Nat.dvd_of_mod_eq_zero (Nat.sub_mod_eq_zero_of_mod_eq h.symm)
 have e:37^j-37^i=37^i*(37^(j-i)-1):=by
  rw [Nat.mul_sub,<-Nat.pow_add,Nat.mul_one]
  congr 2;omega
 rw [e] at hd
 have hd2:=Nat.Coprime.dvd_of_dvd_mul_left (aWD i).symm hd
 refine bAQ (d:=j-i) (by omega) (by omega) ?_
 have h1:1<=37^(j-i):=Nat.one_le_pow _ _ (by decide)
 obtain ⟨k,hk⟩:=hd2
 have e1:37^(j-i)=1+PP*k:=by omega
 rw [e1,Nat.add_mul_mod_self_left]
 decide
theorem aWE:∀ (n:Nat) (l:List Nat),l.Nodup->(∀ x∈l,x<n)->l.length<=n
 | 0,l,_,h=>by
  cases l with
  | nil=>simp
  | cons x l=>have:=h x (by simp);omega
 | n+1,l,hn,h=>by
  have h1:=aWE n (l.filter (· ≠ n)) (hn.filter _) (fun x hx=>by
   simp only [List.mem_filter,decide_eq_true_eq] at hx
   have:=h x hx.1
   have:=hx.2
   omega)
  have h2:l.length<=(l.filter (· ≠ n)).length+1:=by
   clear h h1
   induction l with
   | nil=>simp
   | cons x l ih =>
    obtain ⟨hx,hn'⟩:=List.nodup_cons.1 hn
    by_cases hxn:x=n
    ·subst hxn
     have:l.filter (· ≠ x)=l:=List.filter_eq_self.2 fun y hy=>by
      simp only [ne_eq,decide_not,Bool.not_eq_true',decide_eq_false_iff_not]
      exact fun e=>hx (e ▸ hy)
     rw [List.filter_cons_of_neg (by simp),this]
     simp
    ·have:=ih hn'
     simp only [List.filter_cons,ne_eq,hxn,not_false_eq_true,decide_true,if_true,List.length_cons]
     simpa using this
  omega
theorem aWF:∀ n,n<=NN->((List.range n).map fun i=>37^i%PP).Nodup:=by
 intro n hn
 rw [List.nodup_iff_pairwise_ne,List.pairwise_map]
 refine List.Pairwise.imp_of_mem ?_ (List.pairwise_lt_range (n:=n))
 intro a b ha hb hab
 rw [List.mem_range] at ha hb
 exact bAR hab (by omega)
theorem aRE {L:List Nat} {n:Nat} (hl:L.length+1=n) (hn:L.Nodup) (hz:0∉L) (hlt:∀ y∈L,y<n) {x:Nat} (h0:0<x) (hx:x<n):x∈L:=by
 refine Classical.byContradiction fun hno=>?_
 have:=aWE n (0::x::L) (by
  rw [List.nodup_cons,List.nodup_cons]
  refine ⟨fun h=>?_,hno,hn⟩
  rcases List.mem_cons.1 h with h | h
  ·omega
  ·exact hz h) (by
  intro y hy
  rcases List.mem_cons.1 hy with rfl | hy
  ·omega
  ·rcases List.mem_cons.1 hy with rfl | hy
   ·exact hx
   ·exact hlt y hy)
 simp only [List.length_cons] at this
 omega
theorem aZ0 (n:Nat):0∉((List.range n).map fun i=>37^i%PP):=by
 intro h
 obtain ⟨i,_,hi⟩:=List.mem_map.1 h
 have:PP ∣ 37^i:=Nat.dvd_of_mod_eq_zero hi
 have h1:Nat.gcd (37^i) PP=PP:=Nat.gcd_eq_right this
 rw [aWD i] at h1
 exact absurd h1 (by decide)
theorem bAS:0<PP:=by decide
theorem bCK:NN+1=PP:=by decide
theorem bAT (n:Nat) (hn:n+1=PP) (hN:n<=NN) {x:Nat} (h0:0<x) (hlt:x<PP):∃ i,x=37^i%PP:=by
 have:=aRE (L:=(List.range n).map fun i=>37^i%PP) (n:=PP) (by rw [List.length_map,List.length_range];exact hn) (aWF n hN) (aZ0 n) (fun y hy=>by
  obtain ⟨i,_,rfl⟩:=List.mem_map.1 hy
  exact Nat.mod_lt _ bAS) h0 hlt
 obtain ⟨i,_,hi⟩:=List.mem_map.1 this
 exact ⟨i,hi.symm⟩
theorem aZ1 {x:Nat} (h0:0<x) (hlt:x<PP):∃ i,x=37^i%PP:=bAT NN bCK (Nat.le_refl _) h0 hlt
theorem aWG {x:Nat} (h:x%PP≠0):x^NN%PP=1:=by
 obtain ⟨i,hi⟩:=aZ1 (x:=x%PP) (by omega) (Nat.mod_lt _ (by decide))
 rw [Nat.pow_mod,hi,<-Nat.pow_mod,<-Nat.pow_mul,Nat.mul_comm,Nat.pow_mul,Nat.pow_mod,bA8,Nat.one_pow]
 decide
theorem aZ2 {x y:Nat} (h:x*y%PP=0):x%PP=0\/y%PP=0:=by
 by_cases hx:x%PP=0
 ·exact .inl hx
 ·refine .inr ?_
  have h1:=aWG hx
  have e:x^NN=x^(NN-1)*x:=by rw [<-Nat.pow_succ];rfl
  have:x^NN*y%PP=0:=by
   rw [e,Nat.mul_assoc,Nat.mul_mod,h,Nat.mul_zero,Nat.zero_mod]
  rw [Nat.mul_mod,h1,Nat.one_mul,Nat.mod_mod] at this
  exact this
end Hud
end
