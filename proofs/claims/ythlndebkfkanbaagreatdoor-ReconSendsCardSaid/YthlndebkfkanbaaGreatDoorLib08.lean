import Derived.Test.YthlndebkfkanbaaGreatDoorLib07
import Derived.Attr
set_option linter.all false
namespace Hud
open Go
section
def nP:Nat→List AV→List (Nat×AV)
 | _,[]=>[]
 | i,x::r=>(i,x)::nP (i+1) r
def FZ:List AV→AV
 | [x]=>x
 | l=>.tup l
def Zh (st:St) (p:Nat×Option (Option Nat)):Option AV:=match p.2 with
 | none=>some (aU st.s p.1)
 | some n=>match bK st.T (bX (λ_=>none) st.s) (.ld n (.tmp p.1)) with
  | some (x,_)=>some x
  | none=>none
def Hj (st:St):List (Nat×Option (Option Nat))→Option (List AV)
 | []=>some []
 | p::r=>match Zh st p with
  | some x=>match Hj st r with
   | some l=>some (x::l)
   | none=>none
  | none=>none
def RS (rs:List (Nat×Option (Option Nat))) (post:AV→aQ→Prop) (st:St):Prop :=
 match Hj st rs with
 | some l =>
  let r:=FZ l
  let L:=tN st.T (List.range st.r++iB r)
  post (F9 L r) (Ef L st.T)∨post r st.T
 | none=>False
def Vl (rs:List (Nat×Option (Option Nat))) (post:AV→aQ→Prop):Ex→St→Prop
 | .normal,st=>RS rs post st
 | .ret,st=>RS rs post st
 | _,_=>False
def aEb (P:Program) (G:Nat→Option (List AV)) (hf:HFun) (args:List AV) (T:aQ) (post:AV→aQ→Prop):Prop :=
 dS P G hf.code (Vl hf.res post) ⟨T.length,nP 0 args,T⟩
def Hk:∀ (i:Nat) (l:List AV),Hb (nP i l)∧∀ j x,(j,x)∈nP i l→i≤j
 | i,[]=>⟨λ_ _ _ h=>by simp [nP] at h,λ_ _ h=>by simp [nP] at h⟩
 | i,x::l=>by
  obtain ⟨h1,h2⟩:=Hk (i+1) l;refine ⟨λj a b ha hb=>?_,λj a ha=>?_⟩
  ·simp only [nP,gK,Prod.mk.injEq] at ha hb;rcases ha with ⟨rfl,rfl⟩ | ha<;>rcases hb with ⟨hb1,rfl⟩ | hb
   ·rfl
   ·have:=h2 _ _ hb;omega
   ·subst hb1;have:=h2 _ _ ha;omega
   ·exact h1 j a b ha hb
  ·simp only [nP,gK,Prod.mk.injEq] at ha;rcases ha with ⟨rfl,_⟩ | ha
   ·exact fW _
   ·have:=h2 _ _ ha;omega
section
variable {P:Program} {G:Nat→Option (List AV)} {h:GH} {φ:Nat→Value} {n:Nat}
def Gj {P:Program} {fn:Func} {tmps:Array Value} {R:Ending→World→Prop} {h0:GH} {φ0:Nat→Value} {T0:aQ} {w0:World} {h:GH} {φ:Nat→Value} {T:aQ}
  (fin:∀ w,Inv h φ w T→Evo h0 φ0 T0 w0 h φ T w→∃ v,(results fn tmps).run P w=.ok v w∧R (.returned v) w):∀ (ds:List Deferred) (w:World),(ds.Pairwise λx y=>x.target≠y.target) →
  (∀ d∈ds,∃ D,d.target=.collected D∧w0.heap.size≤D∧w.heap[D]?=some (.deferred (some [])))→Inv h φ w T→Evo h0 φ0 T0 w0 h φ T w→LeavesInM Fence.wide 0 P fn tmps R ds .returning w
 | [],w,_,_,hI,hE=>fin w hI hE
 | d::ds,w,hp,hd,hI,hE=>by
  obtain ⟨D,e1,e2,e3⟩:=hd d (by simp);have hk:=run_takeDeferred (P:=P) e3;refine ⟨by simp,.inl ⟨D,_,e1,hk,?_⟩⟩;obtain ⟨hp1,hp2⟩:=GD.1 hp;refine Gj fin ds _ hp2 (λd' hm=>?_) ?_ ?_
  ·obtain ⟨D',f1,f2,f3⟩:=hd d' (by simp [hm]);refine ⟨D',f1,f2,?_⟩;rw [World.putObj_heap_other λhDD=>hp1 d' hm (by rw [e1,f1,hDD])];exact f3
  ·refine O1 hI (λi x hx hb=>K0 (hI.obj i x hx) hb _ e3) ?_ _
   cases hh:h D with
   | none=>rfl
   | some cs =>
    obtain ⟨E,fr,hw⟩:=hI.gh D cs hh;rw [e3] at hw;simp at hw
  ·refine ⟨hE.os,hE.tape,hE.output,by simpa using hE.size,λb hb hn=>?_,hE.le,hE.gfr,hE.phi,hE.org,hE.len,hE.drawn⟩;rw [World.putObj_heap_other (by omega)];exact hE.frame b hb hn
def O6:∀ (i:Nat) (l:List AV) (pre us post:List Value),pre.length=i→bW h φ n l us→rP h φ n (nP i l) ⟨(pre++us++post).toArray,[]⟩
 | i,[],pre,us,post,_,_=>λj=>by simp [nP,aU,Rp]
 | i,x::l,pre,us,post,hp,hr=>by
  simp only [bW] at hr;obtain ⟨u,us',rfl,h1,h2⟩:=hr;have:=O6 (i+1) l (pre++[u]) us' post (by simp [hp]) h2;intro j;simp only [nP,aU];split
  ·rename_i hij;subst hij;have hg:(pre++u::us'++post).toArray.getD i undef=u:=by
    subst hp;simp [KF]
   rw [hg];exact h1
  ·have h3:=this j;simp only [eE,Yi] at h3 ⊢;exact h3
def Zi:List Value→Value
 | [v]=>v
 | l=>.tuple l.toArray
def O7 {t:TypeId} {u v:Value} {w w':World} (e:(Instr.loadAt t u).run P w=.ok v w'):(do loadVar t (←asAddr u):Sem Value).run P w=.ok v w':=by
 have key:∀ (s:String),¬((do loadVar t (←stuck s):Sem Value).run P w=.ok v w'):=by
  intro s h;simp [stuck] at h
 cases u with
 | pointer a =>
  cases a with
  | none=>exact absurd e (key _)
  | some a=>exact e
 | _=>exact absurd e (key _)
def RT {fn:Func} {T:aQ} {st:St} {a:Act} {w:World} (hG:rD G h) (hI:Inv h φ w st.T) (hS:rP h φ st.T.length st.s a) {rs:List (Nat×Option (Option Nat))} (hr:LC P fn.results.toList=some rs) {l:List AV} (hl:Hj st rs=some l) :
  ∃ vs,(results fn a.tmps).run P w=.ok (Zi vs) w∧bW h φ st.T.length l vs:=by
 have key:∀ (g:ResultVar→Sem Value),(∀ t,g (.tmp t)=pure (a.tmps.getD t undef))→(∀ i t,g (.cell i t)=(do loadVar t (←asAddr (a.tmps.getD i undef)):Sem Value)) →
   ∀ (rv:List ResultVar) (rs:List (Nat×Option (Option Nat))) (l:List AV),LC P rv=some rs→Hj st rs=some l→∃ vs,(rv.mapM g).run P w=.ok vs w∧bW h φ st.T.length l vs:=by
  intro g hg hgc rv
  induction rv with
  | nil =>
   intro rs l e1 e2;simp only [LC,Option.some.injEq] at e1;subst e1;simp only [Hj,Option.some.injEq] at e2;subst e2;exact ⟨[],by simp,by simp [bW]⟩
  | cons x rv ih =>
   intro rs l e1 e2;have step:∀ (p:Nat×Option (Option Nat)) (rs':List (Nat×Option (Option Nat))),LC P rv=some rs'→rs=p::rs'→(∀ y,Zh st p=some y→∃ v,(g x).run P w=.ok v w∧Rp h φ st.T.length y v)→∃ vs,((x::rv).mapM g).run P w=.ok vs w∧bW h φ st.T.length l vs:=by
    intro p rs' h1 h2 h3;subst h2;simp only [Hj] at e2;split at e2
    ·rename_i y hy;split at e2
     ·rename_i l' hl';injection e2 with e2;subst e2;obtain ⟨v,hv,hrv⟩:=h3 y hy;obtain ⟨vs,hvs,hrs⟩:=ih rs' l' h1 hl';refine ⟨v::vs,?_,?_⟩
      ·rw [List.mapM_cons];simp [hv,hvs]
      ·simp only [bW];exact ⟨v,vs,rfl,hrv,hrs⟩
     ·simp at e2
    ·simp at e2
   cases x with
   | tmp t =>
    simp only [LC] at e1
    cases hq:LC P rv with
    | none=>simp [hq] at e1
    | some rs' =>
     simp only [hq,kZ,Option.some.injEq] at e1;refine step (t,none) rs' hq e1.symm λy hy=>?_;simp only [Zh,Option.some.injEq] at hy;subst hy;exact ⟨_,by rw [hg];simp,hS t⟩
   | cell i t =>
    simp only [LC] at e1;split at e1
    ·rename_i n hn
     cases hq:LC P rv with
     | none=>simp [hq] at e1
     | some rs' =>
      simp only [hq,kZ,Option.some.injEq] at e1;refine step (i,some n) rs' hq e1.symm λy hy=>?_;simp only [Zh] at hy;split at hy
      ·rename_i y' T' he;injection hy with hy;subst hy;have he':bK st.T (bX G st.s) (.ld n (.tmp i))=some (y',T'):=he;obtain ⟨_,v,h1,h2⟩:=Kg (P:=P) (w:=w) hn hG hI hS he';exact ⟨v,by rw [hgc];exact O7 h1,h2⟩
      ·simp at hy
    ·simp at e1
 obtain ⟨vs,h1,h2⟩:=key (fun | .tmp t=>pure (a.tmps.getD t undef) | .cell a' t=>do loadVar t (←asAddr (a.tmps.getD a' undef))) (λt=>rfl) (λi t=>rfl) _ _ _ hr hl;refine ⟨vs,?_,h2⟩;unfold results;rw [Sem.run_bind,aDs,Sem.run_map];erw [h1];simp only [Result.andThen_ok,Sem.run_pure]
 match vs with
 | []=>rfl
 | [t]=>rfl
 | t::t'::l=>rfl
def aC6 {l:List AV} {vs:List Value} (hs:bW h φ n l vs):Rp h φ n (FZ l) (Zi vs):=by
 match l,vs,hs with
 | [],vs,hs=>simp only [bW] at hs;subst hs;simp only [FZ,Zi,Rp];exact ⟨_,rfl,by simp [bW]⟩
 | [x],vs,hs=>simp only [bW] at hs;obtain ⟨u,us,rfl,h1,rfl⟩:=hs;exact h1
 | x::y::l,vs,hs =>
  have hs':=hs;simp only [bW] at hs;obtain ⟨u,us,rfl,h1,u',us',rfl,h2,h3⟩:=hs;simp only [FZ,Zi,Rp];exact ⟨_,rfl,by simpa using hs'⟩
def Vm {f:FuncId} {hf:HFun} {H:List (Nat×Option Nat×Nat)} (hc:sA P f H=some hf) {args:List AV} {T:aQ} {post:AV→aQ→Prop} (hT:True) (hw:aEb P G hf args T post):aC P G f args T post:=by
  unfold sA at hc;split at hc
  · simp at hc
  · rename_i fn hfn
    split at hc
    · simp at hc
    · rename_i hname
      split at hc
      · rename_i c rs hb hrs
        cases hcc:cI P fn.ntmps H c [] (rs.map (·.1)) (rs.map (·.1)) with
        | none=>simp [hcc] at hc
        | some hcode =>
          simp only [hcc,kZ,Option.some.injEq] at hc
          subst hc
          intro h φ w vals hG hI hA
          refine .inl ⟨?_,?_⟩
          · have hn:¬fn.name = "runtime.NumGoroutine" := by simpa using hname
            simp [callFunc,hfn,hn,hb]
          · have hS0:SInv P G fn.ntmps h φ T w ⟨T.length,nP 0 args,T⟩ ⟨vals++Array.replicate (fn.ntmps-vals.size) undef,[]⟩ w:=by
              refine ⟨rfl,(Hk 0 args).1,⟨h,φ,hG,Evo.refl,hI,?_⟩,by simp;omega,by simp [Ei]⟩;have:=O6 (h:=h) (φ:=φ) (n:=T.length) 0 args [] vals.toList (List.replicate (fn.ntmps-vals.size) undef) rfl hA;have e:vals++Array.replicate (fn.ntmps-vals.size) undef=(vals.toList++List.replicate (fn.ntmps-vals.size) undef).toArray:=by
                apply CV.1;simp
              rw [e];simpa only [FQ] using this
            have hwp:c.wpIn Fence.wide 0 P (λe a' w'=>∃ st',exQ (Vl rs post) e st'∧SInv P G fn.ntmps h φ T w st' a' w') ⟨vals++Array.replicate (fn.ntmps-vals.size) undef,[]⟩ w:=by
              have hro:aC5 none φ T w:=λl hl=>by simp at hl
              rcases O4 hw with hw | hw
              · exact LE (N:=fn.ntmps) c (ro:=none) hro hcc hw hS0
              · exact LE (N:=fn.ntmps) c (ro:=none) hro hcc hw (hS0.kill _)
            refine callsIn_wide.1 (callsIn_of_wp_marks (n:=0) hfn hb trivial (wpIn_mono hwp ?_))
            · rintro e a' w' ⟨st,hq,hS⟩
              have fin:RS rs post st→bodyPostM Fence.wide 0 P fn (λe w'=>∃ v,e=.returned v∧Ce h φ T w post v w') .ret a' w':=by
                intro hq;obtain ⟨hr,honce,⟨h2,φ2,hG2,hE2,hI2,hSl⟩,hsz,hdf⟩:=hS;simp only [RS] at hq;split at hq;rotate_left
                · exact hq.elim
                rename_i lr hlr;refine Gj (λwf hI2 hE2=>?_) a'.defers w' hdf.1 hdf.2 hI2 hE2;obtain ⟨vs,hrun,hrl⟩:=RT (T:=st.T) hG2 hI2 hSl hrs hlr;refine ⟨_,hrun,_,rfl,?_⟩;have hres:=aC6 hrl;revert hres;generalize Zi vs=v;intro hres;rcases hq with hq | hq
                · have hS3:SInv P G 0 h φ T w ⟨st.r,[(0,FZ lr)],st.T⟩ ⟨#[v],[]⟩ wf:=by
                    refine ⟨hr,λi x y hx hy=>?_,⟨h2,φ2,hG2,hE2,hI2,λi=>?_⟩,by simp,by simp [Ei]⟩
                    · simp only [gZ,Prod.mk.injEq] at hx hy;rw [hx.2,hy.2]
                    · simp only [aU]
                      split
                      · rename_i hi;subst hi;exact hres
                      · simp [Rp]
                  obtain ⟨_,_,⟨h4,φ4,_,hE4,hI4,hS4⟩,_,_⟩:=Cw (st:=⟨st.r,[(0,FZ lr)],st.T⟩) [] hS3
                  have h5:=hS4 0
                  have hg:yR [] ⟨st.r,[(0,FZ lr)],st.T⟩=⟨st.r,[(0,F9 (tN st.T (List.range st.r++iB (FZ lr))) (FZ lr))],Ef (tN st.T (List.range st.r++iB (FZ lr))) st.T⟩:=by
                    simp [yR,kK,pP,HU,Mw,Qy]
                  rw [hg] at hE4 hI4 h5
                  exact ⟨_,_,h4,φ4,hq,hE4,hI4,h5⟩
                · exact ⟨_,_,h2,φ2,hq,hE2,hI2,hres⟩
              cases e with
              | normal=>exact fin hq
              | ret=>exact fin hq
              | _=>exact hq.elim
      · simp at hc
end
end
section
def bs (l:List UInt8):ByteArray:=⟨l.toArray⟩
class KC (α:Type) where
 k:α→Prop
class PC where
 p:Prop
class KT where
 k:AV→aQ→Prop
class QC where
 q:Ex→St→Prop
def cJ {α:Type} (o:Option α) [c:KC α]:Prop:=match o with | some x=>c.k x | none=>False
def FA (t:Bool) [A:PC] [B:PC]:Prop:=match t with | true=>A.p | false=>B.p
def Zj (v:AV) [c:KC Bool]:Prop:=match v with | .v (.bool t)=>c.k t | _=>False
@[go_sem] def aEc {α:Type} (x:α) (K:α→Prop):@cJ α (some x) ⟨K⟩=K x:=cH rfl rfl
@[go_sem] def aGX (A B:Prop):@FA true ⟨A⟩ ⟨B⟩=A:=cH rfl rfl
@[go_sem] def aGY (A B:Prop):@FA false ⟨A⟩ ⟨B⟩=B:=cH rfl rfl
@[go_sem] def aGZ (t:Bool) (K:Bool→Prop):@Zj (.v (.bool t)) ⟨K⟩=K t:=cH rfl rfl
def aM {t:Bool} {A B:Prop} (ha:t=true→A) (hb:t=false→B):@FA t ⟨A⟩ ⟨B⟩:=by cases t;exact hb rfl;exact ha rfl
def Hl {P:Program} {G:Nat→Option (List AV)} {K K':St→Prop} (h:∀ s,K s→K' s):∀ {os:List HOper} {st:St},HV P G os st K→HV P G os st K'
 | [],st,hw=>h st hw
 | o::os,st,hw=>by
  simp only [HV] at hw ⊢;split<;>rename_i e<;>simp only [e] at hw
  ·exact Au (λ_ _ hk=>Hl h hk) hw
  ·exact Hl h hw
def Fa {P:Program} {G:Nat→Option (List AV)} {K K':St→Prop} {chk:List HOper} (h:∀ s,K s→K' s):∀ {n:Nat} {os:List HOper} {st:St},GP P G chk n os st K→GP P G chk n os st K'
 | 0,_,_,hw=>h _ hw
 | n+1,os,st,hw=>λi o ho=>by
  have hw:=hw i o ho;split<;>rename_i e<;>simp only [e] at hw
  ·exact Au (λ_ _ hk=>⟨hk.1,Fa h hk.2⟩) hw
  ·exact ⟨hw.1,Fa h hw.2⟩
def xH {P:Program} {G:Nat→Option (List AV)} {K K':St→Prop} {p:Plan} (h:∀ s,K s→K' s):∀ {n:Nat} {gc:Bool} {E:List Nat} {st:St},tR P G p n gc E st K→tR P G p n gc E st K'
 | 0,_,_,_,hw=>hw
 | n+1,gc,E,st,hw=>by
  simp only [tR] at hw ⊢;split<;>rename_i e<;>simp only [e] at hw
  ·split<;>rename_i e2<;>simp only [e2] at hw;split<;>rename_i e3<;>simp only [e3] at hw
   ·split<;>rename_i e4<;>simp only [e4] at hw;exact xH h hw
   ·exact xH h hw
  ·split<;>rename_i e2<;>simp only [e2] at hw
   ·exact h _ hw
   ·intro i hi;obtain ⟨o,h1,h2⟩:=hw i hi;refine ⟨o,h1,?_⟩;split<;>rename_i e3<;>simp only [e3] at h2
    ·exact Au (λ_ _ hk=>⟨hk.1,xH h hk.2⟩) h2
    ·exact ⟨h2.1,xH h h2.2⟩
def xI {P:Program} {G:Nat→Option (List AV)} {K K':St→Prop} (h:∀ s,K s→K' s):∀ {d:HD} {st:St},D4 P G d st K→D4 P G d st K'
 | .done b,st,hw=>h _ hw
 | .no,st,hw=>trivial
 | .q o n,st,hw=>by
  simp only [D4] at hw ⊢;split<;>rename_i e<;>simp only [e] at hw
  ·split<;>rename_i e'<;>simp only [e'] at hw;exact xI h hw
  ·exact xI h hw
 | .alt o c n m,st,hw=>by
  simp only [D4] at hw ⊢;refine ⟨?_,xI h hw.2⟩;have hw:=hw.1;split<;>rename_i e<;>simp only [e] at hw
  ·exact Au (λ_ _ hk=>⟨hk.1,xI h hk.2⟩) hw
  ·exact ⟨hw.1,xI h hw.2⟩
 | .perm c o n,st,hw=>by
  simp only [D4] at hw ⊢;exact Fa (λs hs=>xI h hs) hw
 | .plan hs pr n gc E,st,hw=>by
  simp only [D4] at hw ⊢;exact xH h hw
def kB {P:Program} {G:Nat→Option (List AV)}:∀ {c:HC} {Q Q':Ex→St→Prop} {st:St},(∀ e s,Q e s→Q' e s)→dS P G c Q st→dS P G c Q' st
 | .skip,_,_,_,h,hw=>h _ _ hw
 | .reg l,_,_,_,h,hw=>Hl (h _) hw
 | .regd d,_,_,_,h,hw=>xI (h _) hw
 | .seq a b,_,_,_,h,hw=>by
  simp only [dS] at hw ⊢;refine kB (λe s hq=>?_) hw
  cases e with
  | normal=>exact kB h hq
  | exit i=>exact h _ _ hq
  | ret=>exact h _ _ hq
 | .cond c a b,_,_,_,h,hw=>by
  simp only [dS] at hw ⊢;split<;>rename_i e<;>simp only [e] at hw;rename_i t;cases t
  ·exact kB h hw
  ·exact kB h hw
 | .block i a,_,_,_,h,hw=>by
  simp only [dS] at hw ⊢;refine kB (λe s hq=>?_) hw
  cases e with
  | normal=>exact h _ _ hq
  | exit j=>by_cases hj:j=i<;>simp only [hj,if_true,if_false] at hq ⊢<;>exact h _ _ hq
  | ret=>exact h _ _ hq
 | .rng g ps d a b,Q,Q',st,h,hw=>by
  simp only [dS] at hw ⊢;intro r h1 h2 h3 hy;have hw:=hw r h1 h2 h3 hy;split<;>rename_i e<;>simp only [e] at hw;refine ⟨hw.1,FY (λx T hk=>?_) hw.2⟩;simp only [Sy] at hk ⊢;split<;>rename_i e'<;>simp only [e'] at hk;refine ⟨hk.1,?_⟩;have hk:=hk.2;split<;>rename_i e''<;>simp only [e''] at hk<;>exact h _ _ hk
 | .loop d a,_,_,_,h,hw=>by
  obtain ⟨I,h0,hr⟩:=hw;refine ⟨I,h0,λn s hs=>kB (λe s hq=>?_) (hr n s hs)⟩
  cases e with
  | normal=>exact hq
  | exit i=>exact h _ _ hq
  | ret=>exact h _ _ hq
 | .exit i,_,_,_,h,hw=>h _ _ hw
 | .ret,_,_,_,h,hw=>h _ _ hw
 | .kill d,_,_,_,h,hw=>h _ _ hw
 | .own j c k,_,_,_,h,hw=>h _ _ hw
 | .shut j,_,_,_,h,hw=>h _ _ hw
section
variable {P:Program} {G:Nat→Option (List AV)} {st:St}
def Zk (rs:List (Nat×Option (Option Nat))) (post:AV→aQ→Prop) (st:St):Prop :=
 match Hj st rs with
 | some l =>
  let r:=FZ l
  let L:=tN st.T (List.range st.r++iB r)
  post (F9 L r) (Ef L st.T)
 | none=>False
def Zl (rs:List (Nat×Option (Option Nat))) (post:AV→aQ→Prop):Ex→St→Prop
 | .normal,st=>Zk rs post st
 | .ret,st=>Zk rs post st
 | _,_=>False
def aEd (P:Program) (G:Nat→Option (List AV)) (hf:HFun) (args:List AV) (T:aQ) (post:AV→aQ→Prop):Prop :=
 dS P G hf.code (Zl hf.res post) ⟨T.length,nP 0 args,T⟩
def aEe {P:Program} {G:Nat→Option (List AV)} {hf:HFun} {args:List AV} {T:aQ} {post:AV→aQ→Prop} (h:aEd P G hf args T post):aEb P G hf args T post:=by
 refine kB (λe s hq=>?_) h;have key:Zk hf.res post s→RS hf.res post s:=by
  intro hr;unfold Zk at hr;unfold RS;split<;>rename_i e<;>simp only [e] at hr;exact .inl hr
 cases e with
 | normal=>exact key hq
 | ret=>exact key hq
 | exit i=>exact hq
def aF {P:Program} {G:Nat→Option (List AV)} {f:FuncId} {hf:HFun} {H:List (Nat×Option Nat×Nat)} (hc:sA P f H=some hf) {args:List AV} {T:aQ} {post:AV→aQ→Prop} (hT:True) (hw:aEd P G hf args T post):aC P G f args T post:=Vm hc hT (aEe hw)
def aEf (rs:List (Nat×Option (Option Nat))) (post:AV→aQ→Prop) (st:St):Prop :=
 match Hj st rs with
 | some l=>post (FZ l) st.T
 | none=>False
def Zm (rs:List (Nat×Option (Option Nat))) (post:AV→aQ→Prop):Ex→St→Prop
 | .normal,st=>aEf rs post st
 | .ret,st=>aEf rs post st
 | _,_=>False
def aIJ (P:Program) (G:Nat→Option (List AV)) (hf:HFun) (args:List AV) (T:aQ) (post:AV→aQ→Prop):Prop :=
 dS P G hf.code (Zm hf.res post) ⟨T.length,nP 0 args,T⟩
def rF {P:Program} {f:FuncId} {hf:HFun} {H:List (Nat×Option Nat×Nat)} (hc:sA P f H=some hf):Ok P f:=by
 unfold sA at hc;split at hc
 ·simp at hc
 ·rename_i fn hfn;split at hc
  ·simp at hc
  ·rename_i hname;split at hc
   ·rename_i c rs hb hrs;exact ⟨fn,c,hfn,hb,by simpa using hname⟩
   ·simp at hc
def sB (P:Program) (G:Nat→Option (List AV)) (f:FuncId) (args:List AV) (T:aQ) [c:KT]:Prop:=GO P G f args T c.k
def tJ (P:Program) (G:Nat→Option (List AV)) (st:St) (o:HOp) [c:KT]:Prop:=tI P G st o c.k
def RV (P:Program) (G:Nat→Option (List AV)) (os:List HOper) (st:St) [c:KC St]:Prop:=HV P G os st c.k
def Mz (P:Program) (G:Nat→Option (List AV)) (d:HD) (st:St) [c:KC St]:Prop:=D4 P G d st c.k
def cX (P:Program) (G:Nat→Option (List AV)) (c:HC) (st:St) [q:QC]:Prop:=dS P G c q.q st
@[go_sem] def Vn (hf:HFun) (args:List AV) (T:aQ) (post:AV→aQ→Prop):aEd P G hf args T post=@cX P G hf.code ⟨T.length,nP 0 args,T⟩ ⟨Zl hf.res post⟩:=cH rfl rfl
@[go_sem] def aH0 (hf:HFun) (args:List AV) (T:aQ) (post:AV→aQ→Prop):aIJ P G hf args T post=@cX P G hf.code ⟨T.length,nP 0 args,T⟩ ⟨Zm hf.res post⟩:=cH rfl rfl
@[go_sem] def aFI (K:St→Prop):@RV P G [] st ⟨K⟩=K st:=cH rfl rfl
@[go_sem] def aFy (d:Option Nat) (o:HOp) (os:List HOper) (K:St→Prop):@RV P G (⟨d,o,none⟩::os) st ⟨K⟩=@tJ P G st o ⟨λx T=>@RV P G os ⟨st.r,dT st.s d x,T⟩ ⟨K⟩⟩:=cH rfl rfl
@[go_sem] def aEg (d:Option Nat) (o:HOp) (j:Nat) (b:Bool) (os:List HOper) (K:St→Prop) :
  @RV P G (⟨d,o,some (j,b)⟩::os) st ⟨K⟩=@cJ Bool (eC st.s (some (j,b))) ⟨λt=>@FA t ⟨@tJ P G st o ⟨λx T=>@RV P G os ⟨st.r,dT st.s d x,T⟩ ⟨K⟩⟩⟩ ⟨@RV P G os ⟨st.r,dT st.s d (.v undef),st.T⟩ ⟨K⟩⟩⟩:=by
 simp only [RV,HV];unfold cJ
 cases eC st.s (some (j,b)) with
 | none=>rfl
 | some t=>cases t<;>rfl
def Zn (P:Program) (G:Nat→Option (List AV)) (i:Nat) (args:List AV) (T:aQ) [c:KT]:Prop:=BW P G i args T c.k
def Zo (P:Program) (G:Nat→Option (List AV)) (f:AV) (args:List AV) (T:aQ) [c:KT]:Prop:=match f with
 | .cl g caps=>sB P G g (args++caps) T
 | .bm g k cs=>sB P G g (cs.take k++args++cs.drop k) T
 | .yl i=>Zn P G i args T
 | _=>False
@[go_sem] def aH1 (g:Nat) (caps args:List AV) (T:aQ) (K:AV→aQ→Prop):@Zo P G (.cl g caps) args T ⟨K⟩=@sB P G g (args++caps) T ⟨K⟩:=cH rfl rfl
@[go_sem] def aH2 (g k:Nat) (cs args:List AV) (T:aQ) (K:AV→aQ→Prop):@Zo P G (.bm g k cs) args T ⟨K⟩=@sB P G g (cs.take k++args++cs.drop k) T ⟨K⟩:=cH rfl rfl
@[go_sem] def aH3 (i:Nat) (args:List AV) (T:aQ) (K:AV→aQ→Prop):@Zo P G (.yl i) args T ⟨K⟩=@Zn P G i args T ⟨K⟩:=cH rfl rfl
@[go_sem] def aFJ (f:Operand) (as_:List Operand) (K:AV→aQ→Prop):@tJ P G st (.call f as_) ⟨K⟩=@Zo P G (bX G st.s f) (as_.map (bX G st.s)) st.T ⟨K⟩:=by
 simp only [tJ,tI];unfold Zo;cases bX G st.s f<;>rfl
def bM {o:HOp} (h:∀ f l,o≠.call f l) (h':∀ p,o≠.nxt p) (h'':∀ n k x,o≠.nilS n k x) (K:AV→aQ→Prop):@tJ P G st o ⟨K⟩=@cJ (AV×aQ) (bK st.T (bX G st.s) o) ⟨λp=>K p.1 p.2⟩:=by
 cases o with
 | call f l=>exact absurd rfl (h f l)
 | nxt p=>exact absurd rfl (h' p)
 | nilS n k x=>exact absurd rfl (h'' n k x)
 | _ =>
  simp only [tJ,tI];unfold cJ
  cases bK st.T (bX G st.s) _ with
  | none=>rfl
  | some p=>rfl
@[go_sem] def aH4 {x} (K:AV→aQ→Prop):@tJ P G st (.mov x) ⟨K⟩=@cJ (AV×aQ) (bK st.T (bX G st.s) (.mov x)) ⟨λp=>K p.1 p.2⟩:=bM (λ_ _ e=>by cases e) (λ_ e=>by cases e) (λ_ _ _ e=>by cases e) K
@[go_sem] def aFK {c a b} (K:AV→aQ→Prop):@tJ P G st (.pick c a b) ⟨K⟩=@cJ (AV×aQ) (bK st.T (bX G st.s) (.pick c a b)) ⟨λp=>K p.1 p.2⟩:=bM (λ_ _ e=>by cases e) (λ_ e=>by cases e) (λ_ _ _ e=>by cases e) K
@[go_sem] def aH5 {op x y} (K:AV→aQ→Prop):@tJ P G st (.bin op x y) ⟨K⟩=@cJ (AV×aQ) (bK st.T (bX G st.s) (.bin op x y)) ⟨λp=>K p.1 p.2⟩:=bM (λ_ _ e=>by cases e) (λ_ e=>by cases e) (λ_ _ _ e=>by cases e) K
@[go_sem] def aH6 {neg ks x y} (K:AV→aQ→Prop):@tJ P G st (.eqa neg ks x y) ⟨K⟩=@cJ (AV×aQ) (bK st.T (bX G st.s) (.eqa neg ks x y)) ⟨λp=>K p.1 p.2⟩:=bM (λ_ _ e=>by cases e) (λ_ e=>by cases e) (λ_ _ _ e=>by cases e) K
@[go_sem] def aH7 {neg x y} (K:AV→aQ→Prop):@tJ P G st (.eqb neg x y) ⟨K⟩=@cJ (AV×aQ) (bK st.T (bX G st.s) (.eqb neg x y)) ⟨λp=>K p.1 p.2⟩:=bM (λ_ _ e=>by cases e) (λ_ e=>by cases e) (λ_ _ _ e=>by cases e) K
@[go_sem] def aIK {op x} (K:AV→aQ→Prop):@tJ P G st (.un op x) ⟨K⟩=@cJ (AV×aQ) (bK st.T (bX G st.s) (.un op x)) ⟨λp=>K p.1 p.2⟩:=bM (λ_ _ e=>by cases e) (λ_ e=>by cases e) (λ_ _ _ e=>by cases e) K
@[go_sem] def aFL {k x} (K:AV→aQ→Prop):@tJ P G st (.conv k x) ⟨K⟩=@cJ (AV×aQ) (bK st.T (bX G st.s) (.conv k x)) ⟨λp=>K p.1 p.2⟩:=bM (λ_ _ e=>by cases e) (λ_ e=>by cases e) (λ_ _ _ e=>by cases e) K
@[go_sem] def aH8 {x} (K:AV→aQ→Prop):@tJ P G st (.box x) ⟨K⟩=@cJ (AV×aQ) (bK st.T (bX G st.s) (.box x)) ⟨λp=>K p.1 p.2⟩:=bM (λ_ _ e=>by cases e) (λ_ e=>by cases e) (λ_ _ _ e=>by cases e) K
@[go_sem] def aFz {z} (K:AV→aQ→Prop):@tJ P G st (.alloc z) ⟨K⟩=@cJ (AV×aQ) (bK st.T (bX G st.s) (.alloc z)) ⟨λp=>K p.1 p.2⟩:=bM (λ_ _ e=>by cases e) (λ_ e=>by cases e) (λ_ _ _ e=>by cases e) K
@[go_sem] def aH9 {z parts} (K:AV→aQ→Prop):@tJ P G st (.bld z parts) ⟨K⟩=@cJ (AV×aQ) (bK st.T (bX G st.s) (.bld z parts)) ⟨λp=>K p.1 p.2⟩:=bM (λ_ _ e=>by cases e) (λ_ e=>by cases e) (λ_ _ _ e=>by cases e) K
@[go_sem] def aHa {k z parts len} (K:AV→aQ→Prop):@tJ P G st (.bsl k z parts len) ⟨K⟩=@cJ (AV×aQ) (bK st.T (bX G st.s) (.bsl k z parts len)) ⟨λp=>K p.1 p.2⟩:=bM (λ_ _ e=>by cases e) (λ_ e=>by cases e) (λ_ _ _ e=>by cases e) K
@[go_sem] def aIL {n p} (K:AV→aQ→Prop):@tJ P G st (.ld n p) ⟨K⟩=@cJ (AV×aQ) (bK st.T (bX G st.s) (.ld n p)) ⟨λp=>K p.1 p.2⟩:=bM (λ_ _ e=>by cases e) (λ_ e=>by cases e) (λ_ _ _ e=>by cases e) K
@[go_sem] def aIM {n p x} (K:AV→aQ→Prop):@tJ P G st (.st n p x) ⟨K⟩=@cJ (AV×aQ) (bK st.T (bX G st.s) (.st n p x)) ⟨λp=>K p.1 p.2⟩:=bM (λ_ _ e=>by cases e) (λ_ e=>by cases e) (λ_ _ _ e=>by cases e) K
@[go_sem] def aHb {p off} (K:AV→aQ→Prop):@tJ P G st (.fad p off) ⟨K⟩=@cJ (AV×aQ) (bK st.T (bX G st.s) (.fad p off)) ⟨λp=>K p.1 p.2⟩:=bM (λ_ _ e=>by cases e) (λ_ e=>by cases e) (λ_ _ _ e=>by cases e) K
@[go_sem] def aHc {x off n} (K:AV→aQ→Prop):@tJ P G st (.fld x off n) ⟨K⟩=@cJ (AV×aQ) (bK st.T (bX G st.s) (.fld x off n)) ⟨λp=>K p.1 p.2⟩:=bM (λ_ _ e=>by cases e) (λ_ e=>by cases e) (λ_ _ _ e=>by cases e) K
@[go_sem] def aHd {x ix k} (K:AV→aQ→Prop):@tJ P G st (.iad x ix k) ⟨K⟩=@cJ (AV×aQ) (bK st.T (bX G st.s) (.iad x ix k)) ⟨λp=>K p.1 p.2⟩:=bM (λ_ _ e=>by cases e) (λ_ e=>by cases e) (λ_ _ _ e=>by cases e) K
@[go_sem] def aFM {x ix len k} (K:AV→aQ→Prop):@tJ P G st (.iadA x ix len k) ⟨K⟩=@cJ (AV×aQ) (bK st.T (bX G st.s) (.iadA x ix len k)) ⟨λp=>K p.1 p.2⟩:=bM (λ_ _ e=>by cases e) (λ_ e=>by cases e) (λ_ _ _ e=>by cases e) K
@[go_sem] def aHe {x ix} (K:AV→aQ→Prop):@tJ P G st (.ixS x ix) ⟨K⟩=@cJ (AV×aQ) (bK st.T (bX G st.s) (.ixS x ix)) ⟨λp=>K p.1 p.2⟩:=bM (λ_ _ e=>by cases e) (λ_ e=>by cases e) (λ_ _ _ e=>by cases e) K
@[go_sem] def aFN {x} (K:AV→aQ→Prop):@tJ P G st (.lenS x) ⟨K⟩=@cJ (AV×aQ) (bK st.T (bX G st.s) (.lenS x)) ⟨λp=>K p.1 p.2⟩:=bM (λ_ _ e=>by cases e) (λ_ e=>by cases e) (λ_ _ _ e=>by cases e) K
@[go_sem] def aFO {x} (K:AV→aQ→Prop):@tJ P G st (.lenL x) ⟨K⟩=@cJ (AV×aQ) (bK st.T (bX G st.s) (.lenL x)) ⟨λp=>K p.1 p.2⟩:=bM (λ_ _ e=>by cases e) (λ_ e=>by cases e) (λ_ _ _ e=>by cases e) K
@[go_sem] def aHf {x y k bytes} (K:AV→aQ→Prop):@tJ P G st (.app x y k bytes) ⟨K⟩=@cJ (AV×aQ) (bK st.T (bX G st.s) (.app x y k bytes)) ⟨λp=>K p.1 p.2⟩:=bM (λ_ _ e=>by cases e) (λ_ e=>by cases e) (λ_ _ _ e=>by cases e) K
@[go_sem] def aHg {x i} (K:AV→aQ→Prop):@tJ P G st (.ext x i) ⟨K⟩=@cJ (AV×aQ) (bK st.T (bX G st.s) (.ext x i)) ⟨λp=>K p.1 p.2⟩:=bM (λ_ _ e=>by cases e) (λ_ e=>by cases e) (λ_ _ _ e=>by cases e) K
@[go_sem] def aHh {f caps} (K:AV→aQ→Prop):@tJ P G st (.clo f caps) ⟨K⟩=@cJ (AV×aQ) (bK st.T (bX G st.s) (.clo f caps)) ⟨λp=>K p.1 p.2⟩:=bM (λ_ _ e=>by cases e) (λ_ e=>by cases e) (λ_ _ _ e=>by cases e) K
@[go_sem] def aFP {x} (K:AV→aQ→Prop):@tJ P G st (.nilc x) ⟨K⟩=@cJ (AV×aQ) (bK st.T (bX G st.s) (.nilc x)) ⟨λp=>K p.1 p.2⟩:=bM (λ_ _ e=>by cases e) (λ_ e=>by cases e) (λ_ _ _ e=>by cases e) K
@[go_sem] def aHi {x lo hi k} (K:AV→aQ→Prop):@tJ P G st (.slc x lo hi k) ⟨K⟩=@cJ (AV×aQ) (bK st.T (bX G st.s) (.slc x lo hi k)) ⟨λp=>K p.1 p.2⟩:=bM (λ_ _ e=>by cases e) (λ_ e=>by cases e) (λ_ _ _ e=>by cases e) K
@[go_sem] def aFQ {x lo hi} (K:AV→aQ→Prop):@tJ P G st (.slcS x lo hi) ⟨K⟩=@cJ (AV×aQ) (bK st.T (bX G st.s) (.slcS x lo hi)) ⟨λp=>K p.1 p.2⟩:=bM (λ_ _ e=>by cases e) (λ_ e=>by cases e) (λ_ _ _ e=>by cases e) K
@[go_sem] def aFR {neg kd x} (K:AV→aQ→Prop):@tJ P G st (.nilS neg kd x) ⟨K⟩=@FA (Oj kd (bX G st.s x)) ⟨K (.v (.bool true)) st.T∧K (.v (.bool false)) st.T⟩ ⟨@cJ (AV×aQ) (bK st.T (bX G st.s) (.nilS neg kd x)) ⟨λp=>K p.1 p.2⟩⟩:=by
 simp only [tJ,tI];unfold FA cJ;split<;>rename_i h
 ·rw [h];rfl
 ·have h:Oj kd (bX G st.s x)=false:=by simpa using h
  rw [h];simp only
  cases bK st.T (bX G st.s) (.nilS neg kd x) with
  | none=>rfl
  | some p=>rfl
@[go_sem] def aIN {mx x y} (K:AV→aQ→Prop):@tJ P G st (.mm mx x y) ⟨K⟩=@cJ (AV×aQ) (bK st.T (bX G st.s) (.mm mx x y)) ⟨λp=>K p.1 p.2⟩:=bM (λ_ _ e=>by cases e) (λ_ e=>by cases e) (λ_ _ _ e=>by cases e) K
@[go_sem] def aHj {ag} (K:AV→aQ→Prop):@tJ P G st (.mkm ag) ⟨K⟩=@cJ (AV×aQ) (bK st.T (bX G st.s) (.mkm ag)) ⟨λp=>K p.1 p.2⟩:=bM (λ_ _ e=>by cases e) (λ_ e=>by cases e) (λ_ _ _ e=>by cases e) K
@[go_sem] def aHk {ag ls z m k ok} (K:AV→aQ→Prop):@tJ P G st (.lku ag ls z m k ok) ⟨K⟩=@cJ (AV×aQ) (bK st.T (bX G st.s) (.lku ag ls z m k ok)) ⟨λp=>K p.1 p.2⟩:=bM (λ_ _ e=>by cases e) (λ_ e=>by cases e) (λ_ _ _ e=>by cases e) K
@[go_sem] def aHl {ag ls m k x} (K:AV→aQ→Prop):@tJ P G st (.mup ag ls m k x) ⟨K⟩=@cJ (AV×aQ) (bK st.T (bX G st.s) (.mup ag ls m k x)) ⟨λp=>K p.1 p.2⟩:=bM (λ_ _ e=>by cases e) (λ_ e=>by cases e) (λ_ _ _ e=>by cases e) K
@[go_sem] def aHm {ag ls z m k} (K:AV→aQ→Prop):@tJ P G st (.men ag ls z m k) ⟨K⟩=@cJ (AV×aQ) (bK st.T (bX G st.s) (.men ag ls z m k)) ⟨λp=>K p.1 p.2⟩:=bM (λ_ _ e=>by cases e) (λ_ e=>by cases e) (λ_ _ _ e=>by cases e) K
@[go_sem] def aHn {m s x} (K:AV→aQ→Prop):@tJ P G st (.mst m s x) ⟨K⟩=@cJ (AV×aQ) (bK st.T (bX G st.s) (.mst m s x)) ⟨λp=>K p.1 p.2⟩:=bM (λ_ _ e=>by cases e) (λ_ e=>by cases e) (λ_ _ _ e=>by cases e) K
@[go_sem] def aHo {ag ls m k} (K:AV→aQ→Prop):@tJ P G st (.del ag ls m k) ⟨K⟩=@cJ (AV×aQ) (bK st.T (bX G st.s) (.del ag ls m k)) ⟨λp=>K p.1 p.2⟩:=bM (λ_ _ e=>by cases e) (λ_ e=>by cases e) (λ_ _ _ e=>by cases e) K
@[go_sem] def aFS {m} (K:AV→aQ→Prop):@tJ P G st (.lenM m) ⟨K⟩=@cJ (AV×aQ) (bK st.T (bX G st.s) (.lenM m)) ⟨λp=>K p.1 p.2⟩:=bM (λ_ _ e=>by cases e) (λ_ e=>by cases e) (λ_ _ _ e=>by cases e) K
@[go_sem] def aHp {k z bytes x y} (K:AV→aQ→Prop):@tJ P G st (.mks k z bytes x y) ⟨K⟩=@cJ (AV×aQ) (bK st.T (bX G st.s) (.mks k z bytes x y)) ⟨λp=>K p.1 p.2⟩:=bM (λ_ _ e=>by cases e) (λ_ e=>by cases e) (λ_ _ _ e=>by cases e) K
@[go_sem] def aHq {x} (K:AV→aQ→Prop):@tJ P G st (.s2b x) ⟨K⟩=@cJ (AV×aQ) (bK st.T (bX G st.s) (.s2b x)) ⟨λp=>K p.1 p.2⟩:=bM (λ_ _ e=>by cases e) (λ_ e=>by cases e) (λ_ _ _ e=>by cases e) K
@[go_sem] def aHr {x} (K:AV→aQ→Prop):@tJ P G st (.b2s x) ⟨K⟩=@cJ (AV×aQ) (bK st.T (bX G st.s) (.b2s x)) ⟨λp=>K p.1 p.2⟩:=bM (λ_ _ e=>by cases e) (λ_ e=>by cases e) (λ_ _ _ e=>by cases e) K
@[go_sem] def aHs {x} (K:AV→aQ→Prop):@tJ P G st (.b2b x) ⟨K⟩=@cJ (AV×aQ) (bK st.T (bX G st.s) (.b2b x)) ⟨λp=>K p.1 p.2⟩:=bM (λ_ _ e=>by cases e) (λ_ e=>by cases e) (λ_ _ _ e=>by cases e) K
@[go_sem] def aHt {x y} (K:AV→aQ→Prop):@tJ P G st (.apS x y) ⟨K⟩=@cJ (AV×aQ) (bK st.T (bX G st.s) (.apS x y)) ⟨λp=>K p.1 p.2⟩:=bM (λ_ _ e=>by cases e) (λ_ e=>by cases e) (λ_ _ _ e=>by cases e) K
@[go_sem] def aHu {f k cs} (K:AV→aQ→Prop):@tJ P G st (.bmo f k cs) ⟨K⟩=@cJ (AV×aQ) (bK st.T (bX G st.s) (.bmo f k cs)) ⟨λp=>K p.1 p.2⟩:=bM (λ_ _ e=>by cases e) (λ_ e=>by cases e) (λ_ _ _ e=>by cases e) K
@[go_sem] def aFT {k z ps len} (K:AV→aQ→Prop):@tJ P G st (.bslS k z ps len) ⟨K⟩=@cJ (AV×aQ) (bK st.T (bX G st.s) (.bslS k z ps len)) ⟨λp=>K p.1 p.2⟩:=bM (λ_ _ e=>by cases e) (λ_ e=>by cases e) (λ_ _ _ e=>by cases e) K
@[go_sem] def aHv (K:AV→aQ→Prop):@tJ P G st .bad ⟨K⟩=False:=cH rfl rfl
@[go_sem] def aHw {m} (K:AV→aQ→Prop):@tJ P G st (.rgm m) ⟨K⟩=@cJ (AV×aQ) (bK st.T (bX G st.s) (.rgm m)) ⟨λp=>K p.1 p.2⟩:=bM (λ_ _ e=>by cases e) (λ_ e=>by cases e) (λ_ _ _ e=>by cases e) K
@[go_sem] def aHx {m} (K:AV→aQ→Prop):@tJ P G st (.ent m) ⟨K⟩=@cJ (AV×aQ) (bK st.T (bX G st.s) (.ent m)) ⟨λp=>K p.1 p.2⟩:=bM (λ_ _ e=>by cases e) (λ_ e=>by cases e) (λ_ _ _ e=>by cases e) K
@[go_sem] def aHy {x k z} (K:AV→aQ→Prop):@tJ P G st (.clr x k z) ⟨K⟩=@cJ (AV×aQ) (bK st.T (bX G st.s) (.clr x k z)) ⟨λp=>K p.1 p.2⟩:=bM (λ_ _ e=>by cases e) (λ_ e=>by cases e) (λ_ _ _ e=>by cases e) K
def aEh (T:aQ) (x:AV) [c:KT]:Prop:=match x with
 | .ptr i 0=>match cR T i with
  | some (.mit none _ _ _)=>c.k (.v (.tuple #[.bool false])) T
  | some (.mit (some j) since seen la)=>match cR T j with
   | some (.map ag ks vs bs cl)=>since≤la∧(∀ b∈bs,b<since)∧((∀ b∈bs,b∈seen)→c.k (.v (.tuple #[.bool false])) T) ∧
     ∀ (e:Nat) (k:List Value) (v:AV) (b:Nat),ks[e]?=some k→vs[e]?=some v→bs[e]?=some b→b∉seen →
      c.k (.tup [.v (.bool true),.v (iH ag k),v]) (T.set i (some (.mit (some j) since (seen++[b]) cl)))
   | _=>False
  | _=>False
 | _=>False
@[go_sem] def aHz {p} (K:AV→aQ→Prop):@tJ P G st (.nxt p) ⟨K⟩=@aEh st.T (bX G st.s p) ⟨K⟩:=cH rfl rfl
@[go_sem] def aHA {x lo hi mx k} (K:AV→aQ→Prop):@tJ P G st (.slx x lo hi mx k) ⟨K⟩=@cJ (AV×aQ) (bK st.T (bX G st.s) (.slx x lo hi mx k)) ⟨λp=>K p.1 p.2⟩:=bM (λ_ _ e=>by cases e) (λ_ e=>by cases e) (λ_ _ _ e=>by cases e) K
@[go_sem] def aFU (b:Bool) (K:St→Prop):@Mz P G (.done b) st ⟨K⟩=K (if b then yR [] st else st):=cH rfl rfl
@[go_sem] def aIO (K:St→Prop):@Mz P G .no st ⟨K⟩=True:=cH rfl rfl
@[go_sem] def aJw (d:Option Nat) (o:HOp) (n:HD) (K:St→Prop):@Mz P G (.q ⟨d,o,none⟩ n) st ⟨K⟩=@cJ (AV×aQ) (bK st.T (bX G st.s) o) ⟨λp=>@Mz P G n ⟨st.r,dT st.s d p.1,st.T⟩ ⟨K⟩⟩:=by
 simp only [Mz,D4,eC];unfold cJ
 cases bK st.T (bX G st.s) o with
 | none=>rfl
 | some p=>rfl
@[go_sem] def aIP (d:Option Nat) (o:HOp) (j:Nat) (b:Bool) (n:HD) (K:St→Prop) :
  @Mz P G (.q ⟨d,o,some (j,b)⟩ n) st ⟨K⟩=@cJ Bool (eC st.s (some (j,b))) ⟨λt=>@FA t ⟨@cJ (AV×aQ) (bK st.T (bX G st.s) o) ⟨λp=>@Mz P G n ⟨st.r,dT st.s d p.1,st.T⟩ ⟨K⟩⟩⟩ ⟨@Mz P G n ⟨st.r,dT st.s d (.v undef),st.T⟩ ⟨K⟩⟩⟩:=by
 simp only [Mz,D4];unfold cJ
 cases eC st.s (some (j,b)) with
 | none=>rfl
 | some t =>
  cases t
  ·rfl
  ·cases bK st.T (bX G st.s) o with
   | none=>rfl
   | some p=>rfl
@[go_sem] def aHB (d:Option Nat) (o:HOp) (chk:List HOper) (n m:HD) (K:St→Prop) :
  @Mz P G (.alt ⟨d,o,none⟩ chk n m) st ⟨K⟩=((@tJ P G st o ⟨λx T=>mT G ⟨st.r,dT st.s d x,T⟩ chk∧@Mz P G n ⟨st.r,dT st.s d x,T⟩ ⟨K⟩⟩)∧@Mz P G m st ⟨K⟩):=cH rfl rfl
@[go_sem] def aFV (d:Option Nat) (o:HOp) (j:Nat) (b:Bool) (chk:List HOper) (n m:HD) (K:St→Prop) :
  @Mz P G (.alt ⟨d,o,some (j,b)⟩ chk n m) st ⟨K⟩=((@cJ Bool (eC st.s (some (j,b))) ⟨λt=>@FA t ⟨@tJ P G st o ⟨λx T=>mT G ⟨st.r,dT st.s d x,T⟩ chk∧@Mz P G n ⟨st.r,dT st.s d x,T⟩ ⟨K⟩⟩⟩
   ⟨mT G ⟨st.r,dT st.s d (.v undef),st.T⟩ chk∧@Mz P G n ⟨st.r,dT st.s d (.v undef),st.T⟩ ⟨K⟩⟩⟩)∧@Mz P G m st ⟨K⟩):=by
 simp only [Mz,D4];unfold cJ
 cases eC st.s (some (j,b)) with
 | none=>rfl
 | some t=>cases t<;>rfl
@[go_sem] def aEi (Q:Ex→St→Prop):@cX P G .skip st ⟨Q⟩=Q .normal st:=cH rfl rfl
@[go_sem] def aFA (l:List HOper) (Q:Ex→St→Prop):@cX P G (.reg l) st ⟨Q⟩=@RV P G l st ⟨Q .normal⟩:=cH rfl rfl
@[go_sem] def aEj (d:HD) (Q:Ex→St→Prop):@cX P G (.regd d) st ⟨Q⟩=@Mz P G d st ⟨Q .normal⟩:=cH rfl rfl
@[go_sem] def aEk (d:List Nat) (Q:Ex→St→Prop):@cX P G (.kill d) st ⟨Q⟩=Q .normal ⟨st.r,kK d st.s,st.T⟩:=cH rfl rfl
@[go_sem] def aFB (j:Nat) (c:Option Nat) (k:Nat) (Q:Ex→St→Prop):@cX P G (.own j c k) st ⟨Q⟩=Q .normal (Ka st j c k):=cH rfl rfl
@[go_sem] def aEl (j:Nat) (Q:Ex→St→Prop):@cX P G (.shut j) st ⟨Q⟩=Q .normal (yR [] (Kb st j)):=cH rfl rfl
@[go_sem] def aEm (i:Nat) (Q:Ex→St→Prop):@cX P G (.exit i) st ⟨Q⟩=Q (.exit i) st:=cH rfl rfl
@[go_sem] def aFC (Q:Ex→St→Prop):@cX P G .ret st ⟨Q⟩=Q .ret st:=cH rfl rfl
def Fb [c:KC St] [q:QC]:Ex→St→Prop | .normal,s=>c.k s | .exit i,s=>q.q (.exit i) s | .ret,s=>q.q .ret s
@[go_sem] def aEn (K:St→Prop) (Q:Ex→St→Prop) (s:St):@Fb ⟨K⟩ ⟨Q⟩ .normal s=K s:=cH rfl rfl
@[go_sem] def aEo (K:St→Prop) (Q:Ex→St→Prop) (i:Nat) (s:St):@Fb ⟨K⟩ ⟨Q⟩ (.exit i) s=Q (.exit i) s:=cH rfl rfl
@[go_sem] def aEp (K:St→Prop) (Q:Ex→St→Prop) (s:St):@Fb ⟨K⟩ ⟨Q⟩ .ret s=Q .ret s:=cH rfl rfl
@[go_sem] def cP (a b:HC) (Q:Ex→St→Prop):@cX P G (.seq a b) st ⟨Q⟩=@cX P G a st ⟨@Fb ⟨λs=>@cX P G b s ⟨Q⟩⟩ ⟨Q⟩⟩:=by
 simp only [cX,dS];congr 1;funext e s;cases e<;>rfl
def Fc (id:Nat) [q:QC]:Ex→St→Prop | .normal,s=>q.q .normal s | .exit i,s=>if i=id then q.q .normal s else q.q (.exit i) s | .ret,s=>q.q .ret s
@[go_sem] def aFW (id:Nat) (Q:Ex→St→Prop) (s:St):@Fc id ⟨Q⟩ .normal s=Q .normal s:=cH rfl rfl
@[go_sem] def aFX (id i:Nat) (Q:Ex→St→Prop) (s:St):@Fc id ⟨Q⟩ (.exit i) s=if i=id then Q .normal s else Q (.exit i) s:=cH rfl rfl
@[go_sem] def aFY (id:Nat) (Q:Ex→St→Prop) (s:St):@Fc id ⟨Q⟩ .ret s=Q .ret s:=cH rfl rfl
@[go_sem] def aDC (id:Nat) (a:HC) (Q:Ex→St→Prop):@cX P G (.block id a) st ⟨Q⟩=@cX P G a st ⟨@Fc id ⟨Q⟩⟩:=by
 simp only [cX,dS];congr 1;funext e s;cases e<;>rfl
@[go_sem] def aEq (c:Operand) (a b:HC) (Q:Ex→St→Prop):@cX P G (.cond c a b) st ⟨Q⟩=@Zj (bX G st.s c) ⟨λt=>@FA t ⟨@cX P G a st ⟨Q⟩⟩ ⟨@cX P G b st ⟨Q⟩⟩⟩:=by
 simp only [cX,dS];unfold Zj;split
 ·rename_i t h;rw [h];cases t<;>rfl
 ·rename_i h;split
  ·rename_i t h';exact absurd h' (h t)
  ·rfl
def Cz (d:List Nat) [c:KC St] [q:QC]:Ex→St→Prop | .normal,s=>c.k (yR d s) | .exit i,s=>q.q (.exit i) s | .ret,s=>q.q .ret s
@[go_sem] def aHC (d:List Nat) (J:St→Prop) (Q:Ex→St→Prop) (s:St):@Cz d ⟨J⟩ ⟨Q⟩ .normal s=J (yR d s):=cH rfl rfl
@[go_sem] def aHD (d:List Nat) (J:St→Prop) (Q:Ex→St→Prop) (i:Nat) (s:St):@Cz d ⟨J⟩ ⟨Q⟩ (.exit i) s=Q (.exit i) s:=cH rfl rfl
@[go_sem] def aHE (d:List Nat) (J:St→Prop) (Q:Ex→St→Prop) (s:St):@Cz d ⟨J⟩ ⟨Q⟩ .ret s=Q .ret s:=cH rfl rfl
def qS {c:HC} {Q Q':Ex→St→Prop} {st:St} (h:∀ e s,Q e s→Q' e s) (hc:@cX P G c st ⟨Q⟩):@cX P G c st ⟨Q'⟩:=kB h hc
def aC7 {d:List Nat} {a:HC} {Q:Ex→St→Prop} (I:Nat→St→Prop) (n:Nat) (h0:I n (yR d st)∨I n st) (hr:∀ n s,I n s→@cX P G a s ⟨@Cz d ⟨λs'=>∃ m,m<n∧I m s'⟩ ⟨Q⟩⟩):@cX P G (.loop d a) st ⟨Q⟩:=by
 refine ⟨I,⟨n,h0⟩,λn s hs=>?_⟩;have:=hr n s hs;refine kB (λe s hq=>?_) this
 cases e with
 | normal=>exact ⟨hq.choose,hq.choose_spec.1,.inl hq.choose_spec.2⟩
 | exit i=>exact hq
 | ret=>exact hq
def Zp [c:KC St] [q:QC]:Ex→St→Prop | .normal,s=>c.k s | .exit i,s=>q.q (.exit i) s | .ret,s=>q.q .ret s
@[go_sem] def aHF (J:St→Prop) (Q:Ex→St→Prop) (s:St):@Zp ⟨J⟩ ⟨Q⟩ .normal s=J s:=cH rfl rfl
@[go_sem] def aHG (J:St→Prop) (Q:Ex→St→Prop) (i:Nat) (s:St):@Zp ⟨J⟩ ⟨Q⟩ (.exit i) s=Q (.exit i) s:=cH rfl rfl
@[go_sem] def aHH (J:St→Prop) (Q:Ex→St→Prop) (s:St):@Zp ⟨J⟩ ⟨Q⟩ .ret s=Q .ret s:=cH rfl rfl
def bU {d:List Nat} {a:HC} {Q:Ex→St→Prop} (I:Nat→St→Prop) (n:Nat) (h0:I n (yR d st)) (hr:∀ n s,I n s→@cX P G a s ⟨@Cz d ⟨λs'=>∃ m,m<n∧I m s'⟩ ⟨Q⟩⟩):@cX P G (.loop d a) st ⟨Q⟩:=by
 exact aC7 I n (.inl h0) hr
def Bi {d:List Nat} {J J':St→Prop} {Q:Ex→St→Prop} (h:∀ s,J s→J' s):∀ e s,@Cz d ⟨J⟩ ⟨Q⟩ e s→@Cz d ⟨J'⟩ ⟨Q⟩ e s:=by
 intro e s
 cases e with
 | normal=>exact h _
 | exit i=>exact id
 | ret=>exact id
def aO {d:List Nat} {a:HC} {Q:Ex→St→Prop} (N:Nat) (S:Nat→St) (J:Nat→Prop) (h0:yR d st=S 0) (j0:J 0) (hr:∀ i,i<N→J i→@cX P G a (S i) ⟨@Cz d ⟨λs'=>s'=S (i+1)∧J (i+1)⟩ ⟨Q⟩⟩)
  (hl:J N→@cX P G a (S N) ⟨@Cz d ⟨λ_=>False⟩ ⟨Q⟩⟩):@cX P G (.loop d a) st ⟨Q⟩:=by
 refine bU (λn s=>∃ i,i≤N∧n=N-i∧s=S i∧J i) N ⟨0,xC _,by simp,h0,j0⟩ ?_;rintro n s ⟨i,hi,rfl,rfl,hj⟩;rcases bY i N with hlt | hge
 ·exact qS (Bi λs ⟨h1,h2⟩=>⟨N-(i+1),by omega,i+1,by omega,rfl,h1,h2⟩) (hr i hlt hj)
 ·obtain rfl:i=N:=by omega
  exact qS (Bi λs h=>h.elim) (hl hj)
def Zq (i:Nat) (r:Loop) (s:List (Nat×AV)) (n:Nat) [c:KT]:Ex→St→Prop
 | .normal,st=>c.k (.v (.bool true)) ((yR [] ⟨n,[],st.T⟩).T.set i (some (.lp r s)))
 | .exit id,st=>c.k (.v (.bool false)) ((yR [] ⟨n,[],st.T⟩).T.set i (some (.lp (left r (.exit id)) s)))
 | .ret,st=>c.k (.v (.bool false)) ((yR [] ⟨n,[],st.T⟩).T.set i (some (.lp (left r .ret) s)))
@[go_sem] def aIQ (i:Nat) (r:Loop) (s:List (Nat×AV)) (n:Nat) (K:AV→aQ→Prop) (st:St):@Zq i r s n ⟨K⟩ .normal st=K (.v (.bool true)) ((yR [] ⟨n,[],st.T⟩).T.set i (some (.lp r s))):=cH rfl rfl
@[go_sem] def aIR (i:Nat) (r:Loop) (s:List (Nat×AV)) (n:Nat) (K:AV→aQ→Prop) (id:Nat) (st:St):@Zq i r s n ⟨K⟩ (.exit id) st=K (.v (.bool false)) ((yR [] ⟨n,[],st.T⟩).T.set i (some (.lp (left r (.exit id)) s))):=cH rfl rfl
@[go_sem] def aIS (i:Nat) (r:Loop) (s:List (Nat×AV)) (n:Nat) (K:AV→aQ→Prop) (st:St):@Zq i r s n ⟨K⟩ .ret st=K (.v (.bool false)) ((yR [] ⟨n,[],st.T⟩).T.set i (some (.lp (left r .ret) s))):=cH rfl rfl
def Zr (i:Nat) (r:Loop) (s:List (Nat×AV)) [c:KT]:Ex→St→Prop
 | .normal,st=>c.k (.v (.bool true)) (st.T.set i (some (.lp r s)))
 | .exit id,st=>c.k (.v (.bool false)) (st.T.set i (some (.lp (left r (.exit id)) s)))
 | .ret,st=>c.k (.v (.bool false)) (st.T.set i (some (.lp (left r .ret) s)))
@[go_sem] def aIT (i:Nat) (r:Loop) (s:List (Nat×AV)) (K:AV→aQ→Prop) (st:St):@Zr i r s ⟨K⟩ .normal st=K (.v (.bool true)) (st.T.set i (some (.lp r s))):=cH rfl rfl
@[go_sem] def aIU (i:Nat) (r:Loop) (s:List (Nat×AV)) (K:AV→aQ→Prop) (id:Nat) (st:St):@Zr i r s ⟨K⟩ (.exit id) st=K (.v (.bool false)) (st.T.set i (some (.lp (left r (.exit id)) s))):=cH rfl rfl
@[go_sem] def aIV (i:Nat) (r:Loop) (s:List (Nat×AV)) (K:AV→aQ→Prop) (st:St):@Zr i r s ⟨K⟩ .ret st=K (.v (.bool false)) (st.T.set i (some (.lp (left r .ret) s))):=cH rfl rfl
def aEr (r:Nat) (s:List (Nat×AV)) (n:Nat) (T:aQ) [q:QC]:Prop :=
 match cR T n with
 | some (.lp rec _)=>rec.state≠.busy∧(match rec.pending with
  | none=>q.q .normal ⟨r,s,T.set n none⟩
  | some (.exit id)=>q.q (.exit id) ⟨r,s,T.set n none⟩
  | some .ret=>q.q .ret ⟨r,s,T.set n none⟩
  | _=>False)
 | _=>False
def aFZ (P:Program) (G:Nat→Option (List AV)) (r:Loop) (ps:List Nat) (a b:HC):Prop :=
 ∀ (i:Nat) (s:List (Nat×AV)) (T:aQ) (args:List AV) (K:AV→aQ→Prop),cR T i=some (.lp r s)→args.length=ps.length →
  (@cX P G a ⟨T.length,vI s ps args,T.set i none⟩ ⟨@Fb ⟨λs1=>@cX P G b s1 ⟨@Zq i r s T.length ⟨K⟩⟩⟩ ⟨λ_ _=>False⟩⟩)→@Zn P G i args T ⟨K⟩
def aEs (P:Program) (G:Nat→Option (List AV)) (r:Loop) (ps:List Nat) (a b:HC):Prop :=
 ∀ (i:Nat) (s:List (Nat×AV)) (T:aQ) (args:List AV) (K:AV→aQ→Prop),cR T i=some (.lp r s)→args.length=ps.length →
  (@cX P G a ⟨T.length,vI s ps args,T.set i none⟩ ⟨@Fb ⟨λs1=>@cX P G b s1 ⟨@Zr i r s ⟨K⟩⟩⟩ ⟨λ_ _=>False⟩⟩)→@Zn P G i args T ⟨K⟩
def Im {g:Operand} {ps d:List Nat} {a b:HC} {Q:Ex→St→Prop} {f:FuncId} {caps:List AV} (hg:bX G st.s g=.cl f caps) (hb:Ok P f)
  (h:∀ r:Loop,r.state=.ready→r.pending=none→aFZ P G r ps a b→aEs P G r ps a b →
   @sB P G f (.yl st.T.length::caps) (st.T++[some (.lp r (E7 d st.s))]) ⟨λ_ T2=>@aEr st.r st.s st.T.length T2 ⟨Q⟩⟩):@cX P G (.rng g ps d a b) st ⟨Q⟩:=by
 show dS P G (.rng g ps d a b) Q st;simp only [dS];intro r h1 h2 h3 hy;rw [hg];refine ⟨hb,?_⟩;have key:∀ (R:Nat→Loop→List (Nat×AV)→Nat→(AV→aQ→Prop)→Ex→St→Prop),(∀ i s n K e st,R i r s n K e st→HW i r s n K e st) →
   ∀ (i:Nat) (s:List (Nat×AV)) (T:aQ) (args:List AV) (K:AV→aQ→Prop),cR T i=some (.lp r s)→args.length=ps.length →
  (@cX P G a ⟨T.length,vI s ps args,T.set i none⟩ ⟨@Fb ⟨λs1=>@cX P G b s1 ⟨R i r s T.length K⟩⟩ ⟨λ_ _=>False⟩⟩)→@Zn P G i args T ⟨K⟩:=by
  intro R hR i s T args K hi hl hc
  refine hy i s T args K hi hl (kB (λe s1 hq=>?_) hc)
  cases e with
  | normal=>exact kB (λe s2 h2=>hR _ _ _ _ _ _ h2) hq
  | exit i=>exact hq
  | ret=>exact hq
 refine h r h1 h2 (key (λi r s n K=>@Zq i r s n ⟨K⟩) λi s n K e st hq=>?_) (key (λi r s n K=>@Zr i r s ⟨K⟩) λi s n K e st hq=>?_)
 ·cases e<;>exact ⟨true,hq⟩
 ·cases e<;>exact ⟨false,hq⟩
def eF {c:HC} {id:Nat} {K:St→Prop} {Q:Ex→St→Prop} (R:St→Prop) (h:@cX P G c st ⟨@Fc id ⟨@Fb ⟨R⟩ ⟨Q⟩⟩⟩) (hr:∀ s,R s→K s):@cX P G c st ⟨@Fc id ⟨@Fb ⟨K⟩ ⟨Q⟩⟩⟩:=by
 refine qS (λe s hq=>?_) h
 cases e with
 | normal=>exact hr s hq
 | exit i =>
  simp only [Fc] at hq ⊢;split
  ·rename_i e;rw [if_pos e] at hq;exact hr s hq
  ·rename_i e;rw [if_neg e] at hq;exact hq
 | ret=>exact hq
def eZ {c:HC} {K:St→Prop} {Q:Ex→St→Prop} (R:St→Prop) (h:@cX P G c st ⟨@Fb ⟨R⟩ ⟨Q⟩⟩) (hr:∀ s,R s→K s):@cX P G c st ⟨@Fb ⟨K⟩ ⟨Q⟩⟩:=by
 refine qS (λe s hq=>?_) h
 cases e with
 | normal=>exact hr s hq
 | exit i=>exact hq
 | ret=>exact hq
def aC8 {d:List Nat} {a:HC} {Q:Ex→St→Prop} (N:Nat) (S:Nat→St) (J:Nat→Prop) (h0:yR d st=S N) (j0:J N) (hr:∀ k,k<N→J (k+1)→@cX P G a (S (k+1)) ⟨@Cz d ⟨λs'=>s'=S k∧J k⟩ ⟨Q⟩⟩)
  (hl:J 0→@cX P G a (S 0) ⟨@Cz d ⟨λ_=>False⟩ ⟨Q⟩⟩):@cX P G (.loop d a) st ⟨Q⟩:=by
 refine bU (λn s=>n≤N∧s=S n∧J n) N ⟨fW _,h0,j0⟩ ?_;rintro n s ⟨hn,rfl,hj⟩
 cases n with
 | zero=>exact qS (Bi λs h=>h.elim) (hl hj)
 | succ n=>exact qS (Bi λs ⟨h1,h2⟩=>⟨n,by omega,by omega,h1,h2⟩) (hr n (by omega) hj)
end
attribute [go_sem] E6 rY Oj pO iA Mv E7 vI aEr aE4 YX bkF bkS Mw Qy left bK bX aU dT Cm GL kK nP cR dI Qx KY jU bB aZ pun eqC pZ eC Zl Zk Zm aEf FZ Zh Hj Oi WZ Ia tN Cn GN iB iI ZE aFG F9 Al Ef ZG ZF yR pP HU
 Ka Kb Am shutI HK Ib slO QT Ss tO Co eY qA tQ Ae D3 HL Ic bk KZ BY nN ZD HT rX mT
attribute [go_sem] ne_eq not_false_eq_true not_true_eq_false KQ Option.bind_none if_true if_false jZ true_and and_true KH I8 kS kI cN eQ NW U2 mL Qq List.take_nil List.drop_nil
 Ag FQ kT List.all_cons VM uO GC nH nW Yx Yy Yz List.contains_nil Ee kZ VF
 KK Y0 decide_true decide_false Bool.not_eq_true
@[go_sem] def aHI:List.range 0=[]:=cH rfl rfl
@[go_sem] def aHJ:List.range 1=[0]:=cH rfl rfl
@[go_sem] def aHK:List.range 2=[0,1]:=cH rfl rfl
@[go_sem] def aHL:List.range 3=[0,1,2]:=cH rfl rfl
@[go_sem] def aHM:List.range 4=[0,1,2,3]:=cH rfl rfl
@[go_sem] def aHN:List.range 5=[0,1,2,3,4]:=cH rfl rfl
@[go_sem] def aHO:List.range 6=[0,1,2,3,4,5]:=cH rfl rfl
@[go_sem] def aHP:List.range 7=[0,1,2,3,4,5,6]:=cH rfl rfl
@[go_sem] def aHQ:List.range 8=[0,1,2,3,4,5,6,7]:=cH rfl rfl
@[go_sem] def aHR:List.range 9=[0,1,2,3,4,5,6,7,8]:=cH rfl rfl
@[go_sem] def aG0:List.range 10=[0,1,2,3,4,5,6,7,8,9]:=cH rfl rfl
@[go_sem] def aG1:List.range 11=[0,1,2,3,4,5,6,7,8,9,10]:=cH rfl rfl
@[go_sem] def aG2:List.range 12=[0,1,2,3,4,5,6,7,8,9,10,11]:=cH rfl rfl
@[go_sem] def aG3:List.range 13=[0,1,2,3,4,5,6,7,8,9,10,11,12]:=cH rfl rfl
@[go_sem] def aG4:List.range 14=[0,1,2,3,4,5,6,7,8,9,10,11,12,13]:=cH rfl rfl
@[go_sem] def aG5:List.range 15=[0,1,2,3,4,5,6,7,8,9,10,11,12,13,14]:=cH rfl rfl
@[go_sem] def aG6:List.range 16=[0,1,2,3,4,5,6,7,8,9,10,11,12,13,14,15]:=cH rfl rfl
@[go_sem] def aJD (b:Bool):(b==true)=b:=by cases b<;>rfl
@[go_sem] def aJE (b:Bool):(b==false)=!b:=by cases b<;>rfl
attribute [go_sem] Bool.not_not bne_self_eq_false beq_self_eq_true
attribute [go_sem] VN aL dU hZ tT rW yN E4 fW xC NY mA gQ
attribute [go_sem] Ys Yu List.getD_nil
attribute [go_sem] KU KV E5 Ci List.idxOf?_cons List.idxOf?_nil List.findIdx?_cons List.findIdx?_nil List.filter_cons List.filter_nil
@[go_sem] def aIW:((0:Nat):Int)=0:=cH rfl rfl
@[go_sem] def Zs:((1:Nat):Int)=1:=cH rfl rfl
@[go_sem] def aIX:((2:Nat):Int)=2:=cH rfl rfl
@[go_sem] def aIY:((3:Nat):Int)=3:=cH rfl rfl
@[go_sem] def aIZ:((4:Nat):Int)=4:=cH rfl rfl
@[go_sem] def aJ0:((5:Nat):Int)=5:=cH rfl rfl
@[go_sem] def aJ1:((6:Nat):Int)=6:=cH rfl rfl
@[go_sem] def aJ2:((7:Nat):Int)=7:=cH rfl rfl
@[go_sem] def aJ3:((8:Nat):Int)=8:=cH rfl rfl
@[go_sem] def aJ4:((9:Nat):Int)=9:=cH rfl rfl
@[go_sem] def aHS:((10:Nat):Int)=10:=cH rfl rfl
@[go_sem] def aHT:((11:Nat):Int)=11:=cH rfl rfl
@[go_sem] def aHU:((12:Nat):Int)=12:=cH rfl rfl
@[go_sem] def aHV:((13:Nat):Int)=13:=cH rfl rfl
@[go_sem] def aHW:((14:Nat):Int)=14:=cH rfl rfl
@[go_sem] def aHX:((15:Nat):Int)=15:=cH rfl rfl
@[go_sem] def aHY:((16:Nat):Int)=16:=cH rfl rfl
@[go_sem] def aHZ:((17:Nat):Int)=17:=cH rfl rfl
@[go_sem] def aI0:((18:Nat):Int)=18:=cH rfl rfl
@[go_sem] def aI1:((19:Nat):Int)=19:=cH rfl rfl
@[go_sem] def aI2:((20:Nat):Int)=20:=cH rfl rfl
@[go_sem] def aI3:((21:Nat):Int)=21:=cH rfl rfl
@[go_sem] def aI4:((22:Nat):Int)=22:=cH rfl rfl
@[go_sem] def aI5:((23:Nat):Int)=23:=cH rfl rfl
@[go_sem] def aI6:((24:Nat):Int)=24:=cH rfl rfl
@[go_sem] def aI7:((25:Nat):Int)=25:=cH rfl rfl
@[go_sem] def aI8:((26:Nat):Int)=26:=cH rfl rfl
@[go_sem] def aI9:((27:Nat):Int)=27:=cH rfl rfl
@[go_sem] def aIa:((28:Nat):Int)=28:=cH rfl rfl
@[go_sem] def aIb:((29:Nat):Int)=29:=cH rfl rfl
@[go_sem] def aIc:((30:Nat):Int)=30:=cH rfl rfl
@[go_sem] def aId:((31:Nat):Int)=31:=cH rfl rfl
@[go_sem] def aIe:((32:Nat):Int)=32:=cH rfl rfl
@[go_sem] def aG7 (t a:Bool):(if t=true then AV.v (.bool a) else AV.v (.bool false))=AV.v (.bool (t&&a)):=by cases t<;>rfl
@[go_sem] def aIf (t b:Bool):(if t=true then AV.v (.bool true) else AV.v (.bool b))=AV.v (.bool (t||b)):=by cases t<;>rfl
attribute [go_sem] uO jG nG Ch
attribute [go_sem] reduceCtorEq Nat.reduceEqDiff Nat.reduceBEq Nat.reduceAdd Nat.reduceSub Nat.reduceMul Nat.reduceLT Nat.reduceLeDiff Int.reduceEq Int.reduceLT Int.reduceLE Int.reduceToNat Int.reduceNeg Int.reduceBEq Int.reduceMul Int.reduceAdd Int.reduceSub
attribute [go_sem ↓] reduceIte
end
section
def aJ {n:Int} (h1:-9223372036854775808≤n) (h2:n≤9223372036854775807):IntKind.i64.wrap n=n:=by
 simp [IntKind.wrap,IntKind.bits,IntKind.signed];omega
def Gk {n:Nat} (h:n≤9223372036854775807):IntKind.i64.wrap (n:Int)=n:=aJ (by omega) (by omega)
def aG {n:Nat} (h:n<9223372036854775807):IntKind.i64.wrap ((n:Int)+1)=((n+1:Nat):Int):=by rw [aJ (by omega) (by omega)];rfl
def Aw {n:Nat} (h:n<9223372036854775807):IntKind.i64.wrap (((n+1:Nat):Int)-1)=n:=by rw [aJ (by omega) (by omega)];omega
@[go_sem] def aIg (n:Nat):decide (((n+1:Nat):Int)>0)=true:=decide_eq_true (by omega)
@[go_sem] def aJx:decide ((0:Int)>0)=false:=cH rfl rfl
@[go_sem] def aG8:decide (((0:Nat):Int)>0)=false:=cH rfl rfl
@[go_sem] def aBT {α β:Type} (f:α→β) (l:List α) (p:Nat):((l.map f).drop p).take (l.length-p)=(l.map f).drop p:=pY (by simp)
@[go_sem] def Zt {α:Type} (l:List α) (p:Nat):(l.drop p).take (l.length-p)=l.drop p:=pY (by simp)
@[go_sem] def aC9 {α β:Type} (f:α→β) (l:List α):(l.map f).take l.length=l.map f:=pY (by simp)
def aT {a b:Nat} (h:a<b):decide ((a:Int)<(b:Int))=true:=by simpa using h
def aX {a b:Nat} (h:¬a<b):decide ((a:Int)<(b:Int))=false:=by simpa using h
def aEt {a b:Nat} (h:((a:Int)!=(b:Int))=true):a≠b:=by simp at h;omega
def aEu {a b:Nat} (h:((a:Int)!=(b:Int))=false):a=b:=by simp at h;omega
def aP {α β:Type} (f:α→β) (l:List α) (i:Nat) (h:i<l.length):(l.map f)[i]?=some (f l[i]):=by simp [h]
mutual
def aG9 {L:List Nat}:∀ {x:AV},iB x=[]→F9 L x=x
 | .own _,h=>by simp [iB] at h
 | .ptr _ _,h=>by simp [iB] at h
 | .elt _ _ _ _,h=>by simp [iB] at h
 | .vw _ _ _ _,h=>by simp [iB] at h
 | .mp _,h=>by simp [iB] at h
 | .yl _,h=>by simp [iB] at h
 | .ag cs,h=>by simp only [iB] at h;simp only [F9];rw [AL h]
 | .cl f cs,h=>by simp only [iB] at h;simp only [F9];rw [AL h]
 | .bm f kk cs,h=>by simp only [iB] at h;simp only [F9];rw [AL h]
 | .tup cs,h=>by simp only [iB] at h;simp only [F9];rw [AL h]
 | .v _,_=>rfl
 | .ls _ _,_=>rfl
 | .rp _,_=>rfl
 | .any,_=>rfl
def AL {L:List Nat}:∀ {x:List AV},iI x=[]→Al L x=x
 | [],_=>rfl
 | c::cs,h=>by simp only [iI,Ux] at h;simp only [Al];rw [aG9 h.1,AL h.2]
end
mutual
def Zu {L:List Nat} {n:Nat}:∀ {x:AV},iB x=[]→Ae L n x=x
 | .own _,h=>by simp [iB] at h
 | .ptr _ _,h=>by simp [iB] at h
 | .elt _ _ _ _,h=>by simp [iB] at h
 | .vw _ _ _ _,h=>by simp [iB] at h
 | .mp _,h=>by simp [iB] at h
 | .yl _,h=>by simp [iB] at h
 | .ag cs,h=>by simp only [iB] at h;simp only [Ae];rw [Hm h]
 | .cl f cs,h=>by simp only [iB] at h;simp only [Ae];rw [Hm h]
 | .bm f kk cs,h=>by simp only [iB] at h;simp only [Ae];rw [Hm h]
 | .tup cs,h=>by simp only [iB] at h;simp only [Ae];rw [Hm h]
 | .v _,_=>rfl
 | .ls _ _,_=>rfl
 | .rp _,_=>rfl
 | .any,_=>rfl
def Hm {L:List Nat} {n:Nat}:∀ {x:List AV},iI x=[]→D3 L n x=x
 | [],_=>rfl
 | c::cs,h=>by simp only [iI,Ux] at h;simp only [D3];rw [Zu h.1,Hm h.2]
end
mutual
def XI:∀ x:AV,qQ x x
 | .ag cs=>by simp only [qQ];exact .inl trivial
 | .v _=>by simp only [qQ];exact .inl trivial
 | .own _=>by simp only [qQ]
 | .ptr _ _=>by simp only [qQ]
 | .elt _ _ _ _=>by simp only [qQ]
 | .vw _ _ _ _=>by simp only [qQ]
 | .mp _=>by simp only [qQ]
 | .yl _=>by simp only [qQ]
 | .cl _ _=>by simp only [qQ]
 | .bm _ _ _=>by simp only [qQ]
 | .tup _=>by simp only [qQ]
 | .ls _ _=>by simp only [qQ]
 | .rp _=>by simp only [qQ]
 | .any=>by simp only [qQ]
def aA:∀ x:List AV,CX x x
 | []=>by simp only [CX]
 | c::cs=>by simp only [CX];exact ⟨c,cs,rfl,XI c,aA cs⟩
end
section
variable {P:Program} {G:Nat→Option (List AV)} {f:FuncId} {args args':List AV} {T:aQ} {K:AV→aQ→Prop}
def lM (hs:CX args args') (hi:iI args'=[]) {post:AV→aQ→Prop} (hc:aC P G f args' [] post) (hk:∀ r T',post r T'→K (Ae [] T.length r) (T++T'.map (HL [] T.length))):@sB P G f args T ⟨K⟩:=by
 refine ⟨args',hs,.inl ⟨[],by simp,by simp,?_⟩⟩;show aC P G f (Al [] args') (Ef [] T) _;rw [AL hi];refine hc.mono λr T' hp=>?_;have:Ic [] T.length T [] T'=T++T'.map (HL [] T.length):=by cases T'<;>simp [Ic]
 rw [this];exact hk r T' hp
def aB {R:AV} (hs:CX args args') (hi:iI args'=[]) (hc:aC P G f args' [] λr T'=>r=R∧T'=[]) (hR:iB R=[]) (hk:K R T):@sB P G f args T ⟨K⟩ :=
 lM hs hi hc λr T' ⟨h1,h2⟩=>by subst h1;subst h2;rw [Zu hR];simpa using hk
def aS {R:AV} {T2:aQ} (hs:CX args args') (hi:iI args'=[]) (hc:aC P G f args' [] λr T'=>r=R∧T'=T2) (hk:K (Ae [] T.length R) (T++T2.map (HL [] T.length))):@sB P G f args T ⟨K⟩ :=
 lM hs hi hc λr T' ⟨h1,h2⟩=>by subst h1;subst h2;exact hk
def bS {args2:List AV} (hs:CX args args') (hl:Co T args'=args2) (hi:iI args2=[]) {post:AV→aQ→Prop} (hc:aC P G f args2 [] post)
  (hk:∀ r T',post r T'→eY r∧(∀ o∈T',tQ o)∧K (Ae [] T.length r) (T++T'.map (HL [] T.length))):@sB P G f args T ⟨K⟩ :=
 ⟨args',hs,.inr ⟨by rw [hl];exact hi,by rw [hl];exact hc.mono hk⟩⟩
def lN {args2:List AV} {x:Value} (hs:CX args args') (hl:Co T args'=args2) (hi:iI args2=[]) (hc:aC P G f args2 [] λr T'=>r=.v x∧T'=[]) (hk:K (.v x) T):@sB P G f args T ⟨K⟩ :=
 bS hs hl hi hc λr T' ⟨h1,h2⟩=>by subst h1;subst h2;exact ⟨by simp [eY],by simp,by simpa [Ae] using hk⟩
def aCa {L:List Nat} {args2:List AV} {T2:aQ} {post:AV→aQ→Prop} (hs:CX args args') (hL:(tN T (iI args')).filter (· < T.length)=L) (ha:Al L args'=args2) (hT:Ef L T=T2) (hc:aC P G f args2 T2 post)
  (hk:∀ r T',post r T'→K (Ae L T.length r) (Ic L T.length T L T')):@sB P G f args T ⟨K⟩ :=
 ⟨args',hs,.inl ⟨L,by subst hL;exact List.Pairwise.filter _ (Ih _ _),λi hi=>by subst hL;simpa using (Ai.1 hi).2,by subst ha;subst hT;exact hc.mono hk⟩⟩
def aI (L:List Nat) {args2:List AV} {T2:aQ} {post:AV→aQ→Prop} (hs:CX args args') (hn:L.Nodup) (hL:∀ i∈L,i<T.length) (ha:Al L args'=args2) (hT:Ef L T=T2) (hc:aC P G f args2 T2 post)
  (hk:∀ r T',post r T'→K (Ae L T.length r) (Ic L T.length T L T')):@sB P G f args T ⟨K⟩ :=
 ⟨args',hs,.inl ⟨L,hn,hL,by subst ha;subst hT;exact hc.mono hk⟩⟩
def yU (L:List Nat) {args2:List AV} {T2:aQ} (hs:CX args args') (hn:L.Nodup) (hL:∀ i∈L,i<T.length) (ha:Al L args'=args2) (hT:Ef L T=T2) (hc:aC P G f args2 T2 λr T'=>K (Ae L T.length r) (Ic L T.length T L T')):@sB P G f args T ⟨K⟩ :=
 ⟨args',hs,.inl ⟨L,hn,hL,by subst ha;subst hT;exact hc⟩⟩
end
def dB {P:Program} {G:Nat→Option (List AV)} {f:FuncId} {args:List AV} {T:aQ} {K:KT} (h:@sB P G f args T K):@sB P G f args T K:=h
def LF {α:Type} {f:α→AV} {l:List α} (h:∀ x,iB (f x)=[]):iI (l.map f)=[]:=by
 induction l with
 | nil=>rfl
 | cons x l ih=>simp [iI,h,ih]
@[go_sem] def Gl (a b:List AV):iI (a++b)=iI a++iI b:=by
 induction a with
 | nil=>rfl
 | cons c a ih=>simp [iI,ih]
@[go_sem] def Ny {α:Type} (f:α→Value) (l:List α):iI (l.map λx=>.v (f x))=[]:=LF λ_=>rfl
@[go_sem] def aIh (L:List Nat) (a b:List AV):Al L (a++b)=Al L a++Al L b:=by
 induction a with
 | nil=>rfl
 | cons c a ih=>simp [Al,ih]
@[go_sem] def aGa {α:Type} (L:List Nat) (f:α→Value) (l:List α):Al L (l.map λx=>.v (f x))=l.map λx=>.v (f x):=AL (LF λ_=>rfl)
@[go_sem] def aIi (L:List Nat) (n:Nat) (a b:List AV):D3 L n (a++b)=D3 L n a++D3 L n b:=by
 induction a with
 | nil=>rfl
 | cons c a ih=>simp [D3,ih]
@[go_sem] def aGb {α:Type} (L:List Nat) (n:Nat) (f:α→Value) (l:List α):D3 L n (l.map λx=>.v (f x))=l.map λx=>.v (f x):=Hm (LF λ_=>rfl)
@[go_sem] def aEv {α:Type} (f:α→Value) (l:List α):qA (l.map λx=>.v (f x))=True:=by
 induction l with
 | nil=>rfl
 | cons c a ih=>simp [qA,eY,ih]
end
section
@[go_sem] def aGc (n:Nat) (I:List Nat) (q:AV→aQ→Prop) (r:AV) (T':aQ):Prop :=
 q (aU (yR [] (Am ⟨n,[(0,r)],T'⟩ I)).s 0) (yR [] (Am ⟨n,[(0,r)],T'⟩ I)).T
section
variable {P:Program} {G:Nat→Option (List AV)} {f:FuncId} {args:List AV} {T:aQ} {p q:AV→aQ→Prop}
def Ce.fin (P:Program) {h:GH} {φ:Nat→Value} {w:World} {v:Value} {w':World} (hG:rD G h) (I:List Nat) (hk:∀ r T',p r T'→aGc T.length I q r T') (a:Ce h φ T w p v w'):Ce h φ T w q v w':=by
 obtain ⟨r,T',h',φ',e1,e2,e3,e4⟩:=a;have hS:SInv P G 0 h φ T w ⟨T.length,[(0,r)],T'⟩ ⟨#[v],[]⟩ w':=by
  refine ⟨rfl,?_,⟨h',φ',hG.mono e2.le,e2,e3,λi=>?_⟩,by simp,by simp [Ei]⟩
  ·intro i x y hx hy;simp only [gZ,Prod.mk.injEq] at hx hy;rw [hx.2,hy.2]
  ·simp only [aU];split
   ·rename_i hi;subst hi;exact e4
   ·simp [Rp]
 have hN:∀ (l:List Nat) (st:St),SInv P G 0 h φ T w st ⟨#[v],[]⟩ w'→SInv P G 0 h φ T w (Am st l) ⟨#[v],[]⟩ w':=by
  intro l
  induction l with
  | nil=>intro st h;exact h
  | cons i r ih=>intro st h;exact ih _ (h.shutI i)
 have hS2:=Cw [] (hN I _ hS);obtain ⟨_,_,⟨h2,φ2,g1,g2,g3,g4⟩,_,_⟩:=hS2;exact ⟨_,_,h2,φ2,hk r T' e1,g2,g3,g4 0⟩
def aC.fin (hc:aC P G f args T p) (I:List Nat) (hk:∀ r T',p r T'→aGc T.length I q r T'):aC P G f args T q:=by
 intro h φ w vals hG hI hA;rcases hc h φ w vals hG hI hA with ⟨a,b⟩ | ⟨v,w',a,b⟩
 ·exact .inl ⟨a,b.mono λe w' ⟨v,e1,e2⟩=>⟨v,e1,e2.fin P hG I hk⟩⟩
 ·exact .inr ⟨v,w',a,b.fin P hG I hk⟩
end
end
section
structure Id where
 a:Int
 b:Int
 c:Int
 deriving DecidableEq,Inhabited
def Id.A (x:Id):List AV:=[.v (.int .i64 x.a),.v (.int .i64 x.b),.v (.int .u64 x.c)]
def Id.A_def (x:Id):x.A=[.v (.int .i64 x.a),.v (.int .i64 x.b),.v (.int .u64 x.c)]:=cH rfl rfl
def Id.lt (x y:Id):Bool:=if x.a=y.a then (if x.b=y.b then decide (x.c<y.c) else decide (x.b<y.b)) else decide (x.a<y.a)
@[go_sem] def Id.beq (x y:Id):(x.a==y.a&&(x.b==y.b&&x.c==y.c))=decide (x=y):=by
 obtain ⟨xa,xb,xc⟩:=x;obtain ⟨ya,yb,yc⟩:=y;rw [oU];simp
def Id.lt_irrefl (x:Id):x.lt x=false:=by simp [Id.lt]
def Id.lt_trans {x y z:Id} (h1:x.lt y=true) (h2:y.lt z=true):x.lt z=true:=by
 unfold Id.lt at *
 (repeat' split at h1)<;>(repeat' split at h2)<;>(repeat' split)<;>simp_all<;>omega
def Id.lt_total {x y:Id} (h1:x.lt y=false) (h2:y.lt x=false):x=y:=by
 obtain ⟨xa,xb,xc⟩:=x;obtain ⟨ya,yb,yc⟩:=y;unfold Id.lt at *
 (repeat' split at h1)<;>(repeat' split at h2)<;>simp_all<;>omega
def Id.lt_asymm {x y:Id} (h:x.lt y=true):y.lt x=false:=by
 cases e:y.lt x with
 | false=>rfl
 | true=>have:=Id.lt_trans h e;rw [Id.lt_irrefl] at this;simp at this
def Id.nlt_trans {x y z:Id} (h1:x.lt y=false) (h2:y.lt z=false):x.lt z=false:=by
 cases e:x.lt z with
 | false=>rfl
 | true =>
  cases e2:y.lt x with
  | true=>have:=Id.lt_trans e2 e;rw [h2] at this;simp at this
  | false=>have:=Id.lt_total h1 e2;subst this;rw [h2] at e;simp at e
abbrev ids (l:List Id):AV:=.ls 3 (l.map Id.A)
abbrev ul (l:List Nat):List (List AV):=l.map λn=>[.v (.int .u64 ((n:Nat):Int))]
def wC (b:List Nat):Prop:=∀ x∈b,x<256
abbrev U8 (x:Nat):List AV:=[.v (.int .u8 ((x:Nat):Int))]
abbrev bl (b:List Nat):List (List AV):=b.map U8
def Gm {b:List Nat} (h:wC b) (k:Nat):wC (b.drop k):=λx hx=>h x (IS hx)
def sC {b:List Nat} (h:wC b) (k:Nat):wC (b.take k):=λx hx=>h x (CS hx)
def jI {a b:List Nat} (h:wC a) (k:wC b):wC (a++b):=λx hx=>(eO.1 hx).elim (h x) (k x)
end
end Hud
