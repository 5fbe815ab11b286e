import Derived.Test.YtdichbeaekjibaaGreatDoorLib05
import Derived.Attr
import Derived.Test.YtdichbeaekjibaaGreatDoorProg
set_option linter.all false
namespace Hud
open Go
section
def bs (l:List UInt8):ByteArray:=⟨l.toArray⟩
class KC (α:Type) where
 k:α→Prop
class PC where
 p:Prop
class KT where
 k:AV→aH→Prop
class QC where
 q:Ex→St→Prop
def wN {α:Type} (o:Option α) [c:KC α]:Prop:=match o with | some x=>c.k x | none=>False
def Fy (t:Bool) [A:PC] [B:PC]:Prop:=match t with | true=>A.p | false=>B.p
def YQ (v:AV) [c:KC Bool]:Prop:=match v with | .v (.bool t)=>c.k t | _=>False
@[go_sem] def aCy {α:Type} (x:α) (K:α→Prop):@wN α (some x) ⟨K⟩=K x:=bJ rfl rfl
@[go_sem] def aFJ (A B:Prop):@Fy true ⟨A⟩ ⟨B⟩=A:=bJ rfl rfl
@[go_sem] def aFK (A B:Prop):@Fy false ⟨A⟩ ⟨B⟩=B:=bJ rfl rfl
@[go_sem] def aFL (t:Bool) (K:Bool→Prop):@YQ (.v (.bool t)) ⟨K⟩=K t:=bJ rfl rfl
def aK {t:Bool} {A B:Prop} (ha:t=true→A) (hb:t=false→B):@Fy t ⟨A⟩ ⟨B⟩:=by cases t;exact hb rfl;exact ha rfl
def G4 {P:Program} {G:Nat→Option (List AV)} {K K':St→Prop} (h:∀ s,K s→K' s):∀ {os:List HOper} {st:St},Gq P G os st K→Gq P G os st K'
 | [],st,hw=>h st hw
 | o::os,st,hw=>by
  simp only [Gq] at hw ⊢;split<;>rename_i e<;>simp only [e] at hw
  ·exact AR (λ_ _ hk=>G4 h hk) hw
  ·exact G4 h hw
def Er {P:Program} {G:Nat→Option (List AV)} {K K':St→Prop} {chk:List HOper} (h:∀ s,K s→K' s):∀ {n:Nat} {os:List HOper} {st:St},Fe P G chk n os st K→Fe P G chk n os st K'
 | 0,_,_,hw=>h _ hw
 | n+1,os,st,hw=>λi o ho=>by
  have hw:=hw i o ho;split<;>rename_i e<;>simp only [e] at hw
  ·exact AR (λ_ _ hk=>⟨hk.1,Er h hk.2⟩) hw
  ·exact ⟨hw.1,Er h hw.2⟩
def wO {P:Program} {G:Nat→Option (List AV)} {K K':St→Prop} {p:Plan} (h:∀ s,K s→K' s):∀ {n:Nat} {gc:Bool} {E:List Nat} {st:St},sB P G p n gc E st K→sB P G p n gc E st K'
 | 0,_,_,_,hw=>hw
 | n+1,gc,E,st,hw=>by
  simp only [sB] at hw ⊢;split<;>rename_i e<;>simp only [e] at hw
  ·split<;>rename_i e2<;>simp only [e2] at hw;split<;>rename_i e3<;>simp only [e3] at hw
   ·split<;>rename_i e4<;>simp only [e4] at hw;exact wO h hw
   ·exact wO h hw
  ·split<;>rename_i e2<;>simp only [e2] at hw
   ·exact h _ hw
   ·intro i hi;obtain ⟨o,h1,h2⟩:=hw i hi;refine ⟨o,h1,?_⟩;split<;>rename_i e3<;>simp only [e3] at h2
    ·exact AR (λ_ _ hk=>⟨hk.1,wO h hk.2⟩) h2
    ·exact ⟨h2.1,wO h h2.2⟩
def wP {P:Program} {G:Nat→Option (List AV)} {K K':St→Prop} (h:∀ s,K s→K' s):∀ {d:HD} {st:St},DT P G d st K→DT P G d st K'
 | .done b,st,hw=>h _ hw
 | .no,st,hw=>trivial
 | .q o n,st,hw=>by
  simp only [DT] at hw ⊢;split<;>rename_i e<;>simp only [e] at hw
  ·split<;>rename_i e'<;>simp only [e'] at hw;exact wP h hw
  ·exact wP h hw
 | .alt o c n m,st,hw=>by
  simp only [DT] at hw ⊢;refine ⟨?_,wP h hw.2⟩;have hw:=hw.1;split<;>rename_i e<;>simp only [e] at hw
  ·exact AR (λ_ _ hk=>⟨hk.1,wP h hk.2⟩) hw
  ·exact ⟨hw.1,wP h hw.2⟩
 | .perm c o n,st,hw=>by
  simp only [DT] at hw ⊢;exact Er (λs hs=>wP h hs) hw
 | .plan hs pr n gc E,st,hw=>by
  simp only [DT] at hw ⊢;exact wO h hw
def fZ {P:Program} {G:Nat→Option (List AV)}:∀ {c:HC} {Q Q':Ex→St→Prop} {st:St},(∀ e s,Q e s→Q' e s)→dD P G c Q st→dD P G c Q' st
 | .skip,_,_,_,h,hw=>h _ _ hw
 | .reg l,_,_,_,h,hw=>G4 (h _) hw
 | .regd d,_,_,_,h,hw=>wP (h _) hw
 | .seq a b,_,_,_,h,hw=>by
  simp only [dD] at hw ⊢;refine fZ (λe s hq=>?_) hw
  cases e with
  | normal=>exact fZ h hq
  | exit i=>exact h _ _ hq
  | ret=>exact h _ _ hq
 | .cond c a b,_,_,_,h,hw=>by
  simp only [dD] at hw ⊢;split<;>rename_i e<;>simp only [e] at hw;rename_i t;cases t
  ·exact fZ h hw
  ·exact fZ h hw
 | .block i a,_,_,_,h,hw=>by
  simp only [dD] at hw ⊢;refine fZ (λe s hq=>?_) hw
  cases e with
  | normal=>exact h _ _ hq
  | exit j=>by_cases hj:j=i<;>simp only [hj,if_true,if_false] at hq ⊢<;>exact h _ _ hq
  | ret=>exact h _ _ hq
 | .rng g ps d a b,Q,Q',st,h,hw=>by
  simp only [dD] at hw ⊢;intro r h1 h2 h3 hy;have hw:=hw r h1 h2 h3 hy;split<;>rename_i e<;>simp only [e] at hw;refine ⟨hw.1,Eo (λx T hk=>?_) hw.2⟩;simp only [Rw] at hk ⊢;split<;>rename_i e'<;>simp only [e'] at hk;refine ⟨hk.1,?_⟩;have hk:=hk.2;split<;>rename_i e''<;>simp only [e''] at hk<;>exact h _ _ hk
 | .loop d a,_,_,_,h,hw=>by
  obtain ⟨I,h0,hr⟩:=hw;refine ⟨I,h0,λn s hs=>fZ (λe s hq=>?_) (hr n s hs)⟩
  cases e with
  | normal=>exact hq
  | exit i=>exact h _ _ hq
  | ret=>exact h _ _ hq
 | .exit i,_,_,_,h,hw=>h _ _ hw
 | .ret,_,_,_,h,hw=>h _ _ hw
 | .kill d,_,_,_,h,hw=>h _ _ hw
 | .own j c k,_,_,_,h,hw=>h _ _ hw
 | .shut j,_,_,_,h,hw=>h _ _ hw
section
variable {P:Program} {G:Nat→Option (List AV)} {st:St}
def YR (rs:List (Nat×Option (Option Nat))) (post:AV→aH→Prop) (st:St):Prop :=
 match KH st rs with
 | some l =>
  let r:=Ep l
  let L:=sA st.T (List.range st.r++dZ r)
  post (AF L r) (CP L st.T)
 | none=>False
def YS (rs:List (Nat×Option (Option Nat))) (post:AV→aH→Prop):Ex→St→Prop
 | .normal,st=>YR rs post st
 | .ret,st=>YR rs post st
 | _,_=>False
def aCz (P:Program) (G:Nat→Option (List AV)) (hf:HFun) (args:List AV) (T:aH) (post:AV→aH→Prop):Prop :=
 dD P G hf.code (YS hf.res post) ⟨T.length,mM 0 args,T⟩
def aCA {P:Program} {G:Nat→Option (List AV)} {hf:HFun} {args:List AV} {T:aH} {post:AV→aH→Prop} (h:aCz P G hf args T post):aCx P G hf args T post:=by
 refine fZ (λe s hq=>?_) h;have key:YR hf.res post s→Ly hf.res post s:=by
  intro hr;unfold YR at hr;unfold Ly;split<;>rename_i e<;>simp only [e] at hr;exact .inl hr
 cases e with
 | normal=>exact key hq
 | ret=>exact key hq
 | exit i=>exact hq
def aD {P:Program} {G:Nat→Option (List AV)} {f:FuncId} {hf:HFun} {H:List (Nat×Option Nat×Nat)} (hc:mZ P f H=some hf) {args:List AV} {T:aH} {post:AV→aH→Prop} (hT:True) (hw:aCz P G hf args T post):aC P G f args T post:=OO hc hT (aCA hw)
def YT (rs:List (Nat×Option (Option Nat))) (post:AV→aH→Prop) (st:St):Prop :=
 match KH st rs with
 | some l=>post (Ep l) st.T
 | none=>False
def YU (rs:List (Nat×Option (Option Nat))) (post:AV→aH→Prop):Ex→St→Prop
 | .normal,st=>YT rs post st
 | .ret,st=>YT rs post st
 | _,_=>False
def aCB (P:Program) (G:Nat→Option (List AV)) (hf:HFun) (args:List AV) (T:aH) (post:AV→aH→Prop):Prop :=
 dD P G hf.code (YU hf.res post) ⟨T.length,mM 0 args,T⟩
def I5 {P:Program} {G:Nat→Option (List AV)} {f:FuncId} {hf:HFun} {H:List (Nat×Option Nat×Nat)} (hc:mZ P f H=some hf) {args:List AV} {T:aH} {post:AV→aH→Prop} (hw:aCB P G hf args T post):aC P G f args T post:=by
 refine OO hc trivial (fZ (λe s hq=>?_) hw);have key:YT hf.res post s→Ly hf.res post s:=by
  intro hr;unfold YT at hr;unfold Ly;split<;>rename_i e<;>simp only [e] at hr;exact .inr hr
 cases e with
 | normal=>exact key hq
 | ret=>exact key hq
 | exit i=>exact hq
def wC {P:Program} {f:FuncId} {hf:HFun} {H:List (Nat×Option Nat×Nat)} (hc:mZ P f H=some hf):N3 P f:=by
 unfold mZ at hc;split at hc
 ·simp at hc
 ·rename_i fn hfn;split at hc
  ·simp at hc
  ·rename_i hname;split at hc
   ·rename_i c rs hb hrs;exact ⟨fn,c,hfn,hb,by simpa using hname⟩
   ·simp at hc
def rA (P:Program) (G:Nat→Option (List AV)) (f:FuncId) (args:List AV) (T:aH) [c:KT]:Prop:=EI P G f args T c.k
def rZ (P:Program) (G:Nat→Option (List AV)) (st:St) (o:HOp) [c:KT]:Prop:=rV P G st o c.k
def QP (P:Program) (G:Nat→Option (List AV)) (os:List HOper) (st:St) [c:KC St]:Prop:=Gq P G os st c.k
def Lz (P:Program) (G:Nat→Option (List AV)) (d:HD) (st:St) [c:KC St]:Prop:=DT P G d st c.k
def dE (P:Program) (G:Nat→Option (List AV)) (c:HC) (st:St) [q:QC]:Prop:=dD P G c q.q st
@[go_sem] def I6 (hf:HFun) (args:List AV) (T:aH) (post:AV→aH→Prop):aCz P G hf args T post=@dE P G hf.code ⟨T.length,mM 0 args,T⟩ ⟨YS hf.res post⟩:=bJ rfl rfl
@[go_sem] def aFM (hf:HFun) (args:List AV) (T:aH) (post:AV→aH→Prop):aCB P G hf args T post=@dE P G hf.code ⟨T.length,mM 0 args,T⟩ ⟨YU hf.res post⟩:=bJ rfl rfl
@[go_sem] def aEh (K:St→Prop):@QP P G [] st ⟨K⟩=K st:=bJ rfl rfl
@[go_sem] def aDV (d:Option Nat) (o:HOp) (os:List HOper) (K:St→Prop):@QP P G (⟨d,o,none⟩::os) st ⟨K⟩=@rZ P G st o ⟨λx T=>@QP P G os ⟨st.r,dH st.s d x,T⟩ ⟨K⟩⟩:=bJ rfl rfl
@[go_sem] def aCC (d:Option Nat) (o:HOp) (j:Nat) (b:Bool) (os:List HOper) (K:St→Prop) :
  @QP P G (⟨d,o,some (j,b)⟩::os) st ⟨K⟩=@wN Bool (dM st.s (some (j,b))) ⟨λt=>@Fy t ⟨@rZ P G st o ⟨λx T=>@QP P G os ⟨st.r,dH st.s d x,T⟩ ⟨K⟩⟩⟩ ⟨@QP P G os ⟨st.r,dH st.s d (.v undef),st.T⟩ ⟨K⟩⟩⟩:=by
 simp only [QP,Gq];unfold wN
 cases dM st.s (some (j,b)) with
 | none=>rfl
 | some t=>cases t<;>rfl
def WI (P:Program) (G:Nat→Option (List AV)) (i:Nat) (args:List AV) (T:aH) [c:KT]:Prop:=Ap P G i args T c.k
def WJ (P:Program) (G:Nat→Option (List AV)) (f:AV) (args:List AV) (T:aH) [c:KT]:Prop:=match fnA f with
 | .cl g caps=>rA P G g (args++caps) T
 | .bm g k cs=>rA P G g (cs.take k++args++cs.drop k) T
 | .yl i=>WI P G i args T
 | _=>False
@[go_sem] def aFN (g:Nat) (caps args:List AV) (T:aH) (K:AV→aH→Prop):@WJ P G (.cl g caps) args T ⟨K⟩=@rA P G g (args++caps) T ⟨K⟩:=bJ rfl rfl
@[go_sem] def aFO (g k:Nat) (cs args:List AV) (T:aH) (K:AV→aH→Prop):@WJ P G (.bm g k cs) args T ⟨K⟩=@rA P G g (cs.take k++args++cs.drop k) T ⟨K⟩:=bJ rfl rfl
@[go_sem] def aFP (i:Nat) (args:List AV) (T:aH) (K:AV→aH→Prop):@WJ P G (.yl i) args T ⟨K⟩=@WI P G i args T ⟨K⟩:=bJ rfl rfl
@[go_sem] def aFQ (g:Nat) (args:List AV) (T:aH) (K:AV→aH→Prop):@WJ P G (.v (.func (.func g) #[] #[])) args T ⟨K⟩=@rA P G g (args++[]) T ⟨K⟩:=bJ rfl rfl
@[go_sem] def aEi (f:Operand) (as_:List Operand) (K:AV→aH→Prop):@rZ P G st (.call f as_) ⟨K⟩=@WJ P G (cQ G st.s f) (as_.map (cQ G st.s)) st.T ⟨K⟩:=by
 simp only [rZ,rV];unfold WJ;cases fnA (cQ G st.s f)<;>rfl
def aEj:HOp→Bool
 | .call _ _ | .nxt _ | .nilS _ _ _=>false
 | _=>true
def iV (P:Program) (G:Nat→Option (List AV)) (st:St) (o:HOp) [c:KT]:Prop:=@wN (AV×aH) (bO st.T (cQ G st.s) o) ⟨λp=>c.k p.1 p.2⟩
@[go_sem] def aFR (o:HOp) (K:AV→aH→Prop):@iV P G st o ⟨K⟩=@wN (AV×aH) (bO st.T (cQ G st.s) o) ⟨λp=>K p.1 p.2⟩:=bJ rfl rfl
def bH {o:HOp} {K:AV→aH→Prop} (h:aEj o=true):@rZ P G st o ⟨K⟩=@iV P G st o ⟨K⟩:=by
 cases o with
 | call f l=>cases h
 | nxt p=>cases h
 | nilS n k x=>cases h
 | _ =>
  simp only [rZ,rV];unfold iV wN
  cases bO st.T (cQ G st.s) _ with
  | none=>rfl
  | some p=>rfl
@[go_sem] def aFS {x} K:@rZ P G st (.mov x) ⟨K⟩=@iV P G st (.mov x) ⟨K⟩:=bH rfl
@[go_sem] def aEk {c a b} K:@rZ P G st (.pick c a b) ⟨K⟩=@iV P G st (.pick c a b) ⟨K⟩:=bH rfl
@[go_sem] def aFT {op x y} K:@rZ P G st (.bin op x y) ⟨K⟩=@iV P G st (.bin op x y) ⟨K⟩:=bH rfl
@[go_sem] def aFU {neg ks x y} K:@rZ P G st (.eqa neg ks x y) ⟨K⟩=@iV P G st (.eqa neg ks x y) ⟨K⟩:=bH rfl
@[go_sem] def aFV {neg x y} K:@rZ P G st (.eqb neg x y) ⟨K⟩=@iV P G st (.eqb neg x y) ⟨K⟩:=bH rfl
@[go_sem] def aHU {op x} K:@rZ P G st (.un op x) ⟨K⟩=@iV P G st (.un op x) ⟨K⟩:=bH rfl
@[go_sem] def aEl {k x} K:@rZ P G st (.conv k x) ⟨K⟩=@iV P G st (.conv k x) ⟨K⟩:=bH rfl
@[go_sem] def aFW {x} K:@rZ P G st (.box x) ⟨K⟩=@iV P G st (.box x) ⟨K⟩:=bH rfl
@[go_sem] def aDW {z} K:@rZ P G st (.alloc z) ⟨K⟩=@iV P G st (.alloc z) ⟨K⟩:=bH rfl
@[go_sem] def aFX {z parts} K:@rZ P G st (.bld z parts) ⟨K⟩=@iV P G st (.bld z parts) ⟨K⟩:=bH rfl
@[go_sem] def aFY {k z parts len} K:@rZ P G st (.bsl k z parts len) ⟨K⟩=@iV P G st (.bsl k z parts len) ⟨K⟩:=bH rfl
@[go_sem] def aHV {n p} K:@rZ P G st (.ld n p) ⟨K⟩=@iV P G st (.ld n p) ⟨K⟩:=bH rfl
@[go_sem] def aHW {n p x} K:@rZ P G st (.st n p x) ⟨K⟩=@iV P G st (.st n p x) ⟨K⟩:=bH rfl
@[go_sem] def aFZ {p off} K:@rZ P G st (.fad p off) ⟨K⟩=@iV P G st (.fad p off) ⟨K⟩:=bH rfl
@[go_sem] def aG0 {x off n} K:@rZ P G st (.fld x off n) ⟨K⟩=@iV P G st (.fld x off n) ⟨K⟩:=bH rfl
@[go_sem] def aG1 {x ix k} K:@rZ P G st (.iad x ix k) ⟨K⟩=@iV P G st (.iad x ix k) ⟨K⟩:=bH rfl
@[go_sem] def aEm {x ix len k} K:@rZ P G st (.iadA x ix len k) ⟨K⟩=@iV P G st (.iadA x ix len k) ⟨K⟩:=bH rfl
@[go_sem] def aG2 {x ix} K:@rZ P G st (.ixS x ix) ⟨K⟩=@iV P G st (.ixS x ix) ⟨K⟩:=bH rfl
@[go_sem] def aEn {x} K:@rZ P G st (.lenS x) ⟨K⟩=@iV P G st (.lenS x) ⟨K⟩:=bH rfl
@[go_sem] def aEo {x} K:@rZ P G st (.lenL x) ⟨K⟩=@iV P G st (.lenL x) ⟨K⟩:=bH rfl
@[go_sem] def aG3 {x y k bytes} K:@rZ P G st (.app x y k bytes) ⟨K⟩=@iV P G st (.app x y k bytes) ⟨K⟩:=bH rfl
@[go_sem] def aG4 {x i} K:@rZ P G st (.ext x i) ⟨K⟩=@iV P G st (.ext x i) ⟨K⟩:=bH rfl
@[go_sem] def aG5 {f caps} K:@rZ P G st (.clo f caps) ⟨K⟩=@iV P G st (.clo f caps) ⟨K⟩:=bH rfl
@[go_sem] def aEp {x} K:@rZ P G st (.nilc x) ⟨K⟩=@iV P G st (.nilc x) ⟨K⟩:=bH rfl
@[go_sem] def aG6 {x lo hi k} K:@rZ P G st (.slc x lo hi k) ⟨K⟩=@iV P G st (.slc x lo hi k) ⟨K⟩:=bH rfl
@[go_sem] def aEq {x lo hi} K:@rZ P G st (.slcS x lo hi) ⟨K⟩=@iV P G st (.slcS x lo hi) ⟨K⟩:=bH rfl
@[go_sem] def aEr {neg kd x} (K:AV→aH→Prop):@rZ P G st (.nilS neg kd x) ⟨K⟩=@Fy (N2 kd (cQ G st.s x)) ⟨K (.v (.bool true)) st.T∧K (.v (.bool false)) st.T⟩ ⟨@wN (AV×aH) (bO st.T (cQ G st.s) (.nilS neg kd x)) ⟨λp=>K p.1 p.2⟩⟩:=by
 simp only [rZ,rV];unfold Fy wN;split<;>rename_i h
 ·rw [h];rfl
 ·have h:N2 kd (cQ G st.s x)=false:=by simpa using h
  rw [h];simp only
  cases bO st.T (cQ G st.s) (.nilS neg kd x) with
  | none=>rfl
  | some p=>rfl
@[go_sem] def aHX {mx x y} K:@rZ P G st (.mm mx x y) ⟨K⟩=@iV P G st (.mm mx x y) ⟨K⟩:=bH rfl
@[go_sem] def aG7 {ag} K:@rZ P G st (.mkm ag) ⟨K⟩=@iV P G st (.mkm ag) ⟨K⟩:=bH rfl
@[go_sem] def aG8 {ag ls z m k ok} K:@rZ P G st (.lku ag ls z m k ok) ⟨K⟩=@iV P G st (.lku ag ls z m k ok) ⟨K⟩:=bH rfl
@[go_sem] def aG9 {ag ls m k x} K:@rZ P G st (.mup ag ls m k x) ⟨K⟩=@iV P G st (.mup ag ls m k x) ⟨K⟩:=bH rfl
@[go_sem] def aGa {ag ls z m k} K:@rZ P G st (.men ag ls z m k) ⟨K⟩=@iV P G st (.men ag ls z m k) ⟨K⟩:=bH rfl
@[go_sem] def aGb {m s x} K:@rZ P G st (.mst m s x) ⟨K⟩=@iV P G st (.mst m s x) ⟨K⟩:=bH rfl
@[go_sem] def aGc {ag ls m k} K:@rZ P G st (.del ag ls m k) ⟨K⟩=@iV P G st (.del ag ls m k) ⟨K⟩:=bH rfl
@[go_sem] def aEs {m} K:@rZ P G st (.lenM m) ⟨K⟩=@iV P G st (.lenM m) ⟨K⟩:=bH rfl
@[go_sem] def aGd {k z bytes x y} K:@rZ P G st (.mks k z bytes x y) ⟨K⟩=@iV P G st (.mks k z bytes x y) ⟨K⟩:=bH rfl
@[go_sem] def aGe {x} K:@rZ P G st (.s2b x) ⟨K⟩=@iV P G st (.s2b x) ⟨K⟩:=bH rfl
@[go_sem] def aGf {x} K:@rZ P G st (.b2s x) ⟨K⟩=@iV P G st (.b2s x) ⟨K⟩:=bH rfl
@[go_sem] def aGg {x} K:@rZ P G st (.b2b x) ⟨K⟩=@iV P G st (.b2b x) ⟨K⟩:=bH rfl
@[go_sem] def aGh {x y} K:@rZ P G st (.apS x y) ⟨K⟩=@iV P G st (.apS x y) ⟨K⟩:=bH rfl
@[go_sem] def aGi {f k cs} K:@rZ P G st (.bmo f k cs) ⟨K⟩=@iV P G st (.bmo f k cs) ⟨K⟩:=bH rfl
@[go_sem] def aEt {k z ps len} K:@rZ P G st (.bslS k z ps len) ⟨K⟩=@iV P G st (.bslS k z ps len) ⟨K⟩:=bH rfl
@[go_sem] def aGj (K:AV→aH→Prop):@rZ P G st .bad ⟨K⟩=False:=bJ rfl rfl
@[go_sem] def aGk {m} K:@rZ P G st (.rgm m) ⟨K⟩=@iV P G st (.rgm m) ⟨K⟩:=bH rfl
@[go_sem] def aGl {m} K:@rZ P G st (.ent m) ⟨K⟩=@iV P G st (.ent m) ⟨K⟩:=bH rfl
@[go_sem] def aGm {x k z} K:@rZ P G st (.clr x k z) ⟨K⟩=@iV P G st (.clr x k z) ⟨K⟩:=bH rfl
def aCD (T:aH) (x:AV) [c:KT]:Prop:=match x with
 | .ptr i 0=>match bZ T i with
  | some (.mit none _ _ _)=>c.k (.v (.tuple #[.bool false])) T
  | some (.mit (some j) since seen la)=>match bZ T j with
   | some (.map ag ks vs bs cl)=>since≤la∧(∀ b∈bs,b<since)∧((∀ b∈bs,b∈seen)→c.k (.v (.tuple #[.bool false])) T) ∧
     ∀ (e:Nat) (k:List Value) (v:AV) (b:Nat),ks[e]?=some k→vs[e]?=some v→bs[e]?=some b→b∉seen →
      c.k (.tup [.v (.bool true),.v (gY ag k),v]) (T.set i (some (.mit (some j) since (seen++[b]) cl)))
   | _=>False
  | _=>False
 | _=>False
@[go_sem] def aGn {p} (K:AV→aH→Prop):@rZ P G st (.nxt p) ⟨K⟩=@aCD st.T (cQ G st.s p) ⟨K⟩:=bJ rfl rfl
@[go_sem] def aGo {x lo hi mx k} K:@rZ P G st (.slx x lo hi mx k) ⟨K⟩=@iV P G st (.slx x lo hi mx k) ⟨K⟩:=bH rfl
@[go_sem] def aEu (b:Bool) (K:St→Prop):@Lz P G (.done b) st ⟨K⟩=K (if b then Aq [] st else st):=bJ rfl rfl
@[go_sem] def aHY (K:St→Prop):@Lz P G .no st ⟨K⟩=True:=bJ rfl rfl
@[go_sem] def aIS (d:Option Nat) (o:HOp) (n:HD) (K:St→Prop):@Lz P G (.q ⟨d,o,none⟩ n) st ⟨K⟩=@wN (AV×aH) (bO st.T (cQ G st.s) o) ⟨λp=>@Lz P G n ⟨st.r,dH st.s d p.1,st.T⟩ ⟨K⟩⟩:=by
 simp only [Lz,DT,dM];unfold wN
 cases bO st.T (cQ G st.s) o with
 | none=>rfl
 | some p=>rfl
@[go_sem] def aHZ (d:Option Nat) (o:HOp) (j:Nat) (b:Bool) (n:HD) (K:St→Prop) :
  @Lz P G (.q ⟨d,o,some (j,b)⟩ n) st ⟨K⟩=@wN Bool (dM st.s (some (j,b))) ⟨λt=>@Fy t ⟨@wN (AV×aH) (bO st.T (cQ G st.s) o) ⟨λp=>@Lz P G n ⟨st.r,dH st.s d p.1,st.T⟩ ⟨K⟩⟩⟩ ⟨@Lz P G n ⟨st.r,dH st.s d (.v undef),st.T⟩ ⟨K⟩⟩⟩:=by
 simp only [Lz,DT];unfold wN
 cases dM st.s (some (j,b)) with
 | none=>rfl
 | some t =>
  cases t
  ·rfl
  ·cases bO st.T (cQ G st.s) o with
   | none=>rfl
   | some p=>rfl
@[go_sem] def aGp (d:Option Nat) (o:HOp) (chk:List HOper) (n m:HD) (K:St→Prop) :
  @Lz P G (.alt ⟨d,o,none⟩ chk n m) st ⟨K⟩=((@rZ P G st o ⟨λx T=>lT G ⟨st.r,dH st.s d x,T⟩ chk∧@Lz P G n ⟨st.r,dH st.s d x,T⟩ ⟨K⟩⟩)∧@Lz P G m st ⟨K⟩):=bJ rfl rfl
@[go_sem] def aEv (d:Option Nat) (o:HOp) (j:Nat) (b:Bool) (chk:List HOper) (n m:HD) (K:St→Prop) :
  @Lz P G (.alt ⟨d,o,some (j,b)⟩ chk n m) st ⟨K⟩=((@wN Bool (dM st.s (some (j,b))) ⟨λt=>@Fy t ⟨@rZ P G st o ⟨λx T=>lT G ⟨st.r,dH st.s d x,T⟩ chk∧@Lz P G n ⟨st.r,dH st.s d x,T⟩ ⟨K⟩⟩⟩
   ⟨lT G ⟨st.r,dH st.s d (.v undef),st.T⟩ chk∧@Lz P G n ⟨st.r,dH st.s d (.v undef),st.T⟩ ⟨K⟩⟩⟩)∧@Lz P G m st ⟨K⟩):=by
 simp only [Lz,DT];unfold wN
 cases dM st.s (some (j,b)) with
 | none=>rfl
 | some t=>cases t<;>rfl
@[go_sem] def aCE (Q:Ex→St→Prop):@dE P G .skip st ⟨Q⟩=Q .normal st:=bJ rfl rfl
@[go_sem] def aDX (l:List HOper) (Q:Ex→St→Prop):@dE P G (.reg l) st ⟨Q⟩=@QP P G l st ⟨Q .normal⟩:=bJ rfl rfl
@[go_sem] def aCF (d:HD) (Q:Ex→St→Prop):@dE P G (.regd d) st ⟨Q⟩=@Lz P G d st ⟨Q .normal⟩:=bJ rfl rfl
@[go_sem] def aCG (d:List Nat) (Q:Ex→St→Prop):@dE P G (.kill d) st ⟨Q⟩=Q .normal ⟨st.r,jL d st.s,st.T⟩:=bJ rfl rfl
@[go_sem] def aDY (j:Nat) (c:Option Nat) (k:Nat) (Q:Ex→St→Prop):@dE P G (.own j c k) st ⟨Q⟩=Q .normal (JZ st j c k):=bJ rfl rfl
@[go_sem] def aCH (j:Nat) (Q:Ex→St→Prop):@dE P G (.shut j) st ⟨Q⟩=Q .normal (Aq [] (Ja st j)):=bJ rfl rfl
@[go_sem] def aCI (i:Nat) (Q:Ex→St→Prop):@dE P G (.exit i) st ⟨Q⟩=Q (.exit i) st:=bJ rfl rfl
@[go_sem] def aDZ (Q:Ex→St→Prop):@dE P G .ret st ⟨Q⟩=Q .ret st:=bJ rfl rfl
def KI [c:KC St] [q:QC]:Ex→St→Prop | .normal,s=>c.k s | .exit i,s=>q.q (.exit i) s | .ret,s=>q.q .ret s
@[go_sem] def aCJ (K:St→Prop) (Q:Ex→St→Prop) (s:St):@KI ⟨K⟩ ⟨Q⟩ .normal s=K s:=bJ rfl rfl
@[go_sem] def aCK (K:St→Prop) (Q:Ex→St→Prop) (i:Nat) (s:St):@KI ⟨K⟩ ⟨Q⟩ (.exit i) s=Q (.exit i) s:=bJ rfl rfl
@[go_sem] def aCL (K:St→Prop) (Q:Ex→St→Prop) (s:St):@KI ⟨K⟩ ⟨Q⟩ .ret s=Q .ret s:=bJ rfl rfl
@[go_sem] def aS (a b:HC) (Q:Ex→St→Prop):@dE P G (.seq a b) st ⟨Q⟩=@dE P G a st ⟨@KI ⟨λs=>@dE P G b s ⟨Q⟩⟩ ⟨Q⟩⟩:=by
 simp only [dE,dD];congr 1;funext e s;cases e<;>rfl
def Es (id:Nat) [q:QC]:Ex→St→Prop | .normal,s=>q.q .normal s | .exit i,s=>if i=id then q.q .normal s else q.q (.exit i) s | .ret,s=>q.q .ret s
@[go_sem] def aEw (id:Nat) (Q:Ex→St→Prop) (s:St):@Es id ⟨Q⟩ .normal s=Q .normal s:=bJ rfl rfl
@[go_sem] def aEx (id i:Nat) (Q:Ex→St→Prop) (s:St):@Es id ⟨Q⟩ (.exit i) s=if i=id then Q .normal s else Q (.exit i) s:=bJ rfl rfl
@[go_sem] def aEy (id:Nat) (Q:Ex→St→Prop) (s:St):@Es id ⟨Q⟩ .ret s=Q .ret s:=bJ rfl rfl
@[go_sem] def aC5 (id:Nat) (a:HC) (Q:Ex→St→Prop):@dE P G (.block id a) st ⟨Q⟩=@dE P G a st ⟨@Es id ⟨Q⟩⟩:=by
 simp only [dE,dD];congr 1;funext e s;cases e<;>rfl
@[go_sem] def aCM (c:Operand) (a b:HC) (Q:Ex→St→Prop):@dE P G (.cond c a b) st ⟨Q⟩=@YQ (cQ G st.s c) ⟨λt=>@Fy t ⟨@dE P G a st ⟨Q⟩⟩ ⟨@dE P G b st ⟨Q⟩⟩⟩:=by
 simp only [dE,dD];unfold YQ;split
 ·rename_i t h;rw [h];cases t<;>rfl
 ·rename_i h;split
  ·rename_i t h';exact absurd h' (h t)
  ·rfl
def Cd (d:List Nat) [c:KC St] [q:QC]:Ex→St→Prop | .normal,s=>c.k (Aq d s) | .exit i,s=>q.q (.exit i) s | .ret,s=>q.q .ret s
@[go_sem] def aGq (d:List Nat) (J:St→Prop) (Q:Ex→St→Prop) (s:St):@Cd d ⟨J⟩ ⟨Q⟩ .normal s=J (Aq d s):=bJ rfl rfl
@[go_sem] def aGr (d:List Nat) (J:St→Prop) (Q:Ex→St→Prop) (i:Nat) (s:St):@Cd d ⟨J⟩ ⟨Q⟩ (.exit i) s=Q (.exit i) s:=bJ rfl rfl
@[go_sem] def aGs (d:List Nat) (J:St→Prop) (Q:Ex→St→Prop) (s:St):@Cd d ⟨J⟩ ⟨Q⟩ .ret s=Q .ret s:=bJ rfl rfl
def pV {c:HC} {Q Q':Ex→St→Prop} {st:St} (h:∀ e s,Q e s→Q' e s) (hc:@dE P G c st ⟨Q⟩):@dE P G c st ⟨Q'⟩:=fZ h hc
def aAE {d:List Nat} {a:HC} {Q:Ex→St→Prop} (I:Nat→St→Prop) (n:Nat) (h0:I n (Aq d st)∨I n st) (hr:∀ n s,I n s→@dE P G a s ⟨@Cd d ⟨λs'=>∃ m,m<n∧I m s'⟩ ⟨Q⟩⟩):@dE P G (.loop d a) st ⟨Q⟩:=by
 refine ⟨I,⟨n,h0⟩,λn s hs=>?_⟩;have:=hr n s hs;refine fZ (λe s hq=>?_) this
 cases e with
 | normal=>exact ⟨hq.choose,hq.choose_spec.1,.inl hq.choose_spec.2⟩
 | exit i=>exact hq
 | ret=>exact hq
def Ua [c:KC St] [q:QC]:Ex→St→Prop | .normal,s=>c.k s | .exit i,s=>q.q (.exit i) s | .ret,s=>q.q .ret s
@[go_sem] def aGt (J:St→Prop) (Q:Ex→St→Prop) (s:St):@Ua ⟨J⟩ ⟨Q⟩ .normal s=J s:=bJ rfl rfl
@[go_sem] def aGu (J:St→Prop) (Q:Ex→St→Prop) (i:Nat) (s:St):@Ua ⟨J⟩ ⟨Q⟩ (.exit i) s=Q (.exit i) s:=bJ rfl rfl
@[go_sem] def aGv (J:St→Prop) (Q:Ex→St→Prop) (s:St):@Ua ⟨J⟩ ⟨Q⟩ .ret s=Q .ret s:=bJ rfl rfl
def aCN {d:List Nat} {a:HC} {Q:Ex→St→Prop} (I:Nat→St→Prop) (n:Nat) (h0:I n st) (hr:∀ n s,I n s→@dE P G a s ⟨@Ua ⟨λs'=>∃ m,m<n∧I m s'⟩ ⟨Q⟩⟩):@dE P G (.loop d a) st ⟨Q⟩:=by
 refine ⟨I,⟨n,.inr h0⟩,λn s hs=>?_⟩;refine fZ (λe s hq=>?_) (hr n s hs)
 cases e with
 | normal=>exact ⟨hq.choose,hq.choose_spec.1,.inr hq.choose_spec.2⟩
 | exit i=>exact hq
 | ret=>exact hq
def jE {d:List Nat} {a:HC} {Q:Ex→St→Prop} (I:Nat→St→Prop) (n:Nat) (h0:I n (Aq d st)) (hr:∀ n s,I n s→@dE P G a s ⟨@Cd d ⟨λs'=>∃ m,m<n∧I m s'⟩ ⟨Q⟩⟩):@dE P G (.loop d a) st ⟨Q⟩:=by
 exact aAE I n (.inl h0) hr
def BB {d:List Nat} {J J':St→Prop} {Q:Ex→St→Prop} (h:∀ s,J s→J' s):∀ e s,@Cd d ⟨J⟩ ⟨Q⟩ e s→@Cd d ⟨J'⟩ ⟨Q⟩ e s:=by
 intro e s
 cases e with
 | normal=>exact h _
 | exit i=>exact id
 | ret=>exact id
def aJ {d:List Nat} {a:HC} {Q:Ex→St→Prop} (N:Nat) (S:Nat→St) (J:Nat→Prop) (h0:Aq d st=S 0) (j0:J 0) (hr:∀ i,i<N→J i→@dE P G a (S i) ⟨@Cd d ⟨λs'=>s'=S (i+1)∧J (i+1)⟩ ⟨Q⟩⟩)
  (hl:J N→@dE P G a (S N) ⟨@Cd d ⟨λ_=>False⟩ ⟨Q⟩⟩):@dE P G (.loop d a) st ⟨Q⟩:=by
 refine jE (λn s=>∃ i,i≤N∧n=N-i∧s=S i∧J i) N ⟨0,B8 _,by simp,h0,j0⟩ ?_;rintro n s ⟨i,hi,rfl,rfl,hj⟩;rcases gM i N with hlt | hge
 ·exact pV (BB λs ⟨h1,h2⟩=>⟨N-(i+1),by omega,i+1,by omega,rfl,h1,h2⟩) (hr i hlt hj)
 ·obtain rfl:i=N:=by omega
  exact pV (BB λs h=>h.elim) (hl hj)
def YV (i:Nat) (r:Loop) (s:List (Nat×AV)) (n:Nat) [c:KT]:Ex→St→Prop
 | .normal,st=>c.k (.v (.bool true)) ((Aq [] ⟨n,[],st.T⟩).T.set i (some (.lp r s)))
 | .exit id,st=>c.k (.v (.bool false)) ((Aq [] ⟨n,[],st.T⟩).T.set i (some (.lp (left r (.exit id)) s)))
 | .ret,st=>c.k (.v (.bool false)) ((Aq [] ⟨n,[],st.T⟩).T.set i (some (.lp (left r .ret) s)))
@[go_sem] def aI0 (i:Nat) (r:Loop) (s:List (Nat×AV)) (n:Nat) (K:AV→aH→Prop) (st:St):@YV i r s n ⟨K⟩ .normal st=K (.v (.bool true)) ((Aq [] ⟨n,[],st.T⟩).T.set i (some (.lp r s))):=bJ rfl rfl
@[go_sem] def aI1 (i:Nat) (r:Loop) (s:List (Nat×AV)) (n:Nat) (K:AV→aH→Prop) (id:Nat) (st:St):@YV i r s n ⟨K⟩ (.exit id) st=K (.v (.bool false)) ((Aq [] ⟨n,[],st.T⟩).T.set i (some (.lp (left r (.exit id)) s))):=bJ rfl rfl
@[go_sem] def aI2 (i:Nat) (r:Loop) (s:List (Nat×AV)) (n:Nat) (K:AV→aH→Prop) (st:St):@YV i r s n ⟨K⟩ .ret st=K (.v (.bool false)) ((Aq [] ⟨n,[],st.T⟩).T.set i (some (.lp (left r .ret) s))):=bJ rfl rfl
def YW (i:Nat) (r:Loop) (s:List (Nat×AV)) [c:KT]:Ex→St→Prop
 | .normal,st=>c.k (.v (.bool true)) (st.T.set i (some (.lp r s)))
 | .exit id,st=>c.k (.v (.bool false)) (st.T.set i (some (.lp (left r (.exit id)) s)))
 | .ret,st=>c.k (.v (.bool false)) (st.T.set i (some (.lp (left r .ret) s)))
@[go_sem] def aI3 (i:Nat) (r:Loop) (s:List (Nat×AV)) (K:AV→aH→Prop) (st:St):@YW i r s ⟨K⟩ .normal st=K (.v (.bool true)) (st.T.set i (some (.lp r s))):=bJ rfl rfl
@[go_sem] def aI4 (i:Nat) (r:Loop) (s:List (Nat×AV)) (K:AV→aH→Prop) (id:Nat) (st:St):@YW i r s ⟨K⟩ (.exit id) st=K (.v (.bool false)) (st.T.set i (some (.lp (left r (.exit id)) s))):=bJ rfl rfl
@[go_sem] def aI5 (i:Nat) (r:Loop) (s:List (Nat×AV)) (K:AV→aH→Prop) (st:St):@YW i r s ⟨K⟩ .ret st=K (.v (.bool false)) (st.T.set i (some (.lp (left r .ret) s))):=bJ rfl rfl
def aCO (r:Nat) (s:List (Nat×AV)) (n:Nat) (T:aH) [q:QC]:Prop :=
 match bZ T n with
 | some (.lp rec _)=>rec.state≠.busy∧(match rec.pending with
  | none=>q.q .normal ⟨r,s,T.set n none⟩
  | some (.exit id)=>q.q (.exit id) ⟨r,s,T.set n none⟩
  | some .ret=>q.q .ret ⟨r,s,T.set n none⟩
  | _=>False)
 | _=>False
def aEz (P:Program) (G:Nat→Option (List AV)) (r:Loop) (ps:List Nat) (a b:HC):Prop :=
 ∀ (i:Nat) (s:List (Nat×AV)) (T:aH) (args:List AV) (K:AV→aH→Prop),bZ T i=some (.lp r s)→args.length=ps.length →
  (@dE P G a ⟨T.length,uG s ps args,T.set i none⟩ ⟨@KI ⟨λs1=>@dE P G b s1 ⟨@YV i r s T.length ⟨K⟩⟩⟩ ⟨λ_ _=>False⟩⟩)→@WI P G i args T ⟨K⟩
def aCP (P:Program) (G:Nat→Option (List AV)) (r:Loop) (ps:List Nat) (a b:HC):Prop :=
 ∀ (i:Nat) (s:List (Nat×AV)) (T:aH) (args:List AV) (K:AV→aH→Prop),bZ T i=some (.lp r s)→args.length=ps.length →
  (@dE P G a ⟨T.length,uG s ps args,T.set i none⟩ ⟨@KI ⟨λs1=>@dE P G b s1 ⟨@YW i r s ⟨K⟩⟩⟩ ⟨λ_ _=>False⟩⟩)→@WI P G i args T ⟨K⟩
def M9 {g:Operand} {ps d:List Nat} {a b:HC} {Q:Ex→St→Prop} {f:FuncId} {caps:List AV} (hg:cQ G st.s g=.cl f caps) (hb:N3 P f)
  (h:∀ r:Loop,r.state=.ready→r.pending=none→aEz P G r ps a b→aCP P G r ps a b →
   @rA P G f (.yl st.T.length::caps) (st.T++[some (.lp r (EJ d st.s))]) ⟨λ_ T2=>@aCO st.r st.s st.T.length T2 ⟨Q⟩⟩):@dE P G (.rng g ps d a b) st ⟨Q⟩:=by
 show dD P G (.rng g ps d a b) Q st;simp only [dD];intro r h1 h2 h3 hy;rw [hg];refine ⟨hb,?_⟩;have key:∀ (R:Nat→Loop→List (Nat×AV)→Nat→(AV→aH→Prop)→Ex→St→Prop),(∀ i s n K e st,R i r s n K e st→Gr i r s n K e st) →
   ∀ (i:Nat) (s:List (Nat×AV)) (T:aH) (args:List AV) (K:AV→aH→Prop),bZ T i=some (.lp r s)→args.length=ps.length →
  (@dE P G a ⟨T.length,uG s ps args,T.set i none⟩ ⟨@KI ⟨λs1=>@dE P G b s1 ⟨R i r s T.length K⟩⟩ ⟨λ_ _=>False⟩⟩)→@WI P G i args T ⟨K⟩:=by
  intro R hR i s T args K hi hl hc
  refine hy i s T args K hi hl (fZ (λe s1 hq=>?_) hc)
  cases e with
  | normal=>exact fZ (λe s2 h2=>hR _ _ _ _ _ _ h2) hq
  | exit i=>exact hq
  | ret=>exact hq
 refine h r h1 h2 (key (λi r s n K=>@YV i r s n ⟨K⟩) λi s n K e st hq=>?_) (key (λi r s n K=>@YW i r s ⟨K⟩) λi s n K e st hq=>?_)
 ·cases e<;>exact ⟨true,hq⟩
 ·cases e<;>exact ⟨false,hq⟩
def wD {c:HC} {id:Nat} {K:St→Prop} {Q:Ex→St→Prop} (R:St→Prop) (h:@dE P G c st ⟨@Es id ⟨@KI ⟨R⟩ ⟨Q⟩⟩⟩) (hr:∀ s,R s→K s):@dE P G c st ⟨@Es id ⟨@KI ⟨K⟩ ⟨Q⟩⟩⟩:=by
 refine pV (λe s hq=>?_) h
 cases e with
 | normal=>exact hr s hq
 | exit i =>
  simp only [Es] at hq ⊢;split
  ·rename_i e;rw [if_pos e] at hq;exact hr s hq
  ·rename_i e;rw [if_neg e] at hq;exact hq
 | ret=>exact hq
def bP {c:HC} {K:St→Prop} {Q:Ex→St→Prop} (R:St→Prop) (h:@dE P G c st ⟨@KI ⟨R⟩ ⟨Q⟩⟩) (hr:∀ s,R s→K s):@dE P G c st ⟨@KI ⟨K⟩ ⟨Q⟩⟩:=by
 refine pV (λe s hq=>?_) h
 cases e with
 | normal=>exact hr s hq
 | exit i=>exact hq
 | ret=>exact hq
def aAF {d:List Nat} {a:HC} {Q:Ex→St→Prop} (N:Nat) (S:Nat→St) (J:Nat→Prop) (h0:Aq d st=S N) (j0:J N) (hr:∀ k,k<N→J (k+1)→@dE P G a (S (k+1)) ⟨@Cd d ⟨λs'=>s'=S k∧J k⟩ ⟨Q⟩⟩)
  (hl:J 0→@dE P G a (S 0) ⟨@Cd d ⟨λ_=>False⟩ ⟨Q⟩⟩):@dE P G (.loop d a) st ⟨Q⟩:=by
 refine jE (λn s=>n≤N∧s=S n∧J n) N ⟨cT _,h0,j0⟩ ?_;rintro n s ⟨hn,rfl,hj⟩
 cases n with
 | zero=>exact pV (BB λs h=>h.elim) (hl hj)
 | succ n=>exact pV (BB λs ⟨h1,h2⟩=>⟨n,by omega,by omega,h1,h2⟩) (hr n (by omega) hj)
end
attribute [go_sem] EH qX N2 oX fY Lu EJ uG aCO aCp XP bkF bkS Lv Pu left bO cQ aP dH CN Fa jL mM bZ cR Rv JY eO aO bM pun eqC oU dM YS YR YU YT Ep YO KH N1 VY Hn sA CO Fc dZ fU Xx aEf AF uF CP Va Rr Aq oH IC
 JZ Ja CQ shutI zH Fb Rq Mt Ms qY AJ fF oY uX vG B9 CI Fd bk IB Eh mK Xw Gp uE lT
attribute [go_sem] ne_eq not_false_eq_true not_true_eq_false Hh Option.bind_none if_true if_false kB true_and and_true CJ B6 wJ jJ fE mE Mf Xi rY UA List.take_nil List.drop_nil
 fX gW nR List.all_cons UC AI Xu lG lR List.set_cons_zero Lr Xm List.contains_nil D1 lA JV
 Lp Xn decide_true decide_false Bool.not_eq_true
@[go_sem] def aGw:List.range 0=[]:=bJ rfl rfl
@[go_sem] def aGx:List.range 1=[0]:=bJ rfl rfl
@[go_sem] def aGy:List.range 2=[0,1]:=bJ rfl rfl
@[go_sem] def aGz:List.range 3=[0,1,2]:=bJ rfl rfl
@[go_sem] def aGA:List.range 4=[0,1,2,3]:=bJ rfl rfl
@[go_sem] def aGB:List.range 5=[0,1,2,3,4]:=bJ rfl rfl
@[go_sem] def aGC:List.range 6=[0,1,2,3,4,5]:=bJ rfl rfl
@[go_sem] def aGD:List.range 7=[0,1,2,3,4,5,6]:=bJ rfl rfl
@[go_sem] def aGE:List.range 8=[0,1,2,3,4,5,6,7]:=bJ rfl rfl
@[go_sem] def aGF:List.range 9=[0,1,2,3,4,5,6,7,8]:=bJ rfl rfl
@[go_sem] def aEA:List.range 10=[0,1,2,3,4,5,6,7,8,9]:=bJ rfl rfl
@[go_sem] def aEB:List.range 11=[0,1,2,3,4,5,6,7,8,9,10]:=bJ rfl rfl
@[go_sem] def aEC:List.range 12=[0,1,2,3,4,5,6,7,8,9,10,11]:=bJ rfl rfl
@[go_sem] def aED:List.range 13=[0,1,2,3,4,5,6,7,8,9,10,11,12]:=bJ rfl rfl
@[go_sem] def aEE:List.range 14=[0,1,2,3,4,5,6,7,8,9,10,11,12,13]:=bJ rfl rfl
@[go_sem] def aEF:List.range 15=[0,1,2,3,4,5,6,7,8,9,10,11,12,13,14]:=bJ rfl rfl
@[go_sem] def aEG:List.range 16=[0,1,2,3,4,5,6,7,8,9,10,11,12,13,14,15]:=bJ rfl rfl
@[go_sem] def aJ7 (b:Bool):(b==true)=b:=by cases b<;>rfl
@[go_sem] def aJ8 (b:Bool):(b==false)=!b:=by cases b<;>rfl
attribute [go_sem] Bool.not_not bne_self_eq_false beq_self_eq_true
attribute [go_sem] Nat.min_self aL gK kM xS qT wK Pp cT B8 Mi gG jA
attribute [go_sem] List.getD_cons_zero List.getD_cons_succ List.getD_nil
attribute [go_sem] Mp EG FW FY List.idxOf?_cons List.idxOf?_nil List.findIdx?_cons List.findIdx?_nil List.filter_cons List.filter_nil
@[go_sem] def aI6:((0:Nat):Int)=0:=bJ rfl rfl
@[go_sem] def aCQ:((1:Nat):Int)=1:=bJ rfl rfl
@[go_sem] def aI7:((2:Nat):Int)=2:=bJ rfl rfl
@[go_sem] def aI8:((3:Nat):Int)=3:=bJ rfl rfl
@[go_sem] def aI9:((4:Nat):Int)=4:=bJ rfl rfl
@[go_sem] def aIa:((5:Nat):Int)=5:=bJ rfl rfl
@[go_sem] def aIb:((6:Nat):Int)=6:=bJ rfl rfl
@[go_sem] def aIc:((7:Nat):Int)=7:=bJ rfl rfl
@[go_sem] def aId:((8:Nat):Int)=8:=bJ rfl rfl
@[go_sem] def aIe:((9:Nat):Int)=9:=bJ rfl rfl
@[go_sem] def aGG:((10:Nat):Int)=10:=bJ rfl rfl
@[go_sem] def aGH:((11:Nat):Int)=11:=bJ rfl rfl
@[go_sem] def aGI:((12:Nat):Int)=12:=bJ rfl rfl
@[go_sem] def aGJ:((13:Nat):Int)=13:=bJ rfl rfl
@[go_sem] def aGK:((14:Nat):Int)=14:=bJ rfl rfl
@[go_sem] def aGL:((15:Nat):Int)=15:=bJ rfl rfl
@[go_sem] def aGM:((16:Nat):Int)=16:=bJ rfl rfl
@[go_sem] def aGN:((17:Nat):Int)=17:=bJ rfl rfl
@[go_sem] def aGO:((18:Nat):Int)=18:=bJ rfl rfl
@[go_sem] def aGP:((19:Nat):Int)=19:=bJ rfl rfl
@[go_sem] def aGQ:((20:Nat):Int)=20:=bJ rfl rfl
@[go_sem] def aGR:((21:Nat):Int)=21:=bJ rfl rfl
@[go_sem] def aGS:((22:Nat):Int)=22:=bJ rfl rfl
@[go_sem] def aGT:((23:Nat):Int)=23:=bJ rfl rfl
@[go_sem] def aGU:((24:Nat):Int)=24:=bJ rfl rfl
@[go_sem] def aGV:((25:Nat):Int)=25:=bJ rfl rfl
@[go_sem] def aGW:((26:Nat):Int)=26:=bJ rfl rfl
@[go_sem] def aGX:((27:Nat):Int)=27:=bJ rfl rfl
@[go_sem] def aGY:((28:Nat):Int)=28:=bJ rfl rfl
@[go_sem] def aGZ:((29:Nat):Int)=29:=bJ rfl rfl
@[go_sem] def aH0:((30:Nat):Int)=30:=bJ rfl rfl
@[go_sem] def aH1:((31:Nat):Int)=31:=bJ rfl rfl
@[go_sem] def aH2:((32:Nat):Int)=32:=bJ rfl rfl
@[go_sem] def aEH (t a:Bool):(if t=true then AV.v (.bool a) else AV.v (.bool false))=AV.v (.bool (t&&a)):=by cases t<;>rfl
@[go_sem] def aH3 (t b:Bool):(if t=true then AV.v (.bool true) else AV.v (.bool b))=AV.v (.bool (t||b)):=by cases t<;>rfl
attribute [go_sem] AI kN kC Dz
attribute [go_sem] reduceCtorEq Nat.reduceEqDiff Nat.reduceBEq Nat.reduceAdd Nat.reduceSub Nat.reduceMul Nat.reduceLT Nat.reduceLeDiff Int.reduceEq Int.reduceLT Int.reduceLE Int.reduceToNat Int.reduceNeg Int.reduceBEq Int.reduceMul Int.reduceAdd Int.reduceSub
attribute [go_sem ↓] reduceIte
end
section
def bF {n:Int} (h1:-9223372036854775808≤n) (h2:n≤9223372036854775807):IntKind.i64.wrap n=n:=by
 simp [IntKind.wrap,IntKind.bits,IntKind.signed];omega
def YX {n:Int} (h1:0≤n) (h2:n≤18446744073709551615):IntKind.u64.wrap n=n:=by
 simp [IntKind.wrap,IntKind.bits,IntKind.signed];omega
def aF {n:Nat} (h:n<9223372036854775807):IntKind.i64.wrap ((n:Int)+1)=((n+1:Nat):Int):=by rw [bF (by omega) (by omega)];rfl
def Dd {n:Nat} (h:n<9223372036854775807):IntKind.i64.wrap (((n+1:Nat):Int)-1)=n:=by rw [bF (by omega) (by omega)];omega
@[go_sem] def aH4 (n:Nat):decide (((n+1:Nat):Int)>0)=true:=decide_eq_true (by omega)
@[go_sem] def aIT:decide ((0:Int)>0)=false:=bJ rfl rfl
@[go_sem] def aEI:decide (((0:Nat):Int)>0)=false:=bJ rfl rfl
@[go_sem] def aAl {α β:Type} (f:α→β) (l:List α) (p:Nat):((l.map f).drop p).take (l.length-p)=(l.map f).drop p:=xR (by simp)
@[go_sem] def YY {α:Type} (l:List α) (p:Nat):(l.drop p).take (l.length-p)=l.drop p:=xR (by simp)
@[go_sem] def aAG {α β:Type} (f:α→β) (l:List α):(l.map f).take l.length=l.map f:=xR (by simp)
def bG {a b:Nat} (h:a<b):decide ((a:Int)<(b:Int))=true:=by simpa using h
def aX {a b:Nat} (h:¬a<b):decide ((a:Int)<(b:Int))=false:=by simpa using h
def aCR {a b:Nat} (h:((a:Int)!=(b:Int))=true):a≠b:=by simp at h;omega
def aCS {a b:Nat} (h:((a:Int)!=(b:Int))=false):a=b:=by simp at h;omega
def aI {α β:Type} (f:α→β) (l:List α) (i:Nat) (h:i<l.length):(l.map f)[i]?=some (f l[i]):=by simp [h]
mutual
def aEJ {L:List Nat}:∀ {x:AV},dZ x=[]→AF L x=x
 | .own _,h=>by simp [dZ] at h
 | .ptr _ _,h=>by simp [dZ] at h
 | .elt _ _ _ _,h=>by simp [dZ] at h
 | .vw _ _ _ _,h=>by simp [dZ] at h
 | .mp _,h=>by simp [dZ] at h
 | .yl _,h=>by simp [dZ] at h
 | .ag cs,h=>by simp only [dZ] at h;simp only [AF];rw [uJ h]
 | .cl f cs,h=>by simp only [dZ] at h;simp only [AF];rw [uJ h]
 | .bm f kk cs,h=>by simp only [dZ] at h;simp only [AF];rw [uJ h]
 | .tup cs,h=>by simp only [dZ] at h;simp only [AF];rw [uJ h]
 | .v _,_=>rfl
 | .ls _ _,_=>rfl
 | .rp _,_=>rfl
 | .any,_=>rfl
def uJ {L:List Nat}:∀ {x:List AV},fU x=[]→uF L x=x
 | [],_=>rfl
 | c::cs,h=>by simp only [fU,Tv] at h;simp only [uF];rw [aEJ h.1,uJ h.2]
end
mutual
def Ub {L:List Nat} {n:Nat}:∀ {x:AV},dZ x=[]→vG L n x=x
 | .own _,h=>by simp [dZ] at h
 | .ptr _ _,h=>by simp [dZ] at h
 | .elt _ _ _ _,h=>by simp [dZ] at h
 | .vw _ _ _ _,h=>by simp [dZ] at h
 | .mp _,h=>by simp [dZ] at h
 | .yl _,h=>by simp [dZ] at h
 | .ag cs,h=>by simp only [dZ] at h;simp only [vG];rw [Et h]
 | .cl f cs,h=>by simp only [dZ] at h;simp only [vG];rw [Et h]
 | .bm f kk cs,h=>by simp only [dZ] at h;simp only [vG];rw [Et h]
 | .tup cs,h=>by simp only [dZ] at h;simp only [vG];rw [Et h]
 | .v _,_=>rfl
 | .ls _ _,_=>rfl
 | .rp _,_=>rfl
 | .any,_=>rfl
def Et {L:List Nat} {n:Nat}:∀ {x:List AV},fU x=[]→B9 L n x=x
 | [],_=>rfl
 | c::cs,h=>by simp only [fU,Tv] at h;simp only [B9];rw [Ub h.1,Et h.2]
end
mutual
def WK:∀ x:AV,pT x x
 | .ag cs=>by simp only [pT];exact .inl trivial
 | .v _=>by simp only [pT];exact .inl trivial
 | .own _=>by simp only [pT]
 | .ptr _ _=>by simp only [pT]
 | .elt _ _ _ _=>by simp only [pT]
 | .vw _ _ _ _=>by simp only [pT]
 | .mp _=>by simp only [pT]
 | .yl _=>by simp only [pT]
 | .cl _ _=>by simp only [pT]
 | .bm _ _ _=>by simp only [pT]
 | .tup _=>by simp only [pT]
 | .ls _ _=>by simp only [pT]
 | .rp _=>by simp only [pT]
 | .any=>by simp only [pT]
def aA:∀ x:List AV,Ar x x
 | []=>by simp only [Ar]
 | c::cs=>by simp only [Ar];exact ⟨c,cs,rfl,WK c,aA cs⟩
end
section
variable {P:Program} {G:Nat→Option (List AV)} {f:FuncId} {args args':List AV} {T:aH} {K:AV→aH→Prop}
def mD (hs:Ar args args') (hi:fU args'=[]) {post:AV→aH→Prop} (hc:aC P G f args' [] post) (hk:∀ r T',post r T'→K (vG [] T.length r) (T++T'.map (CI [] T.length))):@rA P G f args T ⟨K⟩:=by
 refine ⟨args',hs,.inl ⟨[],by simp,by simp,?_⟩⟩;show aC P G f (uF [] args') (CP [] T) _;rw [uJ hi];refine hc.mono λr T' hp=>?_;have:Fd [] T.length T [] T'=T++T'.map (CI [] T.length):=by cases T'<;>simp [Fd]
 rw [this];exact hk r T' hp
def aB {R:AV} (hs:Ar args args') (hi:fU args'=[]) (hc:aC P G f args' [] λr T'=>r=R∧T'=[]) (hR:dZ R=[]) (hk:K R T):@rA P G f args T ⟨K⟩ :=
 mD hs hi hc λr T' ⟨h1,h2⟩=>by subst h1;subst h2;rw [Ub hR];simpa using hk
def aQ {R:AV} {T2:aH} (hs:Ar args args') (hi:fU args'=[]) (hc:aC P G f args' [] λr T'=>r=R∧T'=T2) (hk:K (vG [] T.length R) (T++T2.map (CI [] T.length))):@rA P G f args T ⟨K⟩ :=
 mD hs hi hc λr T' ⟨h1,h2⟩=>by subst h1;subst h2;exact hk
def cD {args2:List AV} (hs:Ar args args') (hl:AJ T args'=args2) (hi:fU args2=[]) {post:AV→aH→Prop} (hc:aC P G f args2 [] post)
  (hk:∀ r T',post r T'→fF r∧(∀ o∈T',uX o)∧K (vG [] T.length r) (T++T'.map (CI [] T.length))):@rA P G f args T ⟨K⟩ :=
 ⟨args',hs,.inr (.inl ⟨by rw [hl];exact hi,by rw [hl];exact hc.mono hk⟩)⟩
def rB {args2:List AV} {x:Value} (hs:Ar args args') (hl:AJ T args'=args2) (hi:fU args2=[]) (hc:aC P G f args2 [] λr T'=>r=.v x∧T'=[]) (hk:K (.v x) T):@rA P G f args T ⟨K⟩ :=
 cD hs hl hi hc λr T' ⟨h1,h2⟩=>by subst h1;subst h2;exact ⟨by simp [fF],by simp,by simpa [vG] using hk⟩
def jU {post:AV→aH→Prop} (hs:Ar args args') (hc:aC P G f args' T post) (hk:∀ r T',post r T'→K r T'):@rA P G f args T ⟨K⟩ :=
 ⟨args',hs,.inr (.inr (hc.mono hk))⟩
def aAH {L:List Nat} {args2:List AV} {T2:aH} {post:AV→aH→Prop} (hs:Ar args args') (hL:(sA T (fU args')).filter (· < T.length)=L) (ha:uF L args'=args2) (hT:CP L T=T2) (hc:aC P G f args2 T2 post)
  (hk:∀ r T',post r T'→K (vG L T.length r) (Fd L T.length T L T')):@rA P G f args T ⟨K⟩ :=
 ⟨args',hs,.inl ⟨L,by subst hL;exact List.Pairwise.filter _ (Hp _ _),λi hi=>by subst hL;simpa using (uD.1 hi).2,by subst ha;subst hT;exact hc.mono hk⟩⟩
def aG (L:List Nat) {args2:List AV} {T2:aH} {post:AV→aH→Prop} (hs:Ar args args') (hn:L.Nodup) (hL:∀ i∈L,i<T.length) (ha:uF L args'=args2) (hT:CP L T=T2) (hc:aC P G f args2 T2 post)
  (hk:∀ r T',post r T'→K (vG L T.length r) (Fd L T.length T L T')):@rA P G f args T ⟨K⟩ :=
 ⟨args',hs,.inl ⟨L,hn,hL,by subst ha;subst hT;exact hc.mono hk⟩⟩
def Fz (L:List Nat) {args2:List AV} {T2:aH} (hs:Ar args args') (hn:L.Nodup) (hL:∀ i∈L,i<T.length) (ha:uF L args'=args2) (hT:CP L T=T2) (hc:aC P G f args2 T2 λr T'=>K (vG L T.length r) (Fd L T.length T L T')):@rA P G f args T ⟨K⟩ :=
 ⟨args',hs,.inl ⟨L,hn,hL,by subst ha;subst hT;exact hc⟩⟩
end
def cK {P:Program} {G:Nat→Option (List AV)} {f:FuncId} {args:List AV} {T:aH} {K:KT} (h:@rA P G f args T K):@rA P G f args T K:=h
def Ce {α:Type} {f:α→AV} {l:List α} (h:∀ x,dZ (f x)=[]):fU (l.map f)=[]:=by
 induction l with
 | nil=>rfl
 | cons x l ih=>simp [fU,h,ih]
@[go_sem] def F0 (a b:List AV):fU (a++b)=fU a++fU b:=by
 induction a with
 | nil=>rfl
 | cons c a ih=>simp [fU,ih]
@[go_sem] def NA {α:Type} (f:α→Value) (l:List α):fU (l.map λx=>.v (f x))=[]:=Ce λ_=>rfl
@[go_sem] def aH5 (L:List Nat) (a b:List AV):uF L (a++b)=uF L a++uF L b:=by
 induction a with
 | nil=>rfl
 | cons c a ih=>simp [uF,ih]
@[go_sem] def aEK {α:Type} (L:List Nat) (f:α→Value) (l:List α):uF L (l.map λx=>.v (f x))=l.map λx=>.v (f x):=uJ (Ce λ_=>rfl)
@[go_sem] def aH6 (L:List Nat) (n:Nat) (a b:List AV):B9 L n (a++b)=B9 L n a++B9 L n b:=by
 induction a with
 | nil=>rfl
 | cons c a ih=>simp [B9,ih]
@[go_sem] def aEL {α:Type} (L:List Nat) (n:Nat) (f:α→Value) (l:List α):B9 L n (l.map λx=>.v (f x))=l.map λx=>.v (f x):=Et (Ce λ_=>rfl)
@[go_sem] def aCT {α:Type} (f:α→Value) (l:List α):oY (l.map λx=>.v (f x))=True:=by
 induction l with
 | nil=>rfl
 | cons c a ih=>simp [oY,fF,ih]
end
section
@[go_sem] def aEM (n:Nat) (I:List Nat) (q:AV→aH→Prop) (r:AV) (T':aH):Prop :=
 q (aP (Aq [] (CQ ⟨n,[(0,r)],T'⟩ I)).s 0) (Aq [] (CQ ⟨n,[(0,r)],T'⟩ I)).T
section
variable {P:Program} {G:Nat→Option (List AV)} {f:FuncId} {args:List AV} {T:aH} {p q:AV→aH→Prop}
def Bv.fin (P:Program) {h:GH} {φ:Nat→Value} {w:World} {v:Value} {w':World} (hG:pS G h) (I:List Nat) (hk:∀ r T',p r T'→aEM T.length I q r T') (a:Bv h φ T w p v w'):Bv h φ T w q v w':=by
 obtain ⟨r,T',h',φ',e1,e2,e3,e4⟩:=a;have hS:SInv P G 0 h φ T w ⟨T.length,[(0,r)],T'⟩ ⟨#[v],[]⟩ w':=by
  refine ⟨rfl,?_,⟨h',φ',hG.mono e2.le,e2,e3,λi=>?_⟩,by simp,by simp [CZ]⟩
  ·intro i x y hx hy;simp only [iU,Prod.mk.injEq] at hx hy;rw [hx.2,hy.2]
  ·simp only [aP];split
   ·rename_i hi;subst hi;exact e4
   ·simp [Rp]
 have hN:∀ (l:List Nat) (st:St),SInv P G 0 h φ T w st ⟨#[v],[]⟩ w'→SInv P G 0 h φ T w (CQ st l) ⟨#[v],[]⟩ w':=by
  intro l
  induction l with
  | nil=>intro st h;exact h
  | cons i r ih=>intro st h;exact ih _ (h.shutI i)
 have hS2:=Ca [] (hN I _ hS);obtain ⟨_,_,⟨h2,φ2,g1,g2,g3,g4⟩,_,_⟩:=hS2;exact ⟨_,_,h2,φ2,hk r T' e1,g2,g3,g4 0⟩
def aC.fin (hc:aC P G f args T p) (I:List Nat) (hk:∀ r T',p r T'→aEM T.length I q r T'):aC P G f args T q:=by
 intro h φ w vals hG hI hA;rcases hc h φ w vals hG hI hA with ⟨a,b⟩ | ⟨v,w',a,b⟩
 ·exact .inl ⟨a,b.mono λe w' ⟨v,e1,e2⟩=>⟨v,e1,e2.fin P hG I hk⟩⟩
 ·exact .inr ⟨v,w',a,b.fin P hG I hk⟩
end
end
section
structure Id where
 a:Int
 b:Int
 c:Int
 deriving DecidableEq,Inhabited
def Id.A (x:Id):List AV:=[.v (.int .i64 x.a),.v (.int .i64 x.b),.v (.int .u64 x.c)]
def Id.A_def (x:Id):x.A=[.v (.int .i64 x.a),.v (.int .i64 x.b),.v (.int .u64 x.c)]:=bJ rfl rfl
def Id.lt (x y:Id):Bool:=if x.a=y.a then (if x.b=y.b then decide (x.c<y.c) else decide (x.b<y.b)) else decide (x.a<y.a)
@[go_sem] def Id.beq (x y:Id):(x.a==y.a&&(x.b==y.b&&x.c==y.c))=decide (x=y):=by
 obtain ⟨xa,xb,xc⟩:=x;obtain ⟨ya,yb,yc⟩:=y;grind
def Id.lt_irrefl (x:Id):x.lt x=false:=by simp [Id.lt]
def Id.lt_trans {x y z:Id} (h1:x.lt y=true) (h2:y.lt z=true):x.lt z=true:=by
 grind [Id.lt]
abbrev ids (l:List Id):AV:=.ls 3 (l.map Id.A)
abbrev ul (l:List Nat):List (List AV):=l.map λn=>[.v (.int .u64 ((n:Nat):Int))]
def tI (b:List Nat):Prop:=∀ x∈b,x<256
abbrev U8 (x:Nat):List AV:=[.v (.int .u8 ((x:Nat):Int))]
abbrev bl (b:List Nat):List (List AV):=b.map U8
def F1 {b:List Nat} (h:tI b) (k:Nat):tI (b.drop k):=λx hx=>h x (Me hx)
def rC {b:List Nat} (h:tI b) (k:Nat):tI (b.take k):=λx hx=>h x (Ef hx)
def iH {a b:List Nat} (h:tI a) (k:tI b):tI (a++b):=λx hx=>(eM.1 hx).elim (h x) (k x)
end
section
structure BoxM where
 To:Nat
 Eph:Nat
 Body:Nat
 Tag:Nat
 deriving DecidableEq,Inhabited
structure NodeM where
 Pub:Nat
 Boxes:List BoxM
 deriving DecidableEq,Inhabited
structure SealM where
 Of:Id
 Body:List Nat
 deriving DecidableEq,Inhabited
structure OpM where
 By:Int
 Seq:Int
 Kind:Int
 At:Int
 Past:List Id
 Device:Int
 Old:Int
 Member:Int
 Role:Int
 Path:List NodeM
 Epoch:Id
 N:Int
 Body:List Nat
 Refs:List Nat
 Of:Id
 Guards:List Int
 Need:Int
 Wait:Int
 Boxes:List BoxM
 Pub:Nat
 Hist:List SealM
 SR:Nat
 SS:Nat
 deriving DecidableEq,Inhabited
abbrev iv (n:Int):AV:=.v (.int .i64 n)
abbrev uv (n:Nat):AV:=.v (.int .u64 (n:Int))
def BoxM.A (b:BoxM):List AV:=[uv b.To,uv b.Eph,uv b.Body,uv b.Tag]
abbrev De (l:List BoxM):AV:=.ls 4 (l.map BoxM.A)
def NodeM.A (n:NodeM):List AV:=[uv n.Pub,De n.Boxes]
def SealM.A (x:SealM):List AV:=[.v (.int .i64 x.Of.a),.v (.int .i64 x.Of.b),.v (.int .u64 x.Of.c),.ls 1 (bl x.Body)]
abbrev uK (l:List Int):AV:=.ls 1 (l.map λn=>[iv n])
def OpM.A (o:OpM):List AV:=[iv o.By,iv o.Seq,iv o.Kind,iv o.At,ids o.Past,iv o.Device,iv o.Old,iv o.Member,iv o.Role,.ls 2 (o.Path.map NodeM.A),
 .v (.int .i64 o.Epoch.a),.v (.int .i64 o.Epoch.b),.v (.int .u64 o.Epoch.c),iv o.N,.ls 1 (bl o.Body),.ls 1 (ul o.Refs),.v (.int .i64 o.Of.a),.v (.int .i64 o.Of.b),.v (.int .u64 o.Of.c),uK o.Guards,
 iv o.Need,iv o.Wait,De o.Boxes,uv o.Pub,.ls 4 (o.Hist.map SealM.A),uv o.SR,uv o.SS]
def OpM.A_def (o:OpM):o.A=[iv o.By,iv o.Seq,iv o.Kind,iv o.At,ids o.Past,iv o.Device,iv o.Old,iv o.Member,iv o.Role,.ls 2 (o.Path.map NodeM.A),
 .v (.int .i64 o.Epoch.a),.v (.int .i64 o.Epoch.b),.v (.int .u64 o.Epoch.c),iv o.N,.ls 1 (bl o.Body),.ls 1 (ul o.Refs),.v (.int .i64 o.Of.a),.v (.int .i64 o.Of.b),.v (.int .u64 o.Of.c),uK o.Guards,
 iv o.Need,iv o.Wait,De o.Boxes,uv o.Pub,.ls 4 (o.Hist.map SealM.A),uv o.SR,uv o.SS]:=bJ rfl rfl
def lD (n lo hi:Int):Bool:=decide (lo≤n)&&decide (n≤hi)
def Eu (n:Nat):Bool:=decide ((1:Int)≤(n:Int))&&decide ((n:Int)<2305843009213693951)
def okM (n:Int):Bool:=decide (n<2305843009213693951)
def gN (x:Id):Bool:=lD x.a 1 12&&(lD x.b 1 2147483647&&okM x.c)
def sI (b:BoxM):Bool:=Eu b.To&&(Eu b.Eph&&(okM (b.Body:Int)&&okM (b.Tag:Int)))
def kZ (n:Int):Prop:=-9223372036854775808≤n∧n≤9223372036854775807
def BoxM.ok (b:BoxM):Prop:=b.To<18446744073709551616∧b.Eph<18446744073709551616∧b.Body<18446744073709551616∧b.Tag<18446744073709551616
def gO (o:OpM):List (Int×Bool):=[(1,o.Device !=0),(2,o.Old !=0),(4,o.Member !=0),(8,o.Role !=0),(16,decide ((o.Path.length:Int)>0)),(32,!(o.Epoch.a==0&&(o.Epoch.b==0&&o.Epoch.c==0))),(64,o.N !=0),(128,decide ((o.Body.length:Int)>0)),(256,decide ((o.Refs.length:Int)>0)),(512,!(o.Of.a==0&&(o.Of.b==0&&o.Of.c==0))),
 (1024,decide ((o.Guards.length:Int)>0)),(2048,o.Need !=0),(4096,o.Wait !=0),(8192,decide ((o.Boxes.length:Int)>0)),(16384,((o.Pub:Int)!=0)),(32768,decide ((o.Hist.length:Int)>0))]
def Id.ok (x:Id):Prop:=kZ x.a∧kZ x.b∧0≤x.c∧x.c<18446744073709551616
def NodeM.ok (n:NodeM):Prop:=n.Pub<18446744073709551616∧n.Boxes.length≤100∧∀ b∈n.Boxes,b.ok
def SealM.ok (x:SealM):Prop:=x.Of.ok∧x.Body.length≤1000∧tI x.Body
structure OpM.ok (o:OpM):Prop where
 ints:∀ n∈[o.By,o.Seq,o.Kind,o.At,o.Device,o.Old,o.Member,o.Role,o.N,o.Need,o.Wait],kZ n
 nums:∀ n∈[o.Pub,o.SR,o.SS],n<18446744073709551616
 epoch:o.Epoch.ok
 of:o.Of.ok
 past:o.Past.length≤1000∧∀ x∈o.Past,x.ok
 path:o.Path.length≤10∧∀ x∈o.Path,x.ok
 body:o.Body.length≤1000∧tI o.Body
 refs:o.Refs.length≤1000∧∀ x∈o.Refs,x<18446744073709551616
 guards:o.Guards.length≤1000∧∀ x∈o.Guards,kZ x
 boxes:o.Boxes.length≤1000∧∀ x∈o.Boxes,x.ok
 hist:o.Hist.length≤100∧∀ x∈o.Hist,x.ok
@[go_sem] def OpM.g0 (o:OpM):o.A[0]?=some (iv o.By):=bJ rfl rfl
@[go_sem] def OpM.g1 (o:OpM):o.A[1]?=some (iv o.Seq):=bJ rfl rfl
@[go_sem] def OpM.g2 (o:OpM):o.A[2]?=some (iv o.Kind):=bJ rfl rfl
@[go_sem] def OpM.g3 (o:OpM):o.A[3]?=some (iv o.At):=bJ rfl rfl
@[go_sem] def OpM.g4 (o:OpM):o.A[4]?=some (ids o.Past):=bJ rfl rfl
@[go_sem] def OpM.g5 (o:OpM):o.A[5]?=some (iv o.Device):=bJ rfl rfl
@[go_sem] def OpM.g6 (o:OpM):o.A[6]?=some (iv o.Old):=bJ rfl rfl
@[go_sem] def OpM.g7 (o:OpM):o.A[7]?=some (iv o.Member):=bJ rfl rfl
@[go_sem] def OpM.g8 (o:OpM):o.A[8]?=some (iv o.Role):=bJ rfl rfl
@[go_sem] def OpM.g9 (o:OpM):o.A[9]?=some (.ls 2 (o.Path.map NodeM.A)):=bJ rfl rfl
@[go_sem] def OpM.g13 (o:OpM):o.A[13]?=some (iv o.N):=bJ rfl rfl
@[go_sem] def OpM.g14 (o:OpM):o.A[14]?=some (.ls 1 (bl o.Body)):=bJ rfl rfl
@[go_sem] def OpM.g15 (o:OpM):o.A[15]?=some (.ls 1 (ul o.Refs)):=bJ rfl rfl
@[go_sem] def OpM.g19 (o:OpM):o.A[19]?=some (uK o.Guards):=bJ rfl rfl
@[go_sem] def OpM.g20 (o:OpM):o.A[20]?=some (iv o.Need):=bJ rfl rfl
@[go_sem] def OpM.g21 (o:OpM):o.A[21]?=some (iv o.Wait):=bJ rfl rfl
@[go_sem] def OpM.g22 (o:OpM):o.A[22]?=some (De o.Boxes):=bJ rfl rfl
@[go_sem] def OpM.g23 (o:OpM):o.A[23]?=some (uv o.Pub):=bJ rfl rfl
@[go_sem] def OpM.g24 (o:OpM):o.A[24]?=some (.ls 4 (o.Hist.map SealM.A)):=bJ rfl rfl
@[go_sem] def OpM.g25 (o:OpM):o.A[25]?=some (uv o.SR):=bJ rfl rfl
@[go_sem] def OpM.g26 (o:OpM):o.A[26]?=some (uv o.SS):=bJ rfl rfl
@[go_sem] def OpM.len (o:OpM):o.A.length=27:=bJ rfl rfl
@[go_sem] def OpM.dEpoch (o:OpM):(o.A.drop 10).take 3=o.Epoch.A:=bJ rfl rfl
@[go_sem] def OpM.dOf (o:OpM):(o.A.drop 16).take 3=o.Of.A:=bJ rfl rfl
@[go_sem] def OpM.dSig (o:OpM):(o.A.drop 25).take 2=[uv o.SR,uv o.SS]:=bJ rfl rfl
@[go_sem] def OpM.t27 (o:OpM):o.A.take 27=o.A:=bJ rfl rfl
@[go_sem] def OpM.ids0 (o:OpM):fU o.A=[]:=bJ rfl rfl
def OpM.one0 (o:OpM):o.A.all eO=true:=by simp [OpM.A,eO]
@[go_sem] def OpM.one (o:OpM):o.A.all eO=true:=OpM.one0 o
def OpM.closed0 (o:OpM):o.A.all aO=true:=by simp [OpM.A,aO]
@[go_sem] def OpM.closed (o:OpM):o.A.all aO=true:=OpM.closed0 o
@[go_sem] def OpM.rn (L:List Nat) (o:OpM):uF L o.A=o.A:=bJ rfl rfl
@[go_sem] def OpM.bk (L:List Nat) (n:Nat) (o:OpM):B9 L n o.A=o.A:=bJ rfl rfl
@[go_sem] def OpM.sl (i k:Nat) (es:List (List AV)) (o:OpM):Fb i k es o.A=o.A:=bJ rfl rfl
@[go_sem] def Id.ids0 (x:Id):fU x.A=[]:=bJ rfl rfl
@[go_sem] def Id.rn (L:List Nat) (x:Id):uF L x.A=x.A:=bJ rfl rfl
@[go_sem] def Id.bk (L:List Nat) (n:Nat) (x:Id):B9 L n x.A=x.A:=bJ rfl rfl
@[go_sem] def Id.sl (i k:Nat) (es:List (List AV)) (x:Id):Fb i k es x.A=x.A:=bJ rfl rfl
@[go_sem] def Id.len (x:Id):x.A.length=3:=bJ rfl rfl
def Id.one0 (x:Id):x.A.all eO=true:=by simp [Id.A,eO]
@[go_sem] def Id.one (x:Id):x.A.all eO=true:=Id.one0 x
def Id.closed0 (x:Id):x.A.all aO=true:=by simp [Id.A,aO]
@[go_sem] def Id.closed (x:Id):x.A.all aO=true:=Id.closed0 x
@[go_sem] def Id.t3 (x:Id):x.A.take 3=x.A:=bJ rfl rfl
@[go_sem] def Id.eqC (x y:Id):Hud.eqC [.int .i64,.int .i64,.int .u64] x.A y.A=some (decide (x=y)):=by
 simp_all [Hud.eqC,Id.A_def,AI,Id.beq]
@[go_sem] def Id.eq0 (x:Id):Hud.eqC [.int .i64,.int .i64,.int .u64] x.A [.v (.int .i64 0),.v (.int .i64 0),.v (.int .u64 0)]=some (x.a==0&&(x.b==0&&x.c==0)):=by
 simp_all [Hud.eqC,Id.A_def,AI]
structure CardM where
 Device:Int
 Member:Int
 Lead:Nat
 Keep:Nat
 Sign:Nat
 deriving DecidableEq,Inhabited
def CardM.A (c:CardM):List AV:=[iv c.Device,iv c.Member,uv c.Lead,uv c.Keep,uv c.Sign]
def CardM.A_def (c:CardM):c.A=[iv c.Device,iv c.Member,uv c.Lead,uv c.Keep,uv c.Sign]:=bJ rfl rfl
def CardM.ok (c:CardM):Prop:=kZ c.Device∧kZ c.Member∧c.Lead<18446744073709551616∧c.Keep<18446744073709551616∧c.Sign<18446744073709551616
end
section
noncomputable abbrev PQ:=Go.Proofs.Tryz.prog
noncomputable abbrev cF:=mZ PQ
namespace W
def zm (d t:Nat):HOper:=⟨some d,.mov (.tmp t),none⟩
def zo (d:Nat) (o:HOp):HOper:=⟨some d,o,none⟩
def zl (d a:Nat):HOper:=⟨some d,.ld none (.tmp a),none⟩
def zv (d k a:Nat):HOper:=⟨some d,.ld (some k) (.tmp a),none⟩
def zf (d a k:Nat):HOper:=⟨some d,.fad (.tmp a) k,none⟩
def zi (d a b k:Nat):HOper:=⟨some d,.iad (.tmp a) (.tmp b) k,none⟩
def zw (n:Int):Operand:=.const (.int .i64 n)
def zu (n:Int):Operand:=.const (.int .u64 n)
def zt (n:Nat):Operand:=.tmp n
def zq (a:HOper) (b:HD):HD:=.q a b
def zA (a:HOper) (c:List HOper) (b d:HD):HD:=.alt a c b d
def zS:Value:=.slice none 0 0
def z0:Value:=.int .i64 0
def zU:Value:=.int .u64 0
def zI:List Value:=[z0,z0,zU]
def zO:List Value:=[z0,z0,z0,z0,zS,z0,z0,z0,z0,zS,z0,z0,zU,z0,zS,zS,z0,z0,zU,zS,z0,z0,zS,zU,zS,zU,zU]
def zUU:List Value:=[zU,zU]
def zS5:List Value:=[zS,zS,zS,zS,zS]
def zU4:List Value:=[zU,zU,zU,zU]
def zC:List Value:=[z0,z0,zU,zU,zU]
def zB:List Value:=[zU,zS]
def zN:List Value:=[z0,z0,z0,z0,zS,z0,z0,z0,z0,zS,z0,z0,zU,z0,zS,zS,z0,z0,zU,zS,z0,z0,zS,zU,zS,zU,zU,z0,z0,zU,zU,zU,zU,zU,z0]
def zU3:List Value:=[zU,zU,zU]
abbrev TE (α:Type):=HOper→α→α
abbrev TH (α:Type):=List HOper→HOper→α→α
abbrev TG (_:Type):=Option (Nat×Bool)
abbrev TK (α:Type):=Operand→Nat→α
abbrev EE (α:Type):=TE α→TH α→TG α→TK α→Nat→α
section
variable {α:Type}
def cc (c:Operand) (_:TE α) (_:TH α) (_:TG α) (kk:TK α) (dd:Nat):α:=kk c dd
def u0 (c:HOp) (em:TE α) (_:TH α) (gd:TG α) (kk:TK α) (dd:Nat):α:=em ⟨some dd,c,gd⟩ (kk (.tmp dd) (dd+1))
def h0 (c:HOp) (_:TE α) (hv:TH α) (gd:TG α) (kk:TK α) (dd:Nat):α:=hv [] ⟨some dd,c,gd⟩ (kk (.tmp dd) (dd+1))
def u1 (c:Operand→HOp) (x:EE α) (em:TE α) (hv:TH α) (gd:TG α) (kk:TK α) (dd:Nat):α:=x em hv gd (λo d=>em ⟨some d,c o,gd⟩ (kk (.tmp d) (d+1))) dd
def u2 (c:Operand→Operand→HOp) (x y:EE α) (em:TE α) (hv:TH α) (gd:TG α) (kk:TK α) (dd:Nat):α:=x em hv gd (λo d=>y em hv gd (λp d=>em ⟨some d,c o p,gd⟩ (kk (.tmp d) (d+1))) d) dd
def u3 (c:Operand→Operand→Operand→HOp) (x y z:EE α) (em:TE α) (hv:TH α) (gd:TG α) (kk:TK α) (dd:Nat):α:=x em hv gd (λo d=>y em hv gd (λp d=>z em hv gd (λq d=>em ⟨some d,c o p q,gd⟩ (kk (.tmp d) (d+1))) d) d) dd
def u4 (c:Operand→Operand→Operand→Operand→HOp) (x y z a:EE α) (em:TE α) (hv:TH α) (gd:TG α) (kk:TK α) (dd:Nat):α:=x em hv gd (λo d=>y em hv gd (λp d=>z em hv gd (λq d=>a em hv gd (λr d=>em ⟨some d,c o p q r,gd⟩ (kk (.tmp d) (d+1))) d) d) d) dd
def h1 (c:Operand→HOp) (x:EE α) (em:TE α) (hv:TH α) (gd:TG α) (kk:TK α) (dd:Nat):α:=x em hv gd (λo d=>hv [] ⟨some d,c o,gd⟩ (kk (.tmp d) (d+1))) dd
def h2 (c:Operand→Operand→HOp) (x y:EE α) (em:TE α) (hv:TH α) (gd:TG α) (kk:TK α) (dd:Nat):α:=x em hv gd (λo d=>y em hv gd (λp d=>hv [] ⟨some d,c o p,gd⟩ (kk (.tmp d) (d+1))) d) dd
def h3 (c:Operand→Operand→Operand→HOp) (x y z:EE α) (em:TE α) (hv:TH α) (gd:TG α) (kk:TK α) (dd:Nat):α:=x em hv gd (λo d=>y em hv gd (λp d=>z em hv gd (λq d=>hv [] ⟨some d,c o p q,gd⟩ (kk (.tmp d) (d+1))) d) d) dd
def h4 (c:Operand→Operand→Operand→Operand→HOp) (x y z a:EE α) (em:TE α) (hv:TH α) (gd:TG α) (kk:TK α) (dd:Nat):α:=x em hv gd (λo d=>y em hv gd (λp d=>z em hv gd (λq d=>a em hv gd (λr d=>hv [] ⟨some d,c o p q r,gd⟩ (kk (.tmp d) (d+1))) d) d) d) dd
def h5 (c:Operand→Operand→Operand→Operand→Operand→HOp) (x y z a b:EE α) (em:TE α) (hv:TH α) (gd:TG α) (kk:TK α) (dd:Nat):α:=x em hv gd (λo d=>y em hv gd (λp d=>z em hv gd (λq d=>a em hv gd (λr d=>b em hv gd (λs d=>hv [] ⟨some d,c o p q r s,gd⟩ (kk (.tmp d) (d+1))) d) d) d) d) dd
def s (n:Nat) (x y:EE α) (em:TE α) (hv:TH α) (gd:TG α) (kk:TK α) (dd:Nat):α:=x em hv gd (λo d=>y em hv gd (λp d=>hv [] ⟨none,.st n o p,gd⟩ (kk o d)) d) dd
def A (j:Nat) (x:EE α) (em:TE α) (hv:TH α) (gd:TG α) (kk:TK α) (dd:Nat):α:=x em hv gd (λo d=>em ⟨some j,.mov o,gd⟩ (kk o d)) dd
def Ah (j:Nat) (x:EE α) (em:TE α) (hv:TH α) (gd:TG α) (kk:TK α) (dd:Nat):α:=x em hv gd (λo d=>hv [] ⟨some j,.mov o,gd⟩ (kk o d)) dd
def Y (c:HOp) (em:TE α) (_:TH α) (gd:TG α) (kk:TK α) (dd:Nat):α:=em ⟨none,c,gd⟩ (kk (.tmp 0) dd)
def Yh (c:HOp) (_:TE α) (hv:TH α) (gd:TG α) (kk:TK α) (dd:Nat):α:=hv [] ⟨none,c,gd⟩ (kk (.tmp 0) dd)
def G (j:Nat) (b:Bool) (x:EE α) (em:TE α) (hv:TH α) (_:TG α) (kk:TK α) (dd:Nat):α:=x em hv (some (j,b)) kk dd
def J (n:Nat) (x:EE α) (em:TE α) (hv:TH α) (gd:TG α) (kk:TK α) (_:Nat):α:=x em hv gd kk n
def K (c:List HOper) (x:EE α) (em:TE α) (hv:TH α) (gd:TG α) (kk:TK α) (dd:Nat):α:=x em (λ_=>hv c) gd kk dd
def N (x y:EE α) (em:TE α) (hv:TH α) (gd:TG α) (kk:TK α) (dd:Nat):α:=x em hv gd (λo d=>em ⟨some d,.mov o,gd⟩ (y em hv (some (d,true)) (λp e=>em ⟨some e,.pick (.tmp d) p (.const (.bool false)),gd⟩ (kk (.tmp e) (e+1))) (d+1))) dd
def O (x y:EE α) (em:TE α) (hv:TH α) (gd:TG α) (kk:TK α) (dd:Nat):α:=x em hv gd (λo d=>em ⟨some d,.mov o,gd⟩ (y em hv (some (d,false)) (λp e=>em ⟨some e,.pick (.tmp d) (.const (.bool true)) p,gd⟩ (kk (.tmp e) (e+1))) (d+1))) dd
end
section
variable {α:Type}
def t (n:Nat):EE α:=cc (.tmp n) 
def v (n:Nat):EE α:=u0 (.mov (.tmp n)) 
def w (n:Int):EE α:=cc (.const (.int .i64 n)) 
def u (n:Int):EE α:=cc (.const (.int .u64 n)) 
def T:EE α:=cc (.const (.bool true)) 
def F:EE α:=cc (.const (.bool false)) 
def z:EE α:=cc (.const (.slice none 0 0)) 
def kc (c:Operand):EE α:=cc c 
def x (c:HOp):EE α:=u0 c 
def xh (c:HOp):EE α:=h0 c 
def M (x0:EE α):EE α:=u1 .mov x0
def l (x0:EE α):EE α:=u1 (.ld none) x0
def L (k:Nat) (x0:EE α):EE α:=u1 (.ld (some k)) x0
def f (k:Nat) (x0:EE α):EE α:=u1 (λa=>.fad a k) x0
def i (k:Nat) (x0 x1:EE α):EE α:=u2 (λa b=>.iad a b k) x0 x1
def n (x0:EE α):EE α:=u1 .lenL x0
def e (k:Nat) (x0:EE α):EE α:=u1 (λa=>.ext a k) x0
def B (o:BinOp) (x0 x1:EE α):EE α:=u2 (.bin o) x0 x1
def o (x0:EE α):EE α:=u1 (.un .not) x0
def b (x0:EE α):EE α:=u1 .box x0
def y (x0:EE α):EE α:=u1 .nilc x0
def cw (k:IntKind) (x0:EE α):EE α:=u1 (.conv k) x0
def ea (g:Bool) (k:List LK) (x0 x1:EE α):EE α:=u2 (.eqa g k) x0 x1
def mm (g:Bool) (x0 x1:EE α):EE α:=u2 (.mm g) x0 x1
def a (k m:Nat) (x0 x1:EE α):EE α:=h2 (λa b=>.app a b k m) x0 x1
def al (c:List Value):EE α:=h0 (.alloc c) 
def ba (k:Nat) (c:List Value) (x0:EE α):EE α:=h1 (λa=>.bsl k c [(0,(k,a))] 1) x0
def c0 (i:Nat):EE α:=h0 (.call (.func i) []) 
def c1 (i:Nat) (x0:EE α):EE α:=h1 (λa=>.call (.func i) [a]) x0
def c2 (i:Nat) (x0 x1:EE α):EE α:=h2 (λa b=>.call (.func i) [a,b]) x0 x1
def c3 (i:Nat) (x0 x1 x2:EE α):EE α:=h3 (λa b c=>.call (.func i) [a,b,c]) x0 x1 x2
def c4 (i:Nat) (x0 x1 x2 x3:EE α):EE α:=h4 (λa b c d=>.call (.func i) [a,b,c,d]) x0 x1 x2 x3
def c5 (i:Nat) (x0 x1 x2 x3 x4:EE α):EE α:=h5 (λa b c d e=>.call (.func i) [a,b,c,d,e]) x0 x1 x2 x3 x4
def d1 (x0 x1:EE α):EE α:=h2 (λa b=>.call a [b]) x0 x1
def d2 (x0 x1 x2:EE α):EE α:=h3 (λa b c=>.call a [b,c]) x0 x1 x2
def d3 (x0 x1 x2 x3:EE α):EE α:=h4 (λa b c d=>.call a [b,c,d]) x0 x1 x2 x3
def q1 (z:List Value) (x0:EE α):EE α:=u1 (λa=>.bld z [(0,(1,a))]) x0
def q2 (z:List Value) (x0 x1:EE α):EE α:=u2 (λa b=>.bld z [(0,(1,a)),(1,(1,b))]) x0 x1
def q3 (z:List Value) (x0 x1 x2:EE α):EE α:=u3 (λa b c=>.bld z [(0,(1,a)),(1,(1,b)),(2,(1,c))]) x0 x1 x2
def q4 (z:List Value) (x0 x1 x2 x3:EE α):EE α:=u4 (λa b c d=>.bld z [(0,(1,a)),(1,(1,b)),(2,(1,c)),(3,(1,d))]) x0 x1 x2 x3
def j2 (z:List Value) (x0 x1:EE α):EE α:=h2 (λa b=>.bsl 1 z [(0,(1,a)),(1,(1,b))] 2) x0 x1
def j3 (z:List Value) (x0 x1 x2:EE α):EE α:=h3 (λa b c=>.bsl 1 z [(0,(1,a)),(1,(1,b)),(2,(1,c))] 3) x0 x1 x2
def j4 (z:List Value) (x0 x1 x2 x3:EE α):EE α:=h4 (λa b c d=>.bsl 1 z [(0,(1,a)),(1,(1,b)),(2,(1,c)),(3,(1,d))] 4) x0 x1 x2 x3
def ad (x0 x1:EE α):EE α:=B .add x0 x1
def sb (x0 x1:EE α):EE α:=B .sub x0 x1
def mu (x0 x1:EE α):EE α:=B .mul x0 x1
def qu (x0 x1:EE α):EE α:=B .quo x0 x1
def rm (x0 x1:EE α):EE α:=B .rem x0 x1
def ls (x0 x1:EE α):EE α:=B .lss x0 x1
def le (x0 x1:EE α):EE α:=B .leq x0 x1
def gt (x0 x1:EE α):EE α:=B .gtr x0 x1
def ge (x0 x1:EE α):EE α:=B .geq x0 x1
def eq (x0 x1:EE α):EE α:=B .eql x0 x1
def ne (x0 x1:EE α):EE α:=B .neq x0 x1
def t0:EE α:=t 0
def t1:EE α:=t 1
def t2:EE α:=t 2
def t3:EE α:=t 3
def t4:EE α:=t 4
def t5:EE α:=t 5
def t6:EE α:=t 6
def t7:EE α:=t 7
def t8:EE α:=t 8
def t9:EE α:=t 9
def v0:EE α:=v 0
def v1:EE α:=v 1
def v2:EE α:=v 2
def v3:EE α:=v 3
def v4:EE α:=v 4
def v5:EE α:=v 5
def v6:EE α:=v 6
def v7:EE α:=v 7
def v8:EE α:=v 8
def v9:EE α:=v 9
def v10:EE α:=v 10
def v11:EE α:=v 11
def v12:EE α:=v 12
def v13:EE α:=v 13
def v14:EE α:=v 14
def v15:EE α:=v 15
def v16:EE α:=v 16
def v17:EE α:=v 17
def v18:EE α:=v 18
def v19:EE α:=v 19
def v20:EE α:=v 20
def v21:EE α:=v 21
def v22:EE α:=v 22
def v25:EE α:=v 25
def v26:EE α:=v 26
def v27:EE α:=v 27
def v28:EE α:=v 28
def v29:EE α:=v 29
def v30:EE α:=v 30
def v33:EE α:=v 33
def v36:EE α:=v 36
def v37:EE α:=v 37
def v40:EE α:=v 40
def w0:EE α:=w 0
def w1:EE α:=w 1
def w2:EE α:=w 2
def w3:EE α:=w 3
end
def lis {α:Type} (em:HOper→α→α) (hv:List HOper→HOper→α→α) (z:α):List (EE α)→Nat→α
 | [],_=>z
 | x::l,d=>x em hv none (λ_ d=>lis em hv z l d) d
def ds (d:Nat):Nat→List Nat
 | 0=>[]
 | n+1=>(d+n)::ds d n
def kl:List Nat→Nat→Nat→List Nat
 | x::l,d,n=>x::kl l d n
 | [],d,n=>ds d n
def ap:List Nat→Nat→List Nat
 | x::l,d=>x::ap l d
 | [],d=>[d]
def S:List HC→HC
 | []=>.skip
 | a::[]=>a
 | a::b::l=>.seq a (S (b::l))
def E (d:Nat) (l:List (EE (List HOper))):HC:=.reg (lis (λo a=>o::a) (λ_ o a=>o::a) [] l d)
def E0 (l:List (EE (List HOper))):HC:=E 0 l
def i0 (j:Nat):HC:=.reg [⟨some j,.mov (.const (.int .i64 0)),none⟩]
def iz (j:Nat):HC:=.reg [⟨some j,.mov (.const (.slice none 0 0)),none⟩]
def R (d n:Nat) (xs:List Nat) (l:List (EE (List HOper))):HC:=.seq (E d l) (.kill (kl xs d n))
def R0 (d n:Nat) (l:List (EE (List HOper))):HC:=R d n [] l
def P (d:Nat) (l:List (EE HD)) (g:Bool):HC:=.regd (lis .q (λc o a=>.alt o c a .no) (.done g) l d)
def D (d n:Nat) (xs:List Nat) (l:List (EE HD)):HC:=.seq (P d l false) (.kill (kl xs d n))
def Z (xs:List Nat) (c:HC):HC:=.seq (.kill xs) c
def Ie (n:Nat) (xs:List Nat) (a:HC) (ys:List Nat) (b:HC):HC:=.cond (.tmp n) (.seq (.kill (ap xs n)) a) (.seq (.kill (ap ys n)) b)
def Iz (n:Nat) (xs:List Nat) (a:HC) (ys:List Nat):HC:=Ie n xs a ys .skip
def If (n:Nat) (xs:List Nat) (a:HC):HC:=Ie n xs a [] .skip
def C (n:Nat) (a b:HC):HC:=.cond (.tmp n) a b
def bw (n:Nat) (a:HC):HC:=.block n a
def lo (n:Nat) (a:HC):HC:=.block n (.loop [] a)
def ex (n:Nat):HC:=.exit n
def ow (j k:Nat):HC:=.own j none k
def oc (j c k:Nat):HC:=.own j (some c) k
def fo (i d n:Nat) (c:EE (List HOper)) (xs:List Nat) (j:Nat) (b:HC):HC :=
 lo i (.seq (.seq (R d n [] [c]) (Ie (d+n) [] .skip xs (.exit i))) (.seq (.block (i+1) b) (R (d+n+1) 2 [] [A j (ad (v j) w1)])))
def ra (i j:Nat) (m:EE (List HOper)) (n:Nat) (xs:List Nat) (e:Nat) (b:HC):HC :=
 lo i (.seq (E n [ls (t j) m]) (.seq (Ie n [] .skip xs (.exit i)) (.seq (.block (i+1) b) (R e 1 [] [A j (ad (t j) w1)]))))
end W
attribute [go_sem] W.A W.Ah W.B W.C W.D W.E W.E0 W.F W.G W.Ie W.If W.Iz W.J W.K W.L W.M W.N W.O W.P W.R W.R0 W.S W.T W.Y W.Yh W.Z W.a W.ad W.al W.ap W.b W.ba W.bw W.c0 W.c1 W.c2 W.c3 W.c4 W.c5 W.cc W.cw W.d1 W.d2 W.d3 W.ds W.e W.ea W.eq W.ex W.f W.fo W.ge W.gt W.h0 W.h1 W.h2 W.h3 W.h4 W.h5 W.i W.i0 W.iz W.j2 W.j3 W.j4 W.kc W.kl W.l W.le W.lis W.lo W.ls W.mm W.mu W.n W.ne W.o W.oc W.ow W.q1 W.q2 W.q3 W.q4 W.qu W.ra W.rm W.s W.sb W.t W.t0 W.t1 W.t2 W.t3 W.t4 W.t5 W.t6 W.t7 W.t8 W.t9 W.u W.u0 W.u1 W.u2 W.u3 W.u4 W.v W.v0 W.v1 W.v10 W.v11 W.v12 W.v13 W.v14 W.v15 W.v16 W.v17 W.v18 W.v19 W.v2 W.v20 W.v21 W.v22 W.v25 W.v26 W.v27 W.v28 W.v29 W.v3 W.v30 W.v33 W.v36 W.v37 W.v4 W.v40 W.v5 W.v6 W.v7 W.v8 W.v9 W.w W.w0 W.w1 W.w2 W.w3 W.x W.xh W.y W.z W.z0 W.zA W.zB W.zC W.zI W.zN W.zO W.zS W.zS5 W.zU W.zU3 W.zU4 W.zUU W.zf W.zi W.zl W.zm W.zo W.zq W.zt W.zu W.zv W.zw
abbrev F2:Nat:=1
abbrev ST:Nat:=0
abbrev Bx:Nat:=3
abbrev Cf:Nat:=13
abbrev tJ:Nat:=14
abbrev vI:Nat:=15
abbrev qK:Nat:=16
abbrev gH:Nat:=17
abbrev Cg:Nat:=18
abbrev Ch:Nat:=19
abbrev zL:Nat:=21
abbrev pB:Nat:=22
abbrev wQ:Nat:=24
abbrev iI:Nat:=26
abbrev iP:Nat:=27
abbrev AT:Nat:=28
abbrev tK:Nat:=29
abbrev vJ:Nat:=30
abbrev jQ:Nat:=31
abbrev gJ:Nat:=32
abbrev wR:Nat:=33
abbrev vK:Nat:=34
abbrev Ev:Nat:=35
abbrev pH:Nat:=36
abbrev wS:Nat:=37
abbrev Ew:Nat:=38
abbrev nV:Nat:=39
abbrev nA:Nat:=40
abbrev Ci:Nat:=41
abbrev pW:Nat:=42
abbrev D4:Nat:=48
abbrev xY:Nat:=50
abbrev rD:Nat:=51
abbrev nW:Nat:=52
abbrev bE:Nat:=53
abbrev cL:Nat:=54
abbrev tL:Nat:=55
abbrev Cj:Nat:=56
abbrev wE:Nat:=57
abbrev gB:Nat:=58
abbrev dO:Nat:=59
abbrev aT:Nat:=62
abbrev BC:Nat:=63
abbrev bB:Nat:=64
abbrev Ey:Nat:=65
abbrev pI:Nat:=66
abbrev Df:Nat:=67
abbrev aR:Nat:=70
abbrev cB:Nat:=71
abbrev pX:Nat:=72
abbrev wF:Nat:=73
abbrev nX:Nat:=74
abbrev xZ:Nat:=75
abbrev BD:Nat:=76
abbrev F3:Nat:=77
abbrev Ez:Nat:=78
abbrev tM:Nat:=79
abbrev E1:Nat:=80
abbrev BE:Nat:=81
abbrev vL:Nat:=82
abbrev vM:Nat:=83
abbrev tN:Nat:=84
abbrev Dg:Nat:=85
abbrev BF:Nat:=86
abbrev cG:Nat:=87
abbrev jV:Nat:=88
abbrev jW:Nat:=89
abbrev sJ:Nat:=90
abbrev dF:Nat:=91
abbrev E3:Nat:=92
abbrev F4:Nat:=93
abbrev nY:Nat:=94
abbrev BG:Nat:=95
abbrev WL:Nat:=96
abbrev zM:Nat:=97
abbrev wT:Nat:=98
abbrev kI:Nat:=99
abbrev bU:Nat:=107
abbrev iF:Nat:=108
abbrev pC:Nat:=109
abbrev E4:Nat:=110
abbrev iQ:Nat:=111
abbrev F5:Nat:=112
abbrev lI:Nat:=113
abbrev Ck:Nat:=114
abbrev kJ:Nat:=115
abbrev uL:Nat:=116
abbrev kO:Nat:=117
abbrev jR:Nat:=118
abbrev BH:Nat:=119
abbrev vN:Nat:=120
abbrev nB:Nat:=121
abbrev aU:Nat:=122
abbrev nC:Nat:=123
abbrev zP:Nat:=124
abbrev nD:Nat:=125
abbrev rE:Nat:=126
abbrev dV:Nat:=127
abbrev mN:Nat:=128
abbrev aW:Nat:=134
abbrev eB:Nat:=135
abbrev bV:Nat:=144
abbrev pJ:Nat:=145
abbrev wG:Nat:=146
abbrev rF:Nat:=147
abbrev gZ:Nat:=148
abbrev kK:Nat:=149
abbrev sK:Nat:=150
abbrev vO:Nat:=151
abbrev Cl:Nat:=152
abbrev BI:Nat:=153
abbrev Cm:Nat:=154
abbrev Cn:Nat:=155
abbrev yA:Nat:=156
abbrev I7:Nat:=157
abbrev Co:Nat:=158
abbrev I8:Nat:=159
abbrev iR:Nat:=160
abbrev sL:Nat:=161
abbrev nE:Nat:=162
abbrev qL:Nat:=163
abbrev yB:Nat:=164
abbrev fL:Nat:=165
abbrev BJ:Nat:=166
abbrev BK:Nat:=167
abbrev wU:Nat:=168
abbrev jF:Nat:=169
abbrev dI:Nat:=170
abbrev KJ:Nat:=171
abbrev IH:Nat:=172
abbrev BL:Nat:=180
abbrev Cp:Nat:=181
abbrev G5:Nat:=182
abbrev dT:Nat:=183
abbrev dX:Nat:=184
abbrev cE:Nat:=185
abbrev eZ:Nat:=186
abbrev dP:Nat:=187
abbrev vP:Nat:=188
abbrev Dh:Nat:=189
abbrev nZ:Nat:=190
abbrev BM:Nat:=191
abbrev cU:Nat:=192
abbrev Hu:Nat:=193
abbrev oJ:Nat:=194
abbrev dA:Nat:=209
abbrev pY:Nat:=210
abbrev mQ:Nat:=211
abbrev oB:Nat:=212
abbrev nF:Nat:=213
abbrev kF:Nat:=214
abbrev mG:Nat:=215
abbrev pD:Nat:=216
abbrev F6:Nat:=217
abbrev rG:Nat:=218
abbrev jX:Nat:=219
abbrev lW:Nat:=220
abbrev wH:Nat:=221
abbrev Cq:Nat:=222
abbrev BN:Nat:=223
abbrev sU:Nat:=224
abbrev yC:Nat:=225
abbrev BO:Nat:=226
abbrev yD:Nat:=227
abbrev kP:Nat:=228
abbrev bW:Nat:=229
abbrev bC:Nat:=240
abbrev dJ:Nat:=241
abbrev gP:Nat:=242
abbrev sV:Nat:=243
abbrev kQ:Nat:=244
abbrev sM:Nat:=245
abbrev sW:Nat:=246
abbrev sX:Nat:=247
abbrev vQ:Nat:=248
abbrev pK:Nat:=249
abbrev BP:Nat:=250
abbrev lJ:Nat:=251
abbrev hZ:Nat:=252
abbrev fP:Nat:=253
abbrev yE:Nat:=254
abbrev yF:Nat:=255
abbrev Di:Nat:=256
abbrev kR:Nat:=257
abbrev vR:Nat:=258
abbrev qM:Nat:=259
abbrev bL:Nat:=260
abbrev iS:Nat:=261
abbrev dK:Nat:=262
abbrev pZ:Nat:=263
abbrev dQ:Nat:=264
abbrev rH:Nat:=265
abbrev tO:Nat:=266
abbrev oC:Nat:=267
abbrev pL:Nat:=268
abbrev uM:Nat:=269
abbrev BQ:Nat:=270
abbrev oK:Nat:=271
abbrev tQ:Nat:=272
abbrev wV:Nat:=273
abbrev Cr:Nat:=274
abbrev tR:Nat:=275
abbrev nG:Nat:=276
abbrev zQ:Nat:=277
abbrev jG:Nat:=287
abbrev Dj:Nat:=288
abbrev BR:Nat:=289
abbrev cM:Nat:=290
abbrev gQ:Nat:=291
abbrev iJ:Nat:=292
abbrev tS:Nat:=293
abbrev tT:Nat:=294
abbrev dB:Nat:=295
abbrev qA:Nat:=296
abbrev mR:Nat:=297
abbrev oD:Nat:=298
abbrev nH:Nat:=299
abbrev kG:Nat:=300
abbrev mH:Nat:=301
abbrev pE:Nat:=302
abbrev dL:Nat:=315
abbrev gC:Nat:=316
abbrev gD:Nat:=317
abbrev kS:Nat:=318
abbrev dW:Nat:=319
abbrev iA:Nat:=320
abbrev eQ:Nat:=321
abbrev cV:Nat:=322
abbrev fQ:Nat:=323
abbrev cH:Nat:=324
abbrev dY:Nat:=325
abbrev iB:Nat:=326
abbrev eR:Nat:=327
abbrev fA:Nat:=328
abbrev kT:Nat:=329
abbrev jP:Nat:=330
abbrev Cs:Nat:=331
abbrev uN:Nat:=332
abbrev rI:Nat:=333
abbrev eC:Nat:=343
abbrev iL:Nat:=344
abbrev fB:Nat:=345
abbrev dR:Nat:=346
abbrev cS:Nat:=347
abbrev yG:Nat:=348
abbrev iM:Nat:=349
abbrev rJ:Nat:=350
abbrev sY:Nat:=373
abbrev mO:Nat:=374
abbrev sZ:Nat:=375
abbrev EM:Nat:=376
abbrev EN:Nat:=377
abbrev EO:Nat:=378
abbrev EP:Nat:=379
abbrev pM:Nat:=381
abbrev EQ:Nat:=382
abbrev ES:Nat:=383
end
section
open W
def KK:cF iP []=some ⟨21,[(4,none)],S [R 4 1 [0,1] [J 2 (b t0),b t1,M w0],S [i0 5,fo 0 6 4 (ls v5 (n (l (f 2 t2)))) [2,5,3] 5 (S [D 13 6 [] [ea false [.int .i64,.int .i64,.int .u64] (L 3 (i 3 (l (f 2 t2)) v5)) (L 3 t3)],If 19 [3,2] (S [R 20 1 [5] [A 4 v5],.ret])])],E0 [A 4 (w (-1))],.ret]⟩:=by kernel_rfl
def L0:cF BI []=some ⟨28,[(4,some (some 5)),(5,none)],S [R 5 1 [0] [J 2 (b t0),J 4 (al zC),M F],S [i0 6,fo 0 7 4 (ls v6 (n (l (f 0 t2)))) [2,6,1] 6 (S [R0 14 7 [eq (l (f 0 (i 5 (l (f 0 t2)) v6))) v1],If 21 [1] (S [R 22 5 [2,6] [s 5 t4 (L 5 (i 5 (l (f 0 t2)) v6)),A 5 T],.ret])])],R0 27 1 [s 5 t4 (x (.bld zC [])),A 5 F],.ret]⟩:=by kernel_rfl
def OP:cF AT []=some ⟨5,[(2,some (some 5))],S [E 2 [al zS5],R 3 2 [0] [s 5 t2 (q1 zS5 v0)],.ret]⟩:=by kernel_rfl
def KL:cF tK [(2,none,5),(3,none,5)]=some ⟨33,[(2,none)],S [R0 2 1 [M z],S [iz 3,ow 3 5],S [i0 4,fo 0 6 3 (ls v4 (n v0)) [4,0] 4 (S [R0 12 2 [A 5 (ad v4 w1)],D 14 18 [5] [v3,v5,l (i 1 v0 v4),v5,J 23 v5,J 26 v5,J 21 (K [zm 26 5,zm 23 5,zl 19 18,zi 18 16 17 1,zm 17 4,zm 16 0,zm 15 5,zm 14 3] (c2 nX (kc (.const (.string (Hud.bs [108,101,97,100])))) (t 20))),K [zm 26 5,zm 23 5,zl 19 18,zi 18 16 17 1,zm 17 4,zm 16 0,zm 15 5,zm 14 3] (c1 wF (t 21)),J 24 (K [zm 26 5,zl 19 18,zi 18 16 17 1,zm 17 4,zm 16 0,zm 15 5,zm 14 3] (c2 nX (kc (.const (.string (Hud.bs [107,101,101,112])))) (t 23))),K [zm 26 5,zl 19 18,zi 18 16 17 1,zm 17 4,zm 16 0,zm 15 5,zm 14 3] (c1 wF (t 24)),J 27 (K [zl 19 18,zi 18 16 17 1,zm 17 4,zm 16 0,zm 15 5,zm 14 3] (c2 nX (kc (.const (.string (Hud.bs [115,105,103,110])))) (t 26))),K [zl 19 18,zi 18 16 17 1,zm 17 4,zm 16 0,zm 15 5,zm 14 3] (c1 wF (t 27)),Ah 3 (a 5 40 (t 14) (K [zm 14 3] (ba 5 zC (x (.bld zC [(0,(1,zt 15)),(1,(1,zt 19)),(2,(1,zt 22)),(3,(1,zt 25)),(4,(1,zt 28))])))))],ow 3 5])],S [R 32 1 [3] [A 2 v3],ow 2 5],.ret]⟩:=by kernel_rfl
def II:cF gJ []=some ⟨11,[(2,some (some 27))],S [R 1 0 [0] [b t0,al zO],D 3 7 [] [l (f 0 t1),J 6 (L 27 t1),J 5 (K [zv 6 27 1] (c2 nX (kc (.const (.string (Hud.bs [115,105,103,110])))) t4)),J 7 (c2 Ez t5 (c1 tM t6)),s 2 (f 25 t1) t8],R 10 1 [1] [s 27 t2 (L 27 t1)],.ret]⟩:=by kernel_rfl
def OQ:cF jQ [(11,none,1),(75,none,1001),(83,none,1001),(9,some 4,1)]=some ⟨87,[(4,some (some 5)),(5,none)],S [R 5 1 [0,1] [J 2 (b t0),b t1,al zS5,M w0],R 13 3 [17,16,12] [c2 xZ (L 5 t2) (L 27 t3),J 12 v15,J 16 (e 0 (t 12)),e 1 (t 12),A 6 (t 16),A 7 (t 17)],S [R0 18 1 [ne v6 w0],Iz 19 [7,3] (S [R 20 2 [2,6] [L 5 t2,v6,s 5 t4 (t 20),A 5 (t 21)],.ret]) [6]],R0 22 3 [A 8 (c2 BD (L 5 t2) v7)],S [E 9 [al zS5],oc 9 4 1],R0 25 3 [l (f 0 t2),s 1 (f 0 t9) (t 26)],S [.regd (zq (zf 28 9 1) (zq (zl 29 28) (zq (zf 30 2 1) (zq (zl 31 30) (zq (zv 33 27 3) (zA (zo 32 (.app (zt 29) (zt 31) 27 328)) [zv 33 27 3] (zA (zo 34 (.bsl 27 zO [(0,(27,zt 33))] 1)) [] (zA (zo 35 (.app (zt 32) (zt 34) 27 328)) [] (zq (zf 36 9 1) (zA (⟨none,.st 1 (zt 36) (zt 35),none⟩) [] (.done true) .no)) .no) .no) (zA (zo 34 (.bsl 27 zO [(0,(27,zt 33))] 1)) [zl 31 30,zf 30 2 1,zl 29 28,zf 28 9 1] (zA (zo 32 (.app (zt 29) (zt 31) 27 328)) [] (zA (zo 35 (.app (zt 32) (zt 34) 27 328)) [] (zq (zf 36 9 1) (zA (⟨none,.st 1 (zt 36) (zt 35),none⟩) [] (.done true) .no)) .no) .no) .no))))))),.kill [36,35,34,33,32,31,30,29,28]],D 37 10 [3] [l (f 2 t9),l (f 2 t2),J 42 (L 27 t3),J 41 (K [zv 42 27 3] (a 3 24 (t 38) (t 40))),J 43 (a 3 24 (t 41) (ba 3 zI (c1 F3 (t 42)))),s 1 (f 2 t9) (t 45)],R 47 9 [7] [a 1 24 (a 1 24 (l (f 3 t9)) (l (f 3 t2))) (ba 1 [zS] v7),s 1 (f 3 t9) (t 54)],S [i0 10,fo 0 56 4 (ls v10 (n (l (f 4 t2)))) [10,2] 10 (S [S [iz 11,ow 11 1],S [R0 63 7 [A 11 (a 1 1 v11 (l (i 1 (l (f 4 t2)) v10)))],ow 11 1],D 70 8 [11] [l (f 4 t9),v11,K [zm 72 11,zl 71 70,zf 70 9 4] (ba 1 [.bool false] F),K [zl 71 70,zf 70 9 4] (a 1 1 (t 72) (t 73)),a 1 24 (t 71) (K [zl 71 70,zf 70 9 4] (xh (.bslS 1 [zS] [(0,(1,zt 74))] 1))),s 1 (f 4 t9) (t 76)]])],D 78 8 [8] [l (f 4 t9),v8,K [zm 80 8,zl 79 78,zf 78 9 4] (ba 1 [.bool false] F),K [zl 79 78,zf 78 9 4] (a 1 1 (t 80) (t 81)),a 1 24 (t 79) (K [zl 79 78,zf 78 9 4] (xh (.bslS 1 [zS] [(0,(1,zt 82))] 1))),s 1 (f 4 t9) (t 84)],R 86 1 [9] [s 5 t4 (L 5 t9),A 5 w0],.ret]⟩:=by kernel_rfl
def F7:cF qK []=some ⟨6,[(2,none)],S [R 2 1 [0] [J 1 (b t0),M z],R 3 3 [1] [c1 nW (l (f 2 t1)),J 2 v5],.ret]⟩:=by kernel_rfl
def L2:cF pW []=some ⟨41,[(4,none)],S [R 4 1 [0] [J 2 (b t0),J 4 (M z)],R0 7 3 [A 5 (c2 wT (L 5 t2) v1)],S [i0 6,fo 0 10 3 (ls v6 (n v1)) [2,1,6] 6 (S [D 16 15 [] [N (ge (c2 iP (L 5 t2) (L 3 (i 3 v1 v6))) w0) (o (c2 nA v5 (L 3 (i 3 v1 v6))))],If 31 [] (R0 32 7 [A 5 (a 3 24 v5 (ba 3 zI (L 3 (i 3 v1 v6))))])])],R 39 2 [5] [A 4 (c1 nW v5)],.ret]⟩:=by kernel_rfl
def IJ:cF nX []=some ⟨10,[(4,none)],S [R0 4 1 [M (u 0)],R 5 5 [0,1] [c2 vO v0 (ba 1 [zU] (cw .u64 v1)),J 4 v9],.ret]⟩:=by kernel_rfl
def KM:cF tN [(6,none,3)]=some ⟨51,[(4,none)],S [R 4 1 [0] [J 2 (b t0),J 4 (M z)],R0 8 3 [A 5 (c2 wT (L 5 t2) v1)],S [iz 6,ow 6 3],S [i0 7,fo 0 11 3 (ls v7 (n v1)) [2,1,7,5] 7 (S [D 17 24 [] [N (N (ge (c2 iP (L 5 t2) (L 3 (i 3 v1 v7))) w0) (o (c2 nA v5 (L 3 (i 3 v1 v7))))) (o (c2 nA v6 (L 3 (i 3 v1 v7))))],If 41 [] (S [R0 42 7 [A 6 (a 3 24 v6 (ba 3 zI (L 3 (i 3 v1 v7))))],ow 6 3])])],R 49 2 [6] [A 4 (c1 nW v6)],.ret]⟩:=by kernel_rfl
def OR:cF Dg []=some ⟨31,[(6,none)],S [R 3 1 [0,6] [b t0,A 6 w0],i0 7,S [i0 8,fo 0 9 3 (ls v8 (n v1)) [1,8,2] 8 (S [R0 15 6 [eq (l (f 0 (i 3 v1 v8))) v2],If 21 [] (R0 22 7 [A 7 (mm true v7 (l (f 1 (i 3 v1 v8))))])])],R 29 2 [7] [A 6 (ad v7 w1)],.ret]⟩:=by kernel_rfl
def L3:cF BF []=some ⟨31,[(4,none)],S [R 4 1 [0] [J 2 (b t0),J 4 (M w0)],i0 5,S [i0 6,fo 0 8 3 (ls v6 (n v1)) [2,1,6] 6 (S [D 14 6 [] [A 7 (c2 iP (L 5 t2) (L 3 (i 3 v1 v6)))],R0 20 1 [ge v7 w0],Iz 21 [] (R 22 8 [7] [A 5 (mm true v5 (l (f 3 (i 27 (l (f 1 t2)) v7))))]) [7]])],R 30 1 [5] [A 4 v5],.ret]⟩:=by kernel_rfl
def KN:cF tM [(2,none,1)]=some ⟨169,[(2,none)],S [R 2 1 [0] [J 1 (b t0),M z],R0 7 13 [l (f 0 t1),l (f 1 t1),l (f 2 t1),l (f 3 t1),n (l (f 4 t1)),A 3 (c1 sL (x (.bsl 1 [z0,z0,z0,z0,z0] [(0,(1,zt 8)),(1,(1,zt 10)),(2,(1,zt 12)),(3,(1,zt 14)),(4,(1,zt 17))] 5)))],S [i0 4,fo 0 20 4 (ls v4 (n (l (f 4 t1)))) [4] 4 (R0 27 8 [A 3 (a 1 1 v3 (c1 nE (L 3 (i 3 (l (f 4 t1)) v4))))])],R0 35 15 [v3,l (f 5 t1),l (f 6 t1),l (f 7 t1),l (f 8 t1),n (l (f 9 t1)),A 3 (a 1 1 (t 35) (c1 sL (x (.bsl 1 [z0,z0,z0,z0,z0] [(0,(1,zt 37)),(1,(1,zt 39)),(2,(1,zt 41)),(3,(1,zt 43)),(4,(1,zt 46))] 5))))],S [i0 5,fo 2 50 4 (ls v5 (n (l (f 9 t1)))) [5] 5 (S [R0 57 9 [A 3 (a 1 1 v3 (c1 qL (l (f 0 (i 2 (l (f 9 t1)) v5)))))],R0 66 9 [A 3 (a 1 1 v3 (c1 yB (l (f 1 (i 2 (l (f 9 t1)) v5)))))]])],R0 75 5 [A 3 (a 1 1 v3 (c1 nE (L 3 (f 10 t1))))],R0 80 5 [A 3 (a 1 1 v3 (c1 fL (l (f 13 t1))))],R0 85 6 [v3,l (f 14 t1),A 3 (a 1 1 (t 85) (c1 BJ (x (.b2s (zt 87)))))],R0 91 6 [A 3 (a 1 1 v3 (c1 fL (n (l (f 15 t1)))))],R0 97 5 [A 3 (a 1 1 v3 (c1 BK (l (f 15 t1))))],R0 102 5 [A 3 (a 1 1 v3 (c1 nE (L 3 (f 16 t1))))],R0 107 6 [A 3 (a 1 1 v3 (c1 fL (n (l (f 19 t1)))))],R0 113 5 [A 3 (a 1 1 v3 (c1 sL (l (f 19 t1))))],R0 118 8 [A 3 (a 1 1 v3 (c1 sL (j2 [z0,z0] (l (f 20 t1)) (l (f 21 t1)))))],R0 126 5 [A 3 (a 1 1 v3 (c1 yB (l (f 22 t1))))],R0 131 5 [A 3 (a 1 1 v3 (c1 qL (l (f 23 t1))))],R0 136 6 [A 3 (a 1 1 v3 (c1 fL (n (l (f 24 t1)))))],S [i0 6,fo 4 142 4 (ls v6 (n (l (f 24 t1)))) [1,6] 6 (S [R0 149 9 [A 3 (a 1 1 v3 (c1 nE (L 3 (f 0 (i 4 (l (f 24 t1)) v6)))))],R0 158 10 [v3,l (f 3 (i 4 (l (f 24 t1)) v6)),A 3 (a 1 1 (t 158) (c1 BJ (x (.b2s (zt 164)))))]])],S [R 168 1 [3] [A 2 v3],ow 2 1],.ret]⟩:=by kernel_rfl
def KO:cF xZ [(5,none,1),(10,none,1)]=some ⟨122,[(4,none),(5,none)],S [R 4 2 [0,1] [J 2 (b t0),b t1,M w0,M z],R0 15 2 [A 6 (c1 Cl (L 27 t3))],S [R0 17 1 [ne v6 w0],Iz 18 [2,3] (S [S [R 19 1 [6] [A 4 v6,A 5 z],ow 5 1],.ret]) [6]],S [D 20 4 [] [ge (c2 iP (L 5 t2) (K [zv 20 5 2] (c1 F3 (L 27 t3)))) w0],If 24 [2,3] (S [S [E0 [A 4 (w 5),A 5 z],ow 5 1],.ret])],S [R0 25 3 [ge (n (l (f 1 t2))) (w 200)],If 28 [2,3] (S [S [E0 [A 4 w3,A 5 z],ow 5 1],.ret])],R 30 4 [35,34,29] [c2 BI (L 5 t2) (l (f 0 t3)),J 29 v33,J 34 (e 0 (t 29)),e 1 (t 29),J 7 (s 5 (al zC) (t 34)),A 8 (t 35)],S [R 36 1 [8] [o v8],If 37 [7,3,2] (S [S [E0 [A 4 (w 17),A 5 z],ow 5 1],.ret])],D 38 7 [7] [l (f 4 t7),L 27 t3,J 42 (L 2 (f 25 t3)),J 41 (K [zv 43 2 42,zf 42 3 25,zl 39 38,zf 38 7 4] (c1 tM (t 40))),J 44 (A 9 (c3 Cm (t 39) (t 41) (t 43)))],S [R 45 1 [9] [o v9],If 46 [3,2] (S [S [E0 [A 4 (w 12),A 5 z],ow 5 1],.ret])],S [R0 47 8 [N (eq (l (f 2 t3)) w1) (gt (n (l (f 1 t2))) w0)],If 55 [3,2] (S [S [E0 [A 4 w1,A 5 z],ow 5 1],.ret])],S [iz 10,ow 10 1],S [i0 11,fo 0 56 4 (ls v11 (n (l (f 4 t3)))) [11] 11 (S [D 63 7 [] [A 12 (c2 iP (L 5 t2) (L 3 (i 3 (l (f 4 t3)) v11)))],S [R0 70 1 [ls v12 w0],If 71 [10,12,3,2,11] (S [S [E0 [A 4 (w 10),A 5 z],ow 5 1],.ret])],R 72 4 [12] [A 10 (a 1 8 v10 (ba 1 [z0] v12))],ow 10 1])],S [i0 13,fo 2 76 3 (ls v13 (n v10)) [13] 13 (S [S [i0 14,fo 4 82 3 (ls v14 (n v10)) [14] 14 (S [D 88 13 [] [l (i 1 (l (i 1 (l (f 4 t2)) (l (i 1 v10 v13)))) (l (i 1 v10 v14)))],If 101 [14,13,2,3,10] (S [S [E0 [A 4 (w 6),A 5 z],ow 5 1],.ret])])],D 102 11 [] [ls (l (f 3 t3)) (l (f 3 (i 27 (l (f 1 t2)) (l (i 1 v10 v13)))))],If 113 [13,3,2,10] (S [S [E0 [A 4 (w 6),A 5 z],ow 5 1],.ret])])],S [D 114 6 [2,3] [o (c3 Cn (L 5 t2) (L 27 t3) (K [zv 115 27 3,zv 114 5 2] (c2 BD (L 5 t2) v10)))],If 120 [10] (S [S [E0 [A 4 (w 11),A 5 z],ow 5 1],.ret])],S [R 121 1 [10] [v10,A 4 w0,A 5 (t 121)],ow 5 1],.ret]⟩:=by kernel_rfl
def L4:cF BD [(4,none,1)]=some ⟨51,[(4,none)],S [R 4 1 [0] [J 2 (b t0),J 4 (M z)],R0 8 4 [n (l (f 1 t2)),A 5 (x (.mks 1 [.bool false] 1 (zt 10) (zt 10)))],S [R0 12 4 [A 6 (sb (n (l (f 1 t2))) w1)],lo 0 (S [S [R0 16 1 [ge v6 w0],Ie 17 [] .skip [1,6,2] (ex 0)],bw 1 (S [S [R0 20 2 [c2 Df v1 v6],If 22 [] (R0 23 3 [s 1 (i 1 v5 v6) T])],R0 26 3 [l (i 1 v5 v6)],If 29 [] (S [i0 7,fo 2 30 7 (ls v7 (n (l (i 1 (l (f 3 t2)) v6)))) [7] 7 (R0 40 10 [s 1 (i 1 v5 (l (i 1 (l (i 1 (l (f 3 t2)) v6)) v7))) T])])]),R0 18 2 [A 6 (sb v6 w1)]])],S [R 50 1 [5] [A 4 v5],ow 4 1],.ret]⟩:=by kernel_rfl
def QQ:cF F3 []=some ⟨11,[(2,some (some 3))],S [R 1 0 [0] [b t0,al zI],D 3 8 [1] [l (f 0 t1),l (f 1 t1),K [zl 6 5,zf 5 1 1,zl 4 3,zf 3 1 0] (c1 tM (L 27 t1)),s 3 t2 (q3 zI t4 t6 (K [zl 6 5,zf 5 1 1,zl 4 3,zf 3 1 0] (c2 yA (kc (.const (.string (Hud.bs [111,112])))) t8)))],.ret]⟩:=by kernel_rfl
def L5:cF wT [(5,none,3)]=some ⟨56,[(4,none)],S [R 4 1 [0] [J 2 (b t0),J 4 (M z)],S [iz 5,ow 5 3],S [i0 6,fo 0 10 4 (ls v6 (n (l (f 1 t2)))) [1,2,6] 6 (S [E0 [A 7 F],S [i0 8,fo 2 17 3 (ls v8 (n v1)) [8] 8 (S [D 23 6 [] [A 9 (c2 iP (L 5 t2) (L 3 (i 3 v1 v8)))],R 29 16 [9] [A 7 (O v7 (N (ge v9 w0) (l (i 1 (l (i 1 (l (f 4 t2)) (mm true v9 w0))) v6))))]])],R 0 0 [7] [A 45 t7],If 45 [] (S [R0 46 8 [A 5 (a 3 24 v5 (ba 3 zI (L 3 (i 3 (l (f 2 t2)) v6))))],ow 5 3])])],R 54 2 [5] [A 4 (c1 nW v5)],.ret]⟩:=by kernel_rfl
def IK:cF BR []=some ⟨21,[(2,none)],S [R0 2 1 [M F],R 3 18 [0] [O (O (O (O (eq v0 w1) (eq v0 w2)) (eq v0 w3)) (eq v0 (w 4))) (eq v0 (w 13)),J 2 v20],.ret]⟩:=by kernel_rfl
def L6:cF sL [(2,none,1),(3,none,1)]=some ⟨19,[(2,none)],S [R0 2 1 [M z],S [iz 3,ow 3 1],S [i0 4,fo 0 5 3 (ls v4 (n v0)) [0,4] 4 (S [R0 11 7 [A 3 (a 1 1 v3 (c1 fL (l (i 1 v0 v4))))],ow 3 1])],S [R 18 1 [3] [A 2 v3],ow 2 1],.ret]⟩:=by kernel_rfl
def KP:cF yB [(2,none,1)]=some ⟨39,[(2,none)],S [R0 2 1 [M z],R0 5 3 [A 3 (c1 fL (n v0))],S [i0 4,fo 0 8 3 (ls v4 (n v0)) [0,4] 4 (D 14 24 [] [v3,K [zm 14 3] (j4 zU4 (l (f 0 (i 4 v0 v4))) (l (f 1 (i 4 v0 v4))) (l (f 2 (i 4 v0 v4))) (l (f 3 (i 4 v0 v4)))),Ah 3 (a 1 1 (t 14) (K [zm 14 3] (c1 BK (t 35))))])],S [R 38 1 [3] [A 2 v3],ow 2 1],.ret]⟩:=by kernel_rfl
def L7:cF BK [(2,none,1),(3,none,1)]=some ⟨19,[(2,none)],S [R0 2 1 [M z],S [iz 3,ow 3 1],S [i0 4,fo 0 5 3 (ls v4 (n v0)) [0,4] 4 (S [R0 11 7 [A 3 (a 1 1 v3 (c1 qL (l (i 1 v0 v4))))],ow 3 1])],S [R 18 1 [3] [A 2 v3],ow 2 1],.ret]⟩:=by kernel_rfl
def KQ:cF Cl []=some ⟨73,[(2,none)],S [R 2 1 [0] [J 1 (b t0),M w0],S [R0 5 7 [O (ls (l (f 2 t1)) w1) (gt (l (f 2 t1)) (w 13))],If 12 [1] (S [E0 [A 2 w1],.ret])],S [R0 13 2 [o (c1 BN (L 27 t1))],If 15 [1] (S [E0 [A 2 w1],.ret])],S [R0 16 7 [O (o (c1 sU (L 27 t1))) (o (c1 yC (L 27 t1)))],If 23 [1] (S [E0 [A 2 (w 8)],.ret])],S [R0 24 1 [c1 BO (L 27 t1)],If 25 [1] (S [E0 [A 2 w2],.ret])],S [E0 [A 3 w1],fo 0 26 4 (ls v3 (n (l (f 4 t1)))) [3] 3 (S [D 33 12 [] [o (c2 BH (L 3 (i 3 (l (f 4 t1)) (sb v3 w1))) (L 3 (i 3 (l (f 4 t1)) v3)))],If 45 [3,1] (S [E0 [A 2 (w 6)],.ret])])],S [E0 [A 4 w1],fo 2 46 4 (ls v4 (n (l (f 19 t1)))) [4] 4 (S [D 53 11 [] [ge (l (i 1 (l (f 19 t1)) (sb v4 w1))) (l (i 1 (l (f 19 t1)) v4))],If 64 [4,1] (S [E0 [A 2 (w 6)],.ret])])],S [R 65 7 [1] [eq (n (l (f 4 t1))) w0,eq (l (f 2 t1)) w1,x (.eqb true (zt 68) (zt 71))],If 72 [] (S [E0 [A 2 (w 10)],.ret])],i0 2,.ret]⟩:=by kernel_rfl
def KR:cF Cn []=some ⟨60,[(6,none)],S [R 6 1 [0,1] [J 3 (b t0),b t1,J 6 (M F)],E0 [A 7 F],S [i0 8,fo 0 9 4 (ls v8 (n (l (f 1 t3)))) [2,8,3] 8 (S [S [D 16 15 [] [O (o (l (i 1 v2 v8))) (ne (l (f 0 (i 27 (l (f 1 t3)) v8))) (l (f 0 t4)))],If 31 [] (ex 1)],S [D 32 8 [] [ge (l (f 1 (i 27 (l (f 1 t3)) v8))) (l (f 1 t4))],If 40 [7,3,8,4,2] (S [E0 [A 6 F],.ret])],D 41 13 [] [Ah 7 (O v7 (eq (l (f 1 (i 27 (l (f 1 t3)) v8))) (sb (l (f 1 t4)) w1)))]])],R 54 6 [4,7] [A 6 (O (eq (l (f 1 t4)) w1) v7)],.ret]⟩:=by kernel_rfl
def L8:cF BN []=some ⟨190,[(2,none)],S [R 2 1 [0] [J 1 (b t0),M F],R0 5 2 [A 3 (l (f 2 t1))],R0 7 22 [A 4 (O (O (O (O (O (eq v3 (w 7)) (eq v3 (w 8))) (eq v3 (w 12))) (eq v3 (w 10))) (eq v3 (w 11))) (eq v3 (w 13)))],S [R0 29 18 [N (N (N (N (ne (l (f 5 t1)) w0) (ne v3 w2)) (ne v3 w3)) (ne v3 (w 11))) (ne v3 (w 13))],If 47 [1,3,4] (S [E0 [A 2 F],.ret])],S [R0 48 32 [O (O (N (ne (l (f 6 t1)) w0) (ne v3 (w 13))) (N (N (ne (l (f 7 t1)) w0) (ne v3 w3)) (ne v3 (w 5)))) (N (N (ne (l (f 8 t1)) w0) (ne v3 w2)) (ne v3 (w 5)))],If 80 [1,3,4] (S [E0 [A 2 F],.ret])],S [R0 81 8 [N (gt (n (l (f 9 t1))) w0) (o (c1 BR v3))],If 89 [3,1,4] (S [E0 [A 2 F],.ret])],S [R0 90 18 [N (ne v3 (w 6)) (O (O (ea true [.int .i64,.int .i64,.int .u64] (L 3 (f 10 t1)) (x (.bld zI []))) (ne (l (f 13 t1)) w0)) (gt (n (l (f 15 t1))) w0))],If 108 [1,3,4] (S [E0 [A 2 F],.ret])],S [R 109 21 [4] [O (N (N (gt (n (l (f 14 t1))) w0) (ne v3 (w 6))) (ne v3 (w 7))) (N (ea true [.int .i64,.int .i64,.int .u64] (L 3 (f 16 t1)) (x (.bld zI []))) (o v4))],If 130 [3,1] (S [E0 [A 2 F],.ret])],S [R0 131 17 [N (ne v3 (w 9)) (O (O (gt (n (l (f 19 t1))) w0) (ne (l (f 21 t1)) w0)) (ne (l (f 23 t1)) (u 0)))],If 148 [1,3] (S [E0 [A 2 F],.ret])],S [R0 149 28 [O (N (N (ne (l (f 20 t1)) w0) (ne v3 (w 9))) (ne v3 w1)) (N (N (N (gt (n (l (f 22 t1))) w0) (ne v3 (w 9))) (ne v3 (w 10))) (ne v3 (w 11)))],If 177 [1,3] (S [E0 [A 2 F],.ret])],R 178 12 [1,3] [A 2 (O (O (eq (n (l (f 24 t1))) w0) (eq v3 w2)) (eq v3 (w 13)))],.ret]⟩:=by kernel_rfl
def G6:cF sU []=some ⟨124,[(2,none)],S [R 2 1 [0] [J 1 (b t0),M F],S [R0 3 15 [O (O (o (c3 cM (l (f 0 t1)) w1 (w 12))) (o (c3 cM (l (f 1 t1)) w1 (w 2147483647)))) (o (c3 cM (l (f 3 t1)) w0 (w 2147483647)))],If 18 [1] (S [E0 [A 2 F],.ret])],S [R0 19 1 [l (f 2 t1)],bw 0 (S [R0 22 1 [eq (t 20) w1,J 21 v22],Ie 21 [20] (S [R 23 3 [1] [A 2 (c3 cM (l (f 20 t1)) w0 (w 20))],.ret]) [] (S [R0 27 1 [eq (t 20) w2,J 26 v27],Ie 26 [20] (S [R 28 8 [1] [A 2 (N (c3 cM (l (f 5 t1)) w1 (w 12)) (c3 cM (l (f 8 t1)) w1 w3))],.ret]) [] (S [R0 37 1 [eq (t 20) w3,J 36 v37],Ie 36 [20] (S [R 38 18 [1] [A 2 (O (N (c3 cM (l (f 5 t1)) w1 (w 12)) (eq (l (f 7 t1)) w0)) (N (eq (l (f 5 t1)) w0) (c3 cM (l (f 7 t1)) w1 (w 8))))],.ret]) [] (S [R0 57 1 [eq (t 20) (w 5),J 56 (v 57)],Ie 56 [20] (S [R 58 8 [1] [A 2 (N (c3 cM (l (f 7 t1)) w1 (w 8)) (c3 cM (l (f 8 t1)) w1 w3))],.ret]) [] (S [R0 67 1 [eq (t 20) (w 6),J 66 (v 67)],Ie 66 [20] (S [R 68 8 [1] [A 2 (N (c1 gQ (L 3 (f 10 t1))) (c3 cM (l (f 13 t1)) w0 (w 2147483647)))],.ret]) [] (S [R0 77 1 [eq (t 20) (w 9),J 76 (v 77)],Ie 76 [20] (S [R 78 16 [1] [A 2 (N (N (c3 cM (l (f 20 t1)) w1 (n (l (f 19 t1)))) (c3 cM (l (f 21 t1)) w0 (w 2147483647))) (c1 iJ (l (f 23 t1))))],.ret]) [] (S [R0 95 1 [eq (t 20) (w 11),J 94 (v 95)],Ie 94 [20] (S [R 96 8 [1] [A 2 (N (c1 gQ (L 3 (f 16 t1))) (c3 cM (l (f 5 t1)) w1 (w 12)))],.ret]) [] (S [R0 105 1 [eq (t 20) (w 13),J 104 (v 105)],Ie 104 [20] (S [R 106 13 [1] [A 2 (N (N (c1 gQ (L 3 (f 16 t1))) (c3 cM (l (f 5 t1)) w1 (w 12))) (c3 cM (l (f 6 t1)) w1 (w 12)))],.ret]) [] (S [R 120 1 [20] [eq (t 20) (w 4),J 119 (v 120)],If 119 [1] (S [E0 [A 2 T],.ret])])])])])])])])])])],R 121 3 [1] [A 2 (c1 gQ (L 3 (f 16 t1)))],.ret]⟩:=by kernel_rfl
def KS:cF yC []=some ⟨93,[(2,none)],S [R 2 1 [0] [J 1 (b t0),M F],S [i0 3,fo 0 8 4 (ls v3 (n (l (f 19 t1)))) [3] 3 (S [R0 15 6 [o (c3 cM (l (i 1 (l (f 19 t1)) v3)) w1 (w 12))],If 21 [3,1] (S [E0 [A 2 F],.ret])])],S [i0 4,fo 2 22 4 (ls v4 (n (l (f 15 t1)))) [4] 4 (S [R0 29 6 [o (c1 tS (l (i 1 (l (f 15 t1)) v4)))],If 35 [4,1] (S [E0 [A 2 F],.ret])])],S [i0 5,fo 4 36 4 (ls v5 (n (l (f 4 t1)))) [5] 5 (S [R0 43 6 [o (c1 gQ (L 3 (i 3 (l (f 4 t1)) v5)))],If 49 [5,1] (S [E0 [A 2 F],.ret])])],S [i0 6,fo 6 50 4 (ls v6 (n (l (f 9 t1)))) [6] 6 (S [R0 57 17 [O (o (c1 iJ (l (f 0 (i 2 (l (f 9 t1)) v6))))) (o (c1 tT (l (f 1 (i 2 (l (f 9 t1)) v6)))))],If 74 [6,1] (S [E0 [A 2 F],.ret])])],S [i0 7,fo 8 75 4 (ls v7 (n (l (f 24 t1)))) [7] 7 (S [R0 82 7 [o (c1 gQ (L 3 (f 0 (i 4 (l (f 24 t1)) v7))))],If 89 [7,1] (S [E0 [A 2 F],.ret])])],R 90 3 [1] [A 2 (c1 tT (l (f 22 t1)))],.ret]⟩:=by kernel_rfl
def L9:cF BO []=some ⟨104,[(2,none)],S [R 2 1 [0] [J 1 (b t0),M F],S [i0 3,fo 0 5 4 (ls v3 (n (l (f 9 t1)))) [3] 3 (S [R0 12 7 [gt (n (l (f 1 (i 2 (l (f 9 t1)) v3)))) (w 12)],If 19 [3,1] (S [E0 [A 2 T],.ret])])],S [i0 4,fo 2 20 4 (ls v4 (n (l (f 24 t1)))) [4] 4 (S [R0 27 7 [gt (n (l (f 3 (i 4 (l (f 24 t1)) v4)))) (w 208)],If 34 [4,1] (S [E0 [A 2 T],.ret])])],S [R0 35 33 [O (O (O (O (O (gt (n (l (f 4 t1))) (w 12)) (gt (n (l (f 9 t1))) (w 5))) (gt (n (l (f 14 t1))) (w 208))) (gt (n (l (f 15 t1))) (w 8))) (gt (n (l (f 24 t1))) (w 20))) (gt (n (l (f 19 t1))) (w 6))],If 68 [1] (S [E0 [A 2 T],.ret])],S [R0 69 2 [eq (l (f 2 t1)) (w 7)],If 71 [] (S [R 72 5 [1] [A 2 (o (c3 cM (n (l (f 14 t1))) w1 (w 20)))],.ret])],S [R0 77 2 [eq (l (f 2 t1)) (w 9)],If 79 [] (S [R 80 7 [1] [A 2 (ne (n (l (f 22 t1))) (n (l (f 19 t1))))],.ret])],S [R0 87 2 [eq (l (f 2 t1)) (w 10)],If 89 [] (S [R 90 5 [1] [A 2 (o (c3 cM (n (l (f 22 t1))) w1 (w 6)))],.ret])],R 95 9 [1] [A 2 (N (eq (l (f 2 t1)) (w 11)) (ne (n (l (f 22 t1))) w1))],.ret]⟩:=by kernel_rfl
def QR:cF cM []=some ⟨15,[(6,none)],S [R0 6 1 [M F],R 7 8 [0,1,2] [N (ge v0 v1) (le v0 v2),J 6 v14],.ret]⟩:=by kernel_rfl
def KU:cF gQ []=some ⟨16,[(2,none)],S [R 2 1 [0] [J 1 (b t0),M F],R 3 13 [1] [N (N (c3 cM (l (f 0 t1)) w1 (w 12)) (c3 cM (l (f 1 t1)) w1 (w 2147483647))) (c1 tS (l (f 2 t1))),J 2 v15],.ret]⟩:=by kernel_rfl
def IL:cF iJ []=some ⟨9,[(2,none)],S [R0 2 1 [M F],R 3 6 [0] [N (ge v0 (u 1)) (ls v0 (u 2305843009213693951)),J 2 v8],.ret]⟩:=by kernel_rfl
def QS:cF tS []=some ⟨5,[(2,none)],S [R0 2 1 [M F],R 3 2 [0] [ls v0 (u 2305843009213693951),J 2 v4],.ret]⟩:=by kernel_rfl
def KV:cF tT []=some ⟨44,[(2,none)],S [R0 2 1 [M F],S [i0 3,fo 0 4 3 (ls v3 (n v0)) [0,3] 3 (S [R0 10 33 [O (O (O (o (c1 iJ (l (f 0 (i 4 v0 v3))))) (o (c1 iJ (l (f 1 (i 4 v0 v3)))))) (o (c1 tS (l (f 2 (i 4 v0 v3)))))) (o (c1 tS (l (f 3 (i 4 v0 v3)))))],If 43 [3,0] (S [E0 [A 2 F],.ret])])],E0 [A 2 T],.ret]⟩:=by kernel_rfl
end
section
open W
def SU:cF F5 []=some ⟨12,[(2,some (some 3))],S [R 1 0 [0] [b t0,al zI],D 3 9 [1] [l (f 0 t1),l (f 1 t1),K [zl 6 5,zf 5 1 1,zl 4 3,zf 3 1 0] (c1 Dh (L 27 t1)),K [zl 6 5,zf 5 1 1,zl 4 3,zf 3 1 0] (c1 nZ t8),s 3 t2 (q3 zI t4 t6 (K [zl 6 5,zf 5 1 1,zl 4 3,zf 3 1 0] (c2 vP (kc (.const (.string (Hud.bs [111,112])))) t9)))],.ret]⟩:=by kernel_rfl
def OS:cF Dh []=some ⟨94,[(2,none)],S [R 2 1 [0] [J 1 (b t0),M (kc (.const (.pointer none)))],R0 6 2 [b (x (.bld [zS] [])),J 3 (s 1 (al [.pointer none]) t7)],R0 8 1 [A 4 (x (.clo qM [zt 3]))],R0 9 1 [x (.clo iS [zt 3]),J 5 (s 1 (al [.nilFunc]) t9)],R0 10 11 [d1 v4 (j4 [z0,z0,z0,z0] (l (f 0 t1)) (l (f 1 t1)) (l (f 2 t1)) (l (f 3 t1)))],R0 21 6 [l t3,l (f 4 t1),l t3,c3 pZ (t 21) (t 23) (x (.bmo dQ 1 [zt 24]))],R0 27 11 [d1 v4 (j4 [z0,z0,z0,z0] (l (f 5 t1)) (l (f 6 t1)) (l (f 7 t1)) (l (f 8 t1)))],R0 38 5 [c3 rH (l t3) (l (f 9 t1)) (x (.clo tO [zt 3,zt 5]))],R0 43 4 [c2 dQ (l t3) (L 3 (f 10 t1))],R0 47 4 [c2 bL (l t3) (l (f 13 t1))],R0 51 5 [l t3,l (f 14 t1),c2 pL (t 51) (x (.b2s (zt 53)))],R0 56 6 [l t3,l (f 15 t1),l t3,c3 uM (t 56) (t 58) (x (.bmo dK 1 [zt 59]))],R0 62 4 [c2 dQ (l t3) (L 3 (f 16 t1))],R0 66 6 [l t3,l (f 19 t1),l t3,c3 BQ (t 66) (t 68) (x (.bmo bL 1 [zt 69]))],R 72 7 [4] [d1 v4 (j2 [z0,z0] (l (f 20 t1)) (l (f 21 t1)))],R 79 5 [5] [c3 oC (l t3) (l (f 22 t1)) (l t5)],R0 84 4 [c2 dK (l t3) (l (f 23 t1))],R 88 5 [1] [c3 oK (l t3) (l (f 24 t1)) (x (.clo tQ [zt 3]))],R 93 1 [3] [A 2 (l t3)],.ret]⟩:=by kernel_rfl
def MA:cF E4 []=some ⟨93,[(2,none)],S [R 2 1 [0] [J 1 (b t0),M w0],S [D 6 17 [] [M (O (ls (l (f 2 t1)) w1) (gt (l (f 2 t1)) (w 13))),G 14 false (L 27 t1),J 17 (G 14 false (l (f 2 t1))),G 14 false (l (x (.iadA (.global F2) (zt 18) 14 1))),J 16 (G 14 false (K [⟨some 20,.ld none (zt 19),some (14,false)⟩,⟨some 19,.iadA (.global F2) (zt 18) 14 1,some (14,false)⟩,⟨some 18,.ld none (zt 17),some (14,false)⟩,⟨some 17,.fad (zt 1) 2,some (14,false)⟩] (c1 BL (t 15)))),J 21 (G 14 false (ne (B .andNot (t 16) (t 20)) w0)),x (.pick (zt 14) (.const (.bool true)) (zt 22))],If 23 [1] (S [E0 [A 2 w1],.ret])],E0 [A 3 T],S [R0 24 3 [sb (n (l (f 4 t1))) w1,M w0],ra 0 28 (t 27) 29 [28,27] 46 (S [R0 30 1 [A 4 v28],D 31 15 [4] [Ah 3 (N v3 (c2 wG (L 3 (i 3 (l (f 4 t1)) v4)) (L 3 (i 3 (l (f 4 t1)) (ad v4 w1)))))]])],S [R0 47 3 [sb (n (l (f 19 t1))) w1,M w0],ra 2 51 (t 50) 52 [51,50] 69 (S [R0 53 1 [A 5 (v 51)],D 54 15 [5] [Ah 3 (N v3 (ls (l (i 1 (l (f 19 t1)) v5)) (l (i 1 (l (f 19 t1)) (ad v5 w1)))))]])],bw 4 (S [D 71 7 [] [L 27 t1,l (f 2 t1),o (c2 Cp (t 71) (l (x (.iadA (.global F2) (zt 73) 14 1)))),J 70 (v 77)],Ie 70 [1,3] (S [E0 [A 2 (w 8)],.ret]) [] (S [R0 79 2 [c1 G5 (L 27 t1),J 78 (v 80)],Ie 78 [3,1] (S [E0 [A 2 w2],.ret]) [] (S [R 82 2 [3] [o v3,J 81 (v 83)],Ie 81 [1] (S [E0 [A 2 (w 6)],.ret]) [] (S [R 85 8 [1] [eq (n (l (f 4 t1))) w0,eq (l (f 2 t1)) w1,x (.eqb true (zt 88) (zt 91)),J 84 (v 92)],If 84 [] (S [E0 [A 2 (w 10)],.ret])])])])]),i0 2,.ret]⟩:=by kernel_rfl
def KW:cF Ck []=some ⟨20,[(4,none)],S [R 4 1 [0,1] [J 2 (b t0),b t1,M F],D 5 15 [3,2] [M (eq (l (f 0 t3)) (l (f 0 t2))),G 10 true (l (f 4 t2)),G 10 true (L 27 t3),J 16 (G 10 true (L 2 (f 25 t3))),J 14 (G 10 true (K [⟨some 17,.ld (some 2) (zt 16),some (10,true)⟩,⟨some 16,.fad (zt 3) 25,some (10,true)⟩,⟨some 12,.ld none (zt 11),some (10,true)⟩,⟨some 11,.fad (zt 2) 4,some (10,true)⟩] (c1 Dh (t 13)))),G 10 true (K [⟨some 17,.ld (some 2) (zt 16),some (10,true)⟩,⟨some 16,.fad (zt 3) 25,some (10,true)⟩,⟨some 12,.ld none (zt 11),some (10,true)⟩,⟨some 11,.fad (zt 2) 4,some (10,true)⟩] (c1 nZ (t 14))),J 18 (G 10 true (c3 BM (t 12) (t 15) (t 17))),x (.pick (zt 10) (zt 18) (.const (.bool false))),J 4 v19],.ret]⟩:=by kernel_rfl
def Ct:cF qM []=some ⟨15,[],S [R 6 0 [0] [A 5 t0,n t5,A 7 w0],ra 0 7 t6 8 [5,7,6,1] 14 (S [R0 9 2 [A 4 (l (i 1 t5 t7))],R 11 3 [4] [c2 bL (l t1) v4]])]⟩:=by kernel_rfl
def KX:cF iS []=some ⟨23,[],S [R 2 0 [0] [b t0],R 5 8 [2] [n (j4 zU4 (l (f 0 t2)) (l (f 1 t2)) (l (f 2 t2)) (l (f 3 t2))),M w0],ra 0 15 (t 14) 16 [13,15,14,1] 22 (S [R0 17 2 [A 4 (l (i 1 (t 13) (t 15)))],R 19 3 [4] [c2 dK (l t1) v4]])]⟩:=by kernel_rfl
def CA:cF pZ []=some ⟨22,[],S [R 8 4 [0] [c2 bL v0 (n v1)],R 13 0 [1] [A 12 t1,n (t 12),A 14 w0],ra 0 14 (t 13) 15 [12,14,13,2] 21 (S [R0 16 2 [L 3 (i 3 (t 12) (t 14)),J 7 (s 3 (al zI) (t 17))],R 18 3 [7] [d1 v2 (L 3 t7)]])]⟩:=by kernel_rfl
def Cu:cF rH []=some ⟨22,[],S [R 8 4 [0] [c2 bL v0 (n v1)],R 13 0 [1] [A 12 t1,n (t 12),A 14 w0],ra 0 14 (t 13) 15 [12,14,13,2] 21 (S [R0 16 2 [L 2 (i 2 (t 12) (t 14)),J 7 (s 2 (al zB) (t 17))],R 18 3 [7] [d1 v2 (L 2 t7)]])]⟩:=by kernel_rfl
def KY:cF tO []=some ⟨13,[],S [R 3 0 [0] [b t0],R0 4 4 [c2 dK (l t1) (l (f 0 t3))],R 8 5 [1,3,2] [c3 oC (l t1) (l (f 1 t3)) (l t2)]]⟩:=by kernel_rfl
def D5:cF oC []=some ⟨22,[],S [R 8 4 [0] [c2 bL v0 (n v1)],R 13 0 [1] [A 12 t1,n (t 12),A 14 w0],ra 0 14 (t 13) 15 [12,14,13,2] 21 (S [R0 16 2 [L 4 (i 4 (t 12) (t 14)),J 7 (s 4 (al zU4) (t 17))],R 18 3 [7] [d1 v2 (L 4 t7)]])]⟩:=by kernel_rfl
def E5:cF uM []=some ⟨22,[],S [R 8 4 [0] [c2 bL v0 (n v1)],R 13 0 [1] [A 12 t1,n (t 12),A 14 w0],ra 0 14 (t 13) 15 [12,14,13,2] 21 (S [R0 16 2 [A 7 (l (i 1 (t 12) (t 14)))],R 18 3 [7] [d1 v2 v7]])]⟩:=by kernel_rfl
def IM:cF BQ []=some ⟨22,[],S [R 8 4 [0] [c2 bL v0 (n v1)],R 13 0 [1] [A 12 t1,n (t 12),A 14 w0],ra 0 14 (t 13) 15 [12,14,13,2] 21 (S [R0 16 2 [A 7 (l (i 1 (t 12) (t 14)))],R 18 3 [7] [d1 v2 v7]])]⟩:=by kernel_rfl
def BS:cF oK []=some ⟨22,[],S [R 8 4 [0] [c2 bL v0 (n v1)],R 13 0 [1] [A 12 t1,n (t 12),A 14 w0],ra 0 14 (t 13) 15 [12,14,13,2] 21 (S [R0 16 2 [L 4 (i 4 (t 12) (t 14)),J 7 (s 4 (al [z0,z0,zU,zS]) (t 17))],R 18 3 [7] [d1 v2 (L 4 t7)]])]⟩:=by kernel_rfl
def KZ:cF tQ []=some ⟨12,[],S [R 2 0 [0] [b t0],R0 3 4 [c2 dQ (l t1) (L 3 (f 0 t2))],R 7 5 [1,2] [l t1,l (f 3 t2),c2 pL t7 (x (.b2s (zt 9)))]]⟩:=by kernel_rfl
def SV:cF bC []=some ⟨15,[(6,none)],S [R0 6 1 [M F],R 7 8 [0,1,2] [N (ge v0 v1) (le v0 v2),J 6 v14],.ret]⟩:=by kernel_rfl
def MB:cF dJ []=some ⟨16,[(2,none)],S [R 2 1 [0] [J 1 (b t0),M F],R 3 13 [1] [N (N (c3 bC (l (f 0 t1)) w1 (w 12)) (c3 bC (l (f 1 t1)) w1 (w 2147483647))) (c1 BP (l (f 2 t1))),J 2 v15],.ret]⟩:=by kernel_rfl
def Ka:cF gP []=some ⟨9,[(2,none)],S [R0 2 1 [M F],R 3 6 [0] [N (ge v0 (u 1)) (ls v0 (u 2305843009213693951)),J 2 v8],.ret]⟩:=by kernel_rfl
def G7:cF sV []=some ⟨11,[(2,none)],S [R 2 1 [0] [J 1 (b t0),M F],R 3 8 [1] [N (c1 gP (l (f 0 t1))) (c2 kQ (l (f 1 t1)) (kc (.func sM))),J 2 v10],.ret]⟩:=by kernel_rfl
def D6:cF kQ []=some ⟨9,[(4,none)],S [R 4 1 [1] [J 3 (b t1),M F],R 5 4 [0,3] [o (c2 dL v0 (x (.clo gC [zt 3]))),J 4 v8],.ret]⟩:=by kernel_rfl
def MC:cF sM []=some ⟨21,[(2,none)],S [R 2 1 [0] [J 1 (b t0),M F],R 3 18 [1] [N (N (N (c1 gP (l (f 0 t1))) (c1 gP (l (f 1 t1)))) (c1 BP (l (f 2 t1)))) (c1 BP (l (f 3 t1))),J 2 v20],.ret]⟩:=by kernel_rfl
def G8:cF sW []=some ⟨6,[(2,none)],S [R 2 1 [0] [J 1 (b t0),M F],R 3 3 [1] [c1 dJ (L 3 (f 0 t1)),J 2 v5],.ret]⟩:=by kernel_rfl
def G9:cF sX []=some ⟨5,[(2,none)],S [R0 2 1 [M F],R 3 2 [0] [c3 bC v0 w1 (w 12),J 2 v4],.ret]⟩:=by kernel_rfl
def IN:cF vQ []=some ⟨9,[(4,none)],S [R 4 1 [1] [J 3 (b t1),M F],R 5 4 [0,3] [o (c2 gD v0 (x (.clo kS [zt 3]))),J 4 v8],.ret]⟩:=by kernel_rfl
def E6:cF pK []=some ⟨9,[(4,none)],S [R 4 1 [1] [J 3 (b t1),M F],R 5 4 [0,3] [o (c2 dW v0 (x (.clo iA [zt 3]))),J 4 v8],.ret]⟩:=by kernel_rfl
def SW:cF BP []=some ⟨5,[(2,none)],S [R0 2 1 [M F],R 3 2 [0] [ls v0 (u 2305843009213693951),J 2 v4],.ret]⟩:=by kernel_rfl
def CB:cF lJ []=some ⟨9,[(4,none)],S [R 4 1 [1] [J 3 (b t1),M F],R 5 4 [0,3] [o (c2 aT v0 (x (.clo eQ [zt 3]))),J 4 v8],.ret]⟩:=by kernel_rfl
def Cv:cF hZ []=some ⟨9,[(4,none)],S [R 4 1 [1] [J 3 (b t1),M F],R 5 4 [0,3] [o (c2 cV v0 (x (.clo fQ [zt 3]))),J 4 v8],.ret]⟩:=by kernel_rfl
def BT:cF fP []=some ⟨9,[(4,none)],S [R 4 1 [1] [J 3 (b t1),M F],R 5 4 [0,3] [o (c2 cH v0 (x (.clo dY [zt 3]))),J 4 v8],.ret]⟩:=by kernel_rfl
def Kb:cF yE []=some ⟨7,[(2,none)],S [R 2 1 [0] [J 1 (b t0),M F],R 3 4 [1] [le (n (l (f 1 t1))) (w 12),J 2 v6],.ret]⟩:=by kernel_rfl
def Kc:cF yF []=some ⟨7,[(2,none)],S [R 2 1 [0] [J 1 (b t0),M F],R 3 4 [1] [le (n (l (f 3 t1))) (w 208),J 2 v6],.ret]⟩:=by kernel_rfl
def CC:cF gC []=some ⟨8,[(3,none)],S [R 3 1 [0] [J 2 (b t0),M F],R 4 4 [1,2] [o (d1 (l t1) (L 4 t2)),J 3 v7],.ret]⟩:=by kernel_rfl
def F8:cF kS []=some ⟨8,[(3,none)],S [R0 3 1 [M F],R 4 4 [1,0] [o (d1 (l t1) v0),J 3 v7],.ret]⟩:=by kernel_rfl
def Cw:cF iA []=some ⟨8,[(3,none)],S [R0 3 1 [M F],R 4 4 [1,0] [o (d1 (l t1) v0),J 3 v7],.ret]⟩:=by kernel_rfl
def AU:cF eQ []=some ⟨8,[(3,none)],S [R 3 1 [0] [J 2 (b t0),M F],R 4 4 [1,2] [o (d1 (l t1) (L 3 t2)),J 3 v7],.ret]⟩:=by kernel_rfl
def BU:cF fQ []=some ⟨8,[(3,none)],S [R 3 1 [0] [J 2 (b t0),M F],R 4 4 [1,2] [o (d1 (l t1) (L 2 t2)),J 3 v7],.ret]⟩:=by kernel_rfl
def zR:cF dY []=some ⟨8,[(3,none)],S [R 3 1 [0] [J 2 (b t0),M F],R 4 4 [1,2] [o (d1 (l t1) (L 4 t2)),J 3 v7],.ret]⟩:=by kernel_rfl
def OT:cF G5 []=some ⟨84,[(2,none)],S [R 2 1 [0] [J 1 (b t0),M F],E0 [A 3 (kc (.func yE))],E0 [A 4 (kc (.func yF))],S [R 5 47 [3,4] [O (O (O (O (O (O (O (gt (n (l (f 4 t1))) (w 12)) (gt (n (l (f 9 t1))) (w 5))) (o (c2 hZ (l (f 9 t1)) v3))) (gt (n (l (f 14 t1))) (w 208))) (gt (n (l (f 15 t1))) (w 8))) (gt (n (l (f 24 t1))) (w 20))) (o (c2 fP (l (f 24 t1)) v4))) (gt (n (l (f 19 t1))) (w 6))],If 52 [1] (S [E0 [A 2 T],.ret])],S [R0 53 1 [l (f 2 t1)],bw 0 (S [R0 56 1 [eq (t 54) (w 7),J 55 (v 56)],Ie 55 [54] (S [R 57 5 [1] [A 2 (o (c3 bC (n (l (f 14 t1))) w1 (w 20)))],.ret]) [] (S [R0 63 1 [eq (t 54) (w 9),J 62 (v 63)],Ie 62 [54] (S [R 64 7 [1] [A 2 (ne (n (l (f 22 t1))) (n (l (f 19 t1))))],.ret]) [] (S [R0 72 1 [eq (t 54) (w 10),J 71 (v 72)],Ie 71 [54] (S [R 73 5 [1] [A 2 (o (c3 bC (n (l (f 22 t1))) w1 (w 6)))],.ret]) [] (S [R 79 1 [54] [eq (t 54) (w 11),J 78 (v 79)],Iz 78 [] (S [R 80 4 [1] [A 2 (ne (n (l (f 22 t1))) w1)],.ret]) [1]])])])])],E0 [A 2 F],.ret]⟩:=by kernel_rfl
def IP:cF BL []=some ⟨75,[(2,none)],S [R 2 1 [0] [J 1 (b t0),M w0],i0 3,S [S [.regd (zq (zf 7 1 5) (zq (zl 8 7) (zq (zo 9 (.bin .neq (zt 8) (zw 0))) (zq (zf 10 1 6) (zq (zl 11 10) (zq (zo 12 (.bin .neq (zt 11) (zw 0))) (zq (zf 13 1 7) (zq (zl 14 13) (zq (zo 15 (.bin .neq (zt 14) (zw 0))) (zq (zf 16 1 8) (zq (zl 17 16) (zq (zo 18 (.bin .neq (zt 17) (zw 0))) (zq (zf 19 1 9) (zq (zl 20 19) (zq (zo 21 (.lenL (zt 20))) (zq (zo 22 (.bin .gtr (zt 21) (zw 0))) (zq (zf 23 1 10) (zq (zv 24 3 23) (zq (zo 25 (.bld zI [])) (zq (zo 26 (.eqa true [.int .i64,.int .i64,.int .u64] (zt 24) (zt 25))) (zq (zf 27 1 13) (zq (zl 28 27) (zq (zo 29 (.bin .neq (zt 28) (zw 0))) (zq (zf 30 1 14) (zq (zl 31 30) (zq (zo 32 (.lenL (zt 31))) (zq (zo 33 (.bin .gtr (zt 32) (zw 0))) (zq (zf 34 1 15) (zq (zl 35 34) (zq (zo 36 (.lenL (zt 35))) (zq (zo 37 (.bin .gtr (zt 36) (zw 0))) (zq (zf 38 1 16) (zq (zv 39 3 38) (zq (zo 40 (.bld zI [])) (zq (zo 41 (.eqa true [.int .i64,.int .i64,.int .u64] (zt 39) (zt 40))) (zq (zf 42 1 19) (zq (zl 43 42) (zq (zo 44 (.lenL (zt 43))) (zq (zo 45 (.bin .gtr (zt 44) (zw 0))) (zq (zf 46 1 20) (zq (zl 47 46) (zq (zo 48 (.bin .neq (zt 47) (zw 0))) (zq (zf 49 1 21) (zq (zl 50 49) (zq (zo 51 (.bin .neq (zt 50) (zw 0))) (zq (zf 52 1 22) (zq (zl 53 52) (zq (zo 54 (.lenL (zt 53))) (zq (zo 55 (.bin .gtr (zt 54) (zw 0))) (zq (zf 56 1 23) (zq (zl 57 56) (zq (zo 58 (.bin .neq (zt 57) (zu 0))) (zq (zf 59 1 24) (zq (zl 60 59) (zq (zo 61 (.lenL (zt 60))) (zq (zo 62 (.bin .gtr (zt 61) (zw 0))) (zA (zo 6 (.mkm false)) [zo 62 (.bin .gtr (zt 61) (zw 0)),zo 61 (.lenL (zt 60)),zl 60 59,zf 59 1 24,zo 58 (.bin .neq (zt 57) (zu 0)),zl 57 56,zf 56 1 23,zo 55 (.bin .gtr (zt 54) (zw 0)),zo 54 (.lenL (zt 53)),zl 53 52,zf 52 1 22,zo 51 (.bin .neq (zt 50) (zw 0)),zl 50 49,zf 49 1 21,zo 48 (.bin .neq (zt 47) (zw 0)),zl 47 46,zf 46 1 20,zo 45 (.bin .gtr (zt 44) (zw 0)),zo 44 (.lenL (zt 43)),zl 43 42,zf 42 1 19,zo 41 (.eqa true [.int .i64,.int .i64,.int .u64] (zt 39) (zt 40)),zo 40 (.bld zI []),zv 39 3 38,zf 38 1 16,zo 37 (.bin .gtr (zt 36) (zw 0)),zo 36 (.lenL (zt 35)),zl 35 34,zf 34 1 15,zo 33 (.bin .gtr (zt 32) (zw 0)),zo 32 (.lenL (zt 31)),zl 31 30,zf 30 1 14,zo 29 (.bin .neq (zt 28) (zw 0)),zl 28 27,zf 27 1 13,zo 26 (.eqa true [.int .i64,.int .i64,.int .u64] (zt 24) (zt 25)),zo 25 (.bld zI []),zv 24 3 23,zf 23 1 10,zo 22 (.bin .gtr (zt 21) (zw 0)),zo 21 (.lenL (zt 20)),zl 20 19,zf 19 1 9,zo 18 (.bin .neq (zt 17) (zw 0)),zl 17 16,zf 16 1 8,zo 15 (.bin .neq (zt 14) (zw 0)),zl 14 13,zf 13 1 7,zo 12 (.bin .neq (zt 11) (zw 0)),zl 11 10,zf 10 1 6,zo 9 (.bin .neq (zt 8) (zw 0)),zl 8 7,zf 7 1 5] (.perm [zo 62 (.bin .gtr (zt 61) (zw 0)),zo 61 (.lenL (zt 60)),zl 60 59,zf 59 1 24,zo 58 (.bin .neq (zt 57) (zu 0)),zl 57 56,zf 56 1 23,zo 55 (.bin .gtr (zt 54) (zw 0)),zo 54 (.lenL (zt 53)),zl 53 52,zf 52 1 22,zo 51 (.bin .neq (zt 50) (zw 0)),zl 50 49,zf 49 1 21,zo 48 (.bin .neq (zt 47) (zw 0)),zl 47 46,zf 46 1 20,zo 45 (.bin .gtr (zt 44) (zw 0)),zo 44 (.lenL (zt 43)),zl 43 42,zf 42 1 19,zo 41 (.eqa true [.int .i64,.int .i64,.int .u64] (zt 39) (zt 40)),zo 40 (.bld zI []),zv 39 3 38,zf 38 1 16,zo 37 (.bin .gtr (zt 36) (zw 0)),zo 36 (.lenL (zt 35)),zl 35 34,zf 34 1 15,zo 33 (.bin .gtr (zt 32) (zw 0)),zo 32 (.lenL (zt 31)),zl 31 30,zf 30 1 14,zo 29 (.bin .neq (zt 28) (zw 0)),zl 28 27,zf 27 1 13,zo 26 (.eqa true [.int .i64,.int .i64,.int .u64] (zt 24) (zt 25)),zo 25 (.bld zI []),zv 24 3 23,zf 23 1 10,zo 22 (.bin .gtr (zt 21) (zw 0)),zo 21 (.lenL (zt 20)),zl 20 19,zf 19 1 9,zo 18 (.bin .neq (zt 17) (zw 0)),zl 17 16,zf 16 1 8,zo 15 (.bin .neq (zt 14) (zw 0)),zl 14 13,zf 13 1 7,zo 12 (.bin .neq (zt 11) (zw 0)),zl 11 10,zf 10 1 6,zo 9 (.bin .neq (zt 8) (zw 0)),zl 8 7,zf 7 1 5] [⟨none,.mup false [.int .i64] (zt 6) (zw 1) (zt 9),none⟩,⟨none,.mup false [.int .i64] (zt 6) (zw 2) (zt 12),none⟩,⟨none,.mup false [.int .i64] (zt 6) (zw 4) (zt 15),none⟩,⟨none,.mup false [.int .i64] (zt 6) (zw 8) (zt 18),none⟩,⟨none,.mup false [.int .i64] (zt 6) (zw 16) (zt 22),none⟩,⟨none,.mup false [.int .i64] (zt 6) (zw 32) (zt 26),none⟩,⟨none,.mup false [.int .i64] (zt 6) (zw 64) (zt 29),none⟩,⟨none,.mup false [.int .i64] (zt 6) (zw 128) (zt 33),none⟩,⟨none,.mup false [.int .i64] (zt 6) (zw 256) (zt 37),none⟩,⟨none,.mup false [.int .i64] (zt 6) (zw 512) (zt 41),none⟩,⟨none,.mup false [.int .i64] (zt 6) (zw 1024) (zt 45),none⟩,⟨none,.mup false [.int .i64] (zt 6) (zw 2048) (zt 48),none⟩,⟨none,.mup false [.int .i64] (zt 6) (zw 4096) (zt 51),none⟩,⟨none,.mup false [.int .i64] (zt 6) (zw 8192) (zt 55),none⟩,⟨none,.mup false [.int .i64] (zt 6) (zw 16384) (zt 58),none⟩,⟨none,.mup false [.int .i64] (zt 6) (zw 32768) (zt 62),none⟩] (zq (zm 63 6) (zA (zo 64 (.rgm (zt 63))) [] (.done true) .no))) .no))))))))))))))))))))))))))))))))))))))))))))))))))))))))),.kill [1,63,62,61,60,59,58,57,56,55,54,53,52,51,50,49,48,47,46,45,44,43,42,41,40,39,38,37,36,35,34,33,32,31,30,29,28,27,26,25,24,23,22,21,20,19,18,17,16,15,14,13,12,11,10,9,8,7,6]],lo 0 (S [R0 65 1 [e 0 (x (.nxt (zt 64)))],Ie 66 [] .skip [64] (ex 0),bw 1 (S [R0 67 3 [e 0 (x (.ent (zt 64))),e 1 (t 67),A 4 (t 68),A 5 (t 69)],R 0 0 [5] [A 70 t5],Iz 70 [] (R 71 3 [4] [A 3 (B .or v3 v4)]) [4]])])],R 74 1 [3] [A 2 v3],.ret]⟩:=by kernel_rfl
def Kd:cF Cp []=some ⟨136,[(4,none)],S [R 4 1 [0] [J 2 (b t0),J 4 (M F)],S [R0 14 15 [O (O (o (c3 bC (l (f 0 t2)) w1 (w 12))) (o (c3 bC (l (f 1 t2)) w1 (w 2147483647)))) (o (c3 bC (l (f 3 t2)) w0 (w 2147483647)))],If 29 [2,1] (S [E0 [A 4 F],.ret])],D 30 3 [] [n (l (f 19 t2)),A 5 w1,A 6 w1,A 7 (t 32)],R0 33 3 [A 8 (c3 bC (l (f 7 t2)) w1 (w 8))],S [R0 36 2 [eq (l (f 2 t2)) w3],If 38 [5] (S [i0 5,R0 39 16 [A 8 (O (N v8 (eq (l (f 5 t2)) w0)) (N (eq (l (f 7 t2)) w0) (ne (l (f 5 t2)) w0)))]])],S [R0 55 2 [eq (l (f 2 t2)) w1],If 57 [6,7] (E0 [A 6 w0,A 7 (w 20)])],S [S [.regd (zq (zf 59 2 5) (zq (zl 60 59) (zq (zm 61 5) (zq (zf 63 2 6) (zq (zl 64 63) (zq (zm 66 8) (zq (zf 67 2 8) (zq (zl 68 67) (zq (zf 70 2 13) (zq (zl 71 70) (zq (zf 73 2 21) (zq (zl 74 73) (zq (zf 76 2 20) (zq (zl 77 76) (zq (zm 78 6) (zq (zm 79 7) (zq (zf 81 2 10) (zq (zv 82 3 81) (zq (zf 84 2 16) (zq (zv 85 3 84) (zq (zf 87 2 23) (zq (zl 88 87) (.plan [⟨some 58,.mkm false,none⟩,⟨some 59,.fad (zt 2) 5,none⟩,⟨some 60,.ld none (zt 59),none⟩,⟨some 61,.mov (zt 5),none⟩,⟨some 62,.call (.func bC) [zt 60,zt 61,zw 12],none⟩,⟨none,.mup false [.int .i64] (zt 58) (zw 1) (zt 62),none⟩,⟨some 63,.fad (zt 2) 6,none⟩,⟨some 64,.ld none (zt 63),none⟩,⟨some 65,.call (.func bC) [zt 64,zw 1,zw 12],none⟩,⟨none,.mup false [.int .i64] (zt 58) (zw 2) (zt 65),none⟩,⟨some 66,.mov (zt 8),none⟩,⟨none,.mup false [.int .i64] (zt 58) (zw 4) (zt 66),none⟩,⟨some 67,.fad (zt 2) 8,none⟩,⟨some 68,.ld none (zt 67),none⟩,⟨some 69,.call (.func bC) [zt 68,zw 1,zw 3],none⟩,⟨none,.mup false [.int .i64] (zt 58) (zw 8) (zt 69),none⟩,⟨some 70,.fad (zt 2) 13,none⟩,⟨some 71,.ld none (zt 70),none⟩,⟨some 72,.call (.func bC) [zt 71,zw 0,zw 2147483647],none⟩,⟨none,.mup false [.int .i64] (zt 58) (zw 64) (zt 72),none⟩,⟨some 73,.fad (zt 2) 21,none⟩,⟨some 74,.ld none (zt 73),none⟩,⟨some 75,.call (.func bC) [zt 74,zw 0,zw 2147483647],none⟩,⟨none,.mup false [.int .i64] (zt 58) (zw 4096) (zt 75),none⟩,⟨some 76,.fad (zt 2) 20,none⟩,⟨some 77,.ld none (zt 76),none⟩,⟨some 78,.mov (zt 6),none⟩,⟨some 79,.mov (zt 7),none⟩,⟨some 80,.call (.func bC) [zt 77,zt 78,zt 79],none⟩,⟨none,.mup false [.int .i64] (zt 58) (zw 2048) (zt 80),none⟩,⟨some 81,.fad (zt 2) 10,none⟩,⟨some 82,.ld (some 3) (zt 81),none⟩,⟨some 83,.call (.func dJ) [zt 82],none⟩,⟨none,.mup false [.int .i64] (zt 58) (zw 32) (zt 83),none⟩,⟨some 84,.fad (zt 2) 16,none⟩,⟨some 85,.ld (some 3) (zt 84),none⟩,⟨some 86,.call (.func dJ) [zt 85],none⟩,⟨none,.mup false [.int .i64] (zt 58) (zw 512) (zt 86),none⟩,⟨some 87,.fad (zt 2) 23,none⟩,⟨some 88,.ld none (zt 87),none⟩,⟨some 89,.call (.func gP) [zt 88],none⟩,⟨none,.mup false [.int .i64] (zt 58) (zw 16384) (zt 89),none⟩,⟨some 90,.mov (zt 58),none⟩,⟨some 91,.rgm (zt 90),none⟩] [[],[],[1],[],[2,1,3],[0,4,2,1,3],[],[6],[7,6,4,2,1,3],[0,8,7,6,4,2,1,3],[],[0,10],[],[12],[13,12,8,7,6,4,2,1,3],[0,14,13,12,8,7,6,4,2,1,3],[],[16],[17,16,14,13,12,8,7,6,4,2,1,3],[0,18,17,16,14,13,12,8,7,6,4,2,1,3],[],[20],[21,20,18,17,16,14,13,12,8,7,6,4,2,1,3],[0,22,21,20,18,17,16,14,13,12,8,7,6,4,2,1,3],[],[24],[],[],[25,24,26,27,22,21,20,18,17,16,14,13,12,8,7,6,4,2,1,3],[0,28,25,24,26,27,22,21,20,18,17,16,14,13,12,8,7,6,4,2,1,3],[],[30],[31,30,28,25,24,26,27,22,21,20,18,17,16,14,13,12,8,7,6,4,2,1,3],[0,32,31,30,28,25,24,26,27,22,21,20,18,17,16,14,13,12,8,7,6,4,2,1,3],[],[34],[35,34,32,31,30,28,25,24,26,27,22,21,20,18,17,16,14,13,12,8,7,6,4,2,1,3],[0,36,35,34,32,31,30,28,25,24,26,27,22,21,20,18,17,16,14,13,12,8,7,6,4,2,1,3],[],[38],[39,38,36,35,34,32,31,30,28,25,24,26,27,22,21,20,18,17,16,14,13,12,8,7,6,4,2,1,3],[0,40,39,38,36,35,34,32,31,30,28,25,24,26,27,22,21,20,18,17,16,14,13,12,8,7,6,4,2,1,3],[0,1,2,3,4,5,6,7,8,9,10,11,12,13,14,15,16,17,18,19,20,21,22,23,24,25,26,27,28,29,30,31,32,33,34,35,36,37,38,39,40,41],[42,0,1,2,3,4,5,6,7,8,9,10,11,12,13,14,15,16,17,18,19,20,21,22,23,24,25,26,27,28,29,30,31,32,33,34,35,36,37,38,39,40,41]] 23 false [39,38,35,34,31,30,27,26,25,24,21,20,17,16,13,12,10,7,6,3,2,1]))))))))))))))))))))))),.kill [5,8,6,7,90,89,88,87,86,85,84,83,82,81,80,79,78,77,76,75,74,73,72,71,70,69,68,67,66,65,64,63,62,61,60,59,58]],lo 0 (S [R0 92 1 [e 0 (x (.nxt (zt 91)))],Ie 93 [] .skip [91,1] (ex 0),bw 1 (S [R0 94 3 [e 0 (x (.ent (zt 91))),e 1 (t 94),A 9 (t 95),A 10 (t 96)],R 97 7 [9,10] [N (ne (B .and v1 v9) w0) (o v10)],If 104 [91,2,1] (S [E0 [A 4 F],.ret])])])],E0 [A 11 (kc (.func sV))],E0 [A 12 (kc (.func sW))],E0 [A 13 (kc (.func sX))],R 105 31 [2,13,11,12] [A 4 (N (N (N (N (N (c2 vQ (l (f 19 t2)) v13) (c2 pK (l (f 15 t2)) (kc (.func BP)))) (c2 lJ (l (f 4 t2)) (kc (.func dJ)))) (c2 hZ (l (f 9 t2)) v11)) (c2 kQ (l (f 22 t2)) (kc (.func sM)))) (c2 fP (l (f 24 t2)) v12))],.ret]⟩:=by kernel_rfl
end
end Hud
