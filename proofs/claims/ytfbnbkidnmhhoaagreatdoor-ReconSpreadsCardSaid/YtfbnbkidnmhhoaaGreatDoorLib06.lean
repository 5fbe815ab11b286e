import Derived.Test.YtfbnbkidnmhhoaaGreatDoorLib05
import Derived.Attr
import Derived.Test.YtfbnbkidnmhhoaaGreatDoorProg
set_option linter.all false
namespace Hud
open Go
def bs(l:List UInt8):ByteArray:=⟨l.toArray⟩
class KC(α:Type) where
 k:α->Prop
class PC where
 p:Prop
class KT where
 k:AV->aK->Prop
class QC where
 q:Ex->St->Prop
def Ai{α:Type}(o:Option α)[c:KC α]:Prop:=match o with|some x=>c.k x|none=>False
def Gv(t:Bool)[A:PC][B:PC]:Prop:=match t with|true=>A.p|false=>B.p
def aCv(v:AV)[c:KC Bool]:Prop:=match v with|.v (.bool t)=>c.k t|_=>False
def aHp{α:Type}(x:α)(K:α->Prop):@Ai α (some x) ⟨K⟩=K x:=fI rfl rfl
def aKV(A B:Prop):@Gv true ⟨A⟩ ⟨B⟩=A:=fI rfl rfl
def aKW(A B:Prop):@Gv false ⟨A⟩ ⟨B⟩=B:=fI rfl rfl
def aKX(t:Bool)(K:Bool->Prop):@aCv (.v (.bool t)) ⟨K⟩=K t:=fI rfl rfl
attribute [go_sem] aHp aKV aKW aKX
def aL{t:Bool}{A B:Prop}(b:t=true->A)(a:t=false->B):@Gv t ⟨A⟩ ⟨B⟩:=by cases t;exact a rfl;exact b rfl
def Jm{P:Program}{G:L_}{K b:St->Prop}(h:∀s,K s->b s):∀{os:List HOper}{st:St},Mp P G os st K->Mp P G os st b|[],st,a=>h st a|o::os,st,a=>by simp only[Mp]at a⊢;split<;>rename_i e<;>simp only[e]at a;exact Cg (λ_ _ c=>Jm h c) a;exact Jm h a
def HG{P:Program}{G:L_}{K d:St->Prop}{b:List HOper}(h:∀s,K s->d s):∀{n:Nat}{os:List HOper}{st:St},IH P G b n os st K->IH P G b n os st d|0,_,_,a=>h _ a|n+1,os,st,a=>λi o f=>by have a:=a i o f;split<;>rename_i e<;>simp only[e]at a;exact Cg (λ_ _ c=>⟨c.1,HG h c.2⟩) a;exact⟨a.1,HG h a.2⟩
def Aj {P:Program} {G:L_} {K g:St->Prop} {p:Plan} (h:∀s,K s->g s):∀{n:Nat}{b:Bool}{E:O3}{st:St},vU P G p n b E st K->vU P G p n b E st g|0,_,_,_,a=>a| n+1,b,E,st,a=>by simp only[vU]at a⊢;split<;>rename_i e<;>simp only[e]at a;split<;>rename_i d<;>simp only[d]at a;split<;>rename_i c<;>simp only[c]at a;split<;>rename_i l<;>simp only[l]at a;exact Aj h a;exact Aj h a;split<;>rename_i d<;>simp only[d]at a;exact h _ a;intro i j;obtain⟨o,k,h2⟩:=a i j;refine⟨o,k,?_⟩;split<;>rename_i c<;>simp only[c]at h2;exact Cg (λ_ _ f=>⟨f.1,Aj h f.2⟩) h2;exact⟨h2.1,Aj h h2.2⟩
def Ak{P:Program}{G:L_}{K i:St->Prop}(h:∀s,K s->i s):∀{d:HD}{st:St},JV P G d st K->JV P G d st i
 |.done b,st,a=>h _ a|.no,st,a=>trivial|.q o n,st,a=>by
  simp only[JV]at a⊢;split<;>rename_i e<;>simp only[e]at a;split<;>rename_i j<;>simp only[j]at a;exact Ak h a;exact Ak h a
 |.alt o c n m,st,a=>by
  simp only[JV]at a⊢;refine⟨?_,Ak h a.2⟩;have a:=a.1;split<;>rename_i e<;>simp only[e]at a;exact Cg (λ_ _ g=>⟨g.1,Ak h g.2⟩) a;exact⟨a.1,Ak h a.2⟩
 |.perm c o n,st,a=>by
  simp only[JV]at a⊢;exact HG (λs f=>Ak h f) a
 |.plan f pr n k E,st,a=>by simp only[JV]at a⊢;exact Aj h a
def jF{P:Program}{G:L_}:∀{c:HC}{Q q:Ex->St->Prop}{st:St},(∀e s,Q e s->q e s)->fZ P G c Q st->fZ P G c q st
 |.skip,_,_,_,h,f=>h _ _ f|.reg l,_,_,_,h,f=>Jm (h _) f|.regd d,_,_,_,h,f=>Ak (h _) f|.seq a b,_,_,_,h,f=>by
  simp only[fZ]at f⊢;refine jF (λe s m=>?_) f
  cases e with
  |normal=>exact jF h m|exit i=>exact h _ _ m|ret=>exact h _ _ m
 |.cond c a b,_,_,_,h,f=>by
  simp only[fZ]at f⊢;split<;>rename_i e<;>simp only[e]at f;rename_i t;cases t;exact jF h f;exact jF h f
 |.block i a,_,_,_,h,f=>by
  simp only[fZ]at f⊢;refine jF (λe s m=>?_) f
  cases e with
  |normal=>exact h _ _ m|exit j=>by_cases y:j=i<;>simp only[y,if_true,if_false]at m⊢<;>exact h _ _ m|ret=>exact h _ _ m
 |.rng g ps d a b,Q,q,st,h,f=>by
  simp only[fZ]at f⊢;intro r A h2 z u;have f:=f r A h2 z u;split<;>rename_i e<;>simp only[e]at f;refine⟨f.1,HF (λx T o=>?_) f.2⟩;simp only[Vv]at o⊢;split<;>rename_i C<;>simp only[C]at o;refine⟨o.1,?_⟩;have o:=o.2;split<;>rename_i p<;>simp only[p]at o<;>exact h _ _ o
 |.loop d a,_,_,_,h,f=>by
  obtain⟨I,B,w⟩:=f;refine⟨I,B,λn s v=>jF (λe s m=>?_) (w n s v)⟩
  cases e with
  |normal=>exact m|exit i=>exact h _ _ m|ret=>exact h _ _ m
 |.exit i,_,_,_,h,f=>h _ _ f|.ret,_,_,_,h,f=>h _ _ f|.kill d,_,_,_,h,f=>h _ _ f|.own j c k,_,_,_,h,f=>h _ _ f|.shut j,_,_,_,h,f=>h _ _ f
section
variable{P:Program}{G:L_}{st:St}
def aCw(a:List (Nat×Option (Option Nat)))(post:AV->aK->Prop)(st:St):Prop :=
 match R6 st a with
 |some l=>
  let r:=Jk l
  let L:=Bc st.T (List.range st.r++MM r)
  post (Bd L r) (GX L st.T)
 |none=>False
def aCx(b:List (Nat×Option (Option Nat)))(post:AV->aK->Prop):Ex->St->Prop|.normal,a=>aCw b post a|.ret,a=>aCw b post a|_,_=>False
def aHq(P:Program)(G:L_)(a:HFun)(args:O0)(T:aK)(post:AV->aK->Prop):Prop :=
 fZ P G a.code (aCx a.res post) ⟨T.length,aLJ 0 args,T⟩
def aHr{P:Program}{G:L_}{b:HFun}{args:O0}{T:aK}{post:AV->aK->Prop}(h:aHq P G b args T post):aJk P G b args T post:=by
 refine jF (λe s d=>?_) h;have a:aCw b.res post s->UD b.res post s:=by intro c;unfold aCw at c;unfold UD;split<;>rename_i e<;>simp only[e]at c;exact .inl c
 cases e with
 |normal=>exact a d|ret=>exact a d|exit i=>exact d
def aC{P:Program}{G:L_}{f:FuncId}{a:HFun}{H:List (Nat×Option Nat×Nat)}(c:tF P f H=some a){args:O0}{T:aK}{post:AV->aK->Prop}(b:aHq P G a args T post):aA P G f args T post:=Yn c trivial (aHr b)
def aCy(a:List (Nat×Option (Option Nat)))(post:AV->aK->Prop)(st:St):Prop :=
 match R6 st a with
 |some l=>post (Jk l) st.T|none=>False
def aCz(b:List (Nat×Option (Option Nat)))(post:AV->aK->Prop):Ex->St->Prop|.normal,a=>aCy b post a|.ret,a=>aCy b post a|_,_=>False
def aF8(P:Program)(G:L_)(a:HFun)(args:O0)(T:aK)(post:AV->aK->Prop):Prop :=
 fZ P G a.code (aCz a.res post) ⟨T.length,aLJ 0 args,T⟩
def fT{P:Program}{G:L_}{f:FuncId}{b:HFun}{H:List (Nat×Option Nat×Nat)}(h:tF P f H=some b){args:O0}{T:aK}{post:AV->aK->Prop}(g:aF8 P G b args T post):aA P G f args T post:=by
 refine Yn h trivial (jF (λe s d=>?_) g);have a:aCy b.res post s->UD b.res post s:=by intro c;unfold aCy at c;unfold UD;split<;>rename_i e<;>simp only[e]at c;exact .inr c
 cases e with
 |normal=>exact a d|ret=>exact a d|exit i=>exact d
def vZ{P:Program}{f:FuncId}{g:HFun}{H:List (Nat×Option Nat×Nat)}(b:tF P f H=some g):Rl P f:=by unfold tF at b;split at b;simp at b;rename_i i d;split at b;simp at b;rename_i a;split at b;rename_i c j h e;exact⟨i,c,d,h,oe⟩;simp at b
def aK8(P:Program)(G:L_)(f:FuncId)(args:O0)(T:aK)[c:KT]:Prop:=IG P G f args T c.k
def vR(P:Program)(G:L_)(st:St)(o:HOp)[c:KT]:Prop:=yF P G st o c.k
def UF(P:Program)(G:L_)(os:List HOper)(st:St)[c:KC St]:Prop:=Mp P G os st c.k
def PV(P:Program)(G:L_)(d:HD)(st:St)[c:KC St]:Prop:=JV P G d st c.k
def cW(P:Program)(G:L_)(c:HC)(st:St)[q:QC]:Prop:=fZ P G c q.q st
def L9(a:HFun)(args:O0)(T:aK)(post:AV->aK->Prop):aHq P G a args T post=@cW P G a.code ⟨T.length,aLJ 0 args,T⟩ ⟨aCx a.res post⟩:=fI rfl rfl
def aKY(a:HFun)(args:O0)(T:aK)(post:AV->aK->Prop):aF8 P G a args T post=@cW P G a.code ⟨T.length,aLJ 0 args,T⟩ ⟨aCz a.res post⟩:=fI rfl rfl
def aJl(K:St->Prop):@UF P G [] st ⟨K⟩=K st:=fI rfl rfl
def aIY(d:Option Nat)(o:HOp)(os:List HOper)(K:St->Prop):@UF P G (⟨d,o,none⟩::os) st ⟨K⟩=@vR P G st o ⟨λx T=>@UF P G os ⟨st.r,fV st.s d x,T⟩ ⟨K⟩⟩:=fI rfl rfl
attribute [go_sem] L9 aKY aJl aIY
@[go_sem] def aHs(d:Option Nat)(o:HOp)(j:Nat)(b:Bool)(os:List HOper)(K:St->Prop):
 @UF P G (⟨d,o,some (j,b)⟩::os) st ⟨K⟩=@Ai Bool (fY st.s (some (j,b))) ⟨λt=>@Gv t ⟨@vR P G st o ⟨λx T=>@UF P G os ⟨st.r,fV st.s d x,T⟩ ⟨K⟩⟩⟩ ⟨@UF P G os ⟨st.r,fV st.s d (.v undef),st.T⟩ ⟨K⟩⟩⟩:=by
 simp only[UF,Mp];unfold Ai
 cases fY st.s (some (j,b)) with
 |none=>rfl|some t=>cases t<;>rfl
def aAb(P:Program)(G:L_)(i:Nat)(args:O0)(T:aK)[c:KT]:Prop:=DA P G i args T c.k
def aAc(P:Program)(G:L_)(f:AV)(args:O0)(T:aK)[c:KT]:Prop:=match fnA f with|.cl g a=>aK8 P G g (args++a) T|.bm g k b=>aK8 P G g (b.take k++args++b.drop k) T|.yl i=>aAb P G i args T|_=>False
def aKZ(g:Nat)(a args:O0)(T:aK)(K:AV->aK->Prop):@aAc P G (.cl g a) args T ⟨K⟩=@aK8 P G g (args++a) T ⟨K⟩:=fI rfl rfl
def aL0(g k:Nat)(cs args:O0)(T:aK)(K:AV->aK->Prop):@aAc P G (.bm g k cs) args T ⟨K⟩=@aK8 P G g (cs.take k++args++cs.drop k) T ⟨K⟩:=fI rfl rfl
def aL1(i:Nat)(args:O0)(T:aK)(K:AV->aK->Prop):@aAc P G (.yl i) args T ⟨K⟩=@aAb P G i args T ⟨K⟩:=fI rfl rfl
def aL2(g:Nat)(args:O0)(T:aK)(K:AV->aK->Prop):@aAc P G (.v (.func (.func g) #[] #[])) args T ⟨K⟩=@aK8 P G g (args++[]) T ⟨K⟩:=fI rfl rfl
attribute [go_sem] aKZ aL0 aL1 aL2
@[go_sem] def aJm(f:Operand)(a:List Operand)(K:AV->aK->Prop):@vR P G st (.call f a) ⟨K⟩=@aAc P G (dW G st.s f) (a.map (dW G st.s)) st.T ⟨K⟩:=by simp only[vR,yF];unfold aAc;cases fnA (dW G st.s f)<;>rfl
def aJn:HOp->Bool|.call _ _|.nxt _|.nilS _ _ _=>false|_=>true
def aGf(P:Program)(G:L_)(st:St)(o:HOp)[c:KT]:Prop:=@Ai (AV×aK) (cE st.T (dW G st.s) o) ⟨λp=>c.k p.1 p.2⟩
@[go_sem] def aL3(o:HOp)(K:AV->aK->Prop):@aGf P G st o ⟨K⟩=@Ai (AV×aK) (cE st.T (dW G st.s) o) ⟨λp=>K p.1 p.2⟩:=fI rfl rfl
def bU{o:HOp}{K:AV->aK->Prop}(h:aJn o=true):@vR P G st o ⟨K⟩=@aGf P G st o ⟨K⟩:=by
 cases o with
 |call f l=>cases h
 |nxt p=>cases h
 |nilS n k x=>cases h
 |_=>
  simp only[vR,yF];unfold aGf Ai
  cases cE st.T (dW G st.s) _ with
  |none=>rfl|some p=>rfl
def aL4{x} K:@vR P G st (.mov x) ⟨K⟩=@aGf P G st (.mov x) ⟨K⟩:=bU rfl
def aJo{c a b} K:@vR P G st (.pick c a b) ⟨K⟩=@aGf P G st (.pick c a b) ⟨K⟩:=bU rfl
def aL5{op x y} K:@vR P G st (.bin op x y) ⟨K⟩=@aGf P G st (.bin op x y) ⟨K⟩:=bU rfl
def aL6{neg ks x y} K:@vR P G st (.eqa neg ks x y) ⟨K⟩=@aGf P G st (.eqa neg ks x y) ⟨K⟩:=bU rfl
def aL7{neg x y} K:@vR P G st (.eqb neg x y) ⟨K⟩=@aGf P G st (.eqb neg x y) ⟨K⟩:=bU rfl
def aNa{op x} K:@vR P G st (.un op x) ⟨K⟩=@aGf P G st (.un op x) ⟨K⟩:=bU rfl
def aJp{k x} K:@vR P G st (.conv k x) ⟨K⟩=@aGf P G st (.conv k x) ⟨K⟩:=bU rfl
def aL8{x} K:@vR P G st (.box x) ⟨K⟩=@aGf P G st (.box x) ⟨K⟩:=bU rfl
def aIZ{z} K:@vR P G st (.alloc z) ⟨K⟩=@aGf P G st (.alloc z) ⟨K⟩:=bU rfl
def aL9{z parts} K:@vR P G st (.bld z parts) ⟨K⟩=@aGf P G st (.bld z parts) ⟨K⟩:=bU rfl
def aLa{k z parts len} K:@vR P G st (.bsl k z parts len) ⟨K⟩=@aGf P G st (.bsl k z parts len) ⟨K⟩:=bU rfl
def aNb{n p} K:@vR P G st (.ld n p) ⟨K⟩=@aGf P G st (.ld n p) ⟨K⟩:=bU rfl
def aNc{n p x} K:@vR P G st (.st n p x) ⟨K⟩=@aGf P G st (.st n p x) ⟨K⟩:=bU rfl
def aLb{p off} K:@vR P G st (.fad p off) ⟨K⟩=@aGf P G st (.fad p off) ⟨K⟩:=bU rfl
def aLc{x off n} K:@vR P G st (.fld x off n) ⟨K⟩=@aGf P G st (.fld x off n) ⟨K⟩:=bU rfl
def aLd{x ix k} K:@vR P G st (.iad x ix k) ⟨K⟩=@aGf P G st (.iad x ix k) ⟨K⟩:=bU rfl
def aJq{x ix len k} K:@vR P G st (.iadA x ix len k) ⟨K⟩=@aGf P G st (.iadA x ix len k) ⟨K⟩:=bU rfl
def aLe{x ix} K:@vR P G st (.ixS x ix) ⟨K⟩=@aGf P G st (.ixS x ix) ⟨K⟩:=bU rfl
def aJr{x} K:@vR P G st (.lenS x) ⟨K⟩=@aGf P G st (.lenS x) ⟨K⟩:=bU rfl
def aJs{x} K:@vR P G st (.lenL x) ⟨K⟩=@aGf P G st (.lenL x) ⟨K⟩:=bU rfl
def aLf{x y k bytes} K:@vR P G st (.app x y k bytes) ⟨K⟩=@aGf P G st (.app x y k bytes) ⟨K⟩:=bU rfl
def aLg{x i} K:@vR P G st (.ext x i) ⟨K⟩=@aGf P G st (.ext x i) ⟨K⟩:=bU rfl
def aLh{f caps} K:@vR P G st (.clo f caps) ⟨K⟩=@aGf P G st (.clo f caps) ⟨K⟩:=bU rfl
def aJt{x} K:@vR P G st (.nilc x) ⟨K⟩=@aGf P G st (.nilc x) ⟨K⟩:=bU rfl
def aLi{x lo hi k} K:@vR P G st (.slc x lo hi k) ⟨K⟩=@aGf P G st (.slc x lo hi k) ⟨K⟩:=bU rfl
def aXR{x lo hi} K:@vR P G st (.slcS x lo hi) ⟨K⟩=@aGf P G st (.slcS x lo hi) ⟨K⟩:=bU rfl
attribute [go_sem] aL4 aJo aL5 aL6 aL7 aNa aJp aL8 aIZ aL9 aLa aNb aNc aLb aLc aLd aJq aLe aJr aJs aLf aLg aLh aJt aLi aXR
@[go_sem] def aJv{neg kd x}(K:AV->aK->Prop):@vR P G st (.nilS neg kd x) ⟨K⟩=@Gv (Te kd (dW G st.s x)) ⟨K (.v (.bool true)) st.T/\K (.v (.bool false)) st.T⟩ ⟨@Ai (AV×aK) (cE st.T (dW G st.s) (.nilS neg kd x)) ⟨λp=>K p.1 p.2⟩⟩:=by
 simp only[vR,yF];unfold Gv Ai;split<;>rename_i h;rw[h];rfl;have h:Te kd (dW G st.s x)=false:=n_;rw[h];simp only
 cases cE st.T (dW G st.s) (.nilS neg kd x) with
 |none=>rfl|some p=>rfl
def aNd{mx x y} K:@vR P G st (.mm mx x y) ⟨K⟩=@aGf P G st (.mm mx x y) ⟨K⟩:=bU rfl
def aLj{ag} K:@vR P G st (.mkm ag) ⟨K⟩=@aGf P G st (.mkm ag) ⟨K⟩:=bU rfl
def aLk{ag ls z m k ok} K:@vR P G st (.lku ag ls z m k ok) ⟨K⟩=@aGf P G st (.lku ag ls z m k ok) ⟨K⟩:=bU rfl
def aLl{ag ls m k x} K:@vR P G st (.mup ag ls m k x) ⟨K⟩=@aGf P G st (.mup ag ls m k x) ⟨K⟩:=bU rfl
def aLm{ag ls z m k} K:@vR P G st (.men ag ls z m k) ⟨K⟩=@aGf P G st (.men ag ls z m k) ⟨K⟩:=bU rfl
def aLn{m s x} K:@vR P G st (.mst m s x) ⟨K⟩=@aGf P G st (.mst m s x) ⟨K⟩:=bU rfl
def aLo{ag ls m k} K:@vR P G st (.del ag ls m k) ⟨K⟩=@aGf P G st (.del ag ls m k) ⟨K⟩:=bU rfl
def aJw{m} K:@vR P G st (.lenM m) ⟨K⟩=@aGf P G st (.lenM m) ⟨K⟩:=bU rfl
def aLp{k z bytes x y} K:@vR P G st (.mks k z bytes x y) ⟨K⟩=@aGf P G st (.mks k z bytes x y) ⟨K⟩:=bU rfl
def aLq{x} K:@vR P G st (.s2b x) ⟨K⟩=@aGf P G st (.s2b x) ⟨K⟩:=bU rfl
def aLr{x} K:@vR P G st (.b2s x) ⟨K⟩=@aGf P G st (.b2s x) ⟨K⟩:=bU rfl
def aYz{x} K:@vR P G st (.b2b x) ⟨K⟩=@aGf P G st (.b2b x) ⟨K⟩:=bU rfl
def aLt{x y} K:@vR P G st (.apS x y) ⟨K⟩=@aGf P G st (.apS x y) ⟨K⟩:=bU rfl
def aLu{f k cs} K:@vR P G st (.bmo f k cs) ⟨K⟩=@aGf P G st (.bmo f k cs) ⟨K⟩:=bU rfl
def aJx{k z ps len} K:@vR P G st (.bslS k z ps len) ⟨K⟩=@aGf P G st (.bslS k z ps len) ⟨K⟩:=bU rfl
def aYA(K:AV->aK->Prop):@vR P G st .bad ⟨K⟩=False:=fI rfl rfl
def aLw{m} K:@vR P G st (.rgm m) ⟨K⟩=@aGf P G st (.rgm m) ⟨K⟩:=bU rfl
def aLx{m} K:@vR P G st (.ent m) ⟨K⟩=@aGf P G st (.ent m) ⟨K⟩:=bU rfl
def aLy{x k z} K:@vR P G st (.clr x k z) ⟨K⟩=@aGf P G st (.clr x k z) ⟨K⟩:=bU rfl
attribute [go_sem] aNd aLj aLk aLl aLm aLn aLo aJw aLp aLq aLr aYz aLt aLu aJx aYA aLw aLx aLy
def aCA(T:aK)(x:AV)[c:KT]:Prop:=match x with
 | .ptr i 0=>match cR T i with
  |some (.mit none _ _ _)=>c.k (.v (.tuple #[.bool false])) T|some (.mit (some j) a d g)=>match cR T j with
   | some (.map m h f bs l)=>a<=g/\(∀b∈bs,b<a)/\((∀b∈bs,b∈d)->c.k (.v (.tuple #[.bool false])) T) /\
     ∀(e:Nat)(k:O5)(v:AV)(b:Nat),h[e]?=some k->f[e]?=some v->bs[e]?=some b->b∉d ->
      c.k (.tup [.v (.bool true),.v (iY m k),v]) (T.set i (some (.mit (some j) a (d++[b]) l)))
   |_=>False
  |_=>False
 |_=>False
def aLz{p}(K:AV->aK->Prop):@vR P G st (.nxt p) ⟨K⟩=@aCA st.T (dW G st.s p) ⟨K⟩:=fI rfl rfl
def aLA{x lo hi mx k} K:@vR P G st (.slx x lo hi mx k) ⟨K⟩=@aGf P G st (.slx x lo hi mx k) ⟨K⟩:=bU rfl
def aJy(b:Bool)(K:St->Prop):@PV P G (.done b) st ⟨K⟩=K (if b then DB [] st else st):=fI rfl rfl
def aNe(K:St->Prop):@PV P G .no st ⟨K⟩=True:=fI rfl rfl
attribute [go_sem] aLz aLA aJy aNe
@[go_sem] def aO6(d:Option Nat)(o:HOp)(n:HD)(K:St->Prop):@PV P G (.q ⟨d,o,none⟩ n) st ⟨K⟩=@Ai (AV×aK) (cE st.T (dW G st.s) o) ⟨λp=>@PV P G n ⟨st.r,fV st.s d p.1,st.T⟩ ⟨K⟩⟩:=by
 simp only[PV,JV,fY];unfold Ai
 cases cE st.T (dW G st.s) o with
 |none=>rfl|some p=>rfl
@[go_sem] def aNf(d:Option Nat)(o:HOp)(j:Nat)(b:Bool)(n:HD)(K:St->Prop):
 @PV P G (.q ⟨d,o,some (j,b)⟩ n) st ⟨K⟩=@Ai Bool (fY st.s (some (j,b))) ⟨λt=>@Gv t ⟨@Ai (AV×aK) (cE st.T (dW G st.s) o) ⟨λp=>@PV P G n ⟨st.r,fV st.s d p.1,st.T⟩ ⟨K⟩⟩⟩ ⟨@PV P G n ⟨st.r,fV st.s d (.v undef),st.T⟩ ⟨K⟩⟩⟩:=by
 simp only[PV,JV];unfold Ai
 cases fY st.s (some (j,b)) with
 |none=>rfl| some t=>
  cases t;rfl
  cases cE st.T (dW G st.s) o with
  |none=>rfl|some p=>rfl
@[go_sem] def aLB(d:Option Nat)(o:HOp)(a:List HOper)(n m:HD)(K:St->Prop):
 @PV P G (.alt ⟨d,o,none⟩ a n m) st ⟨K⟩=((@vR P G st o ⟨λx T=>qL G ⟨st.r,fV st.s d x,T⟩ a/\@PV P G n ⟨st.r,fV st.s d x,T⟩ ⟨K⟩⟩)/\@PV P G m st ⟨K⟩):=fI rfl rfl
@[go_sem] def aJz(d:Option Nat)(o:HOp)(j:Nat)(b:Bool)(a:List HOper)(n m:HD)(K:St->Prop):
 @PV P G (.alt ⟨d,o,some (j,b)⟩ a n m) st ⟨K⟩=((@Ai Bool (fY st.s (some (j,b))) ⟨λt=>@Gv t ⟨@vR P G st o ⟨λx T=>qL G ⟨st.r,fV st.s d x,T⟩ a/\@PV P G n ⟨st.r,fV st.s d x,T⟩ ⟨K⟩⟩⟩
  ⟨qL G ⟨st.r,fV st.s d (.v undef),st.T⟩ a/\@PV P G n ⟨st.r,fV st.s d (.v undef),st.T⟩ ⟨K⟩⟩⟩)/\@PV P G m st ⟨K⟩):=by
 simp only[PV,JV];unfold Ai
 cases fY st.s (some (j,b)) with
 |none=>rfl|some t=>cases t<;>rfl
def aHt(Q:Ex->St->Prop):@cW P G .skip st ⟨Q⟩=Q .normal st:=fI rfl rfl
def aJ0(l:List HOper)(Q:Ex->St->Prop):@cW P G (.reg l) st ⟨Q⟩=@UF P G l st ⟨Q .normal⟩:=fI rfl rfl
def aHu(d:HD)(Q:Ex->St->Prop):@cW P G (.regd d) st ⟨Q⟩=@PV P G d st ⟨Q .normal⟩:=fI rfl rfl
def aHv(d:O3)(Q:Ex->St->Prop):@cW P G (.kill d) st ⟨Q⟩=Q .normal ⟨st.r,aH8 d st.s,st.T⟩:=fI rfl rfl
def aJ1(j:Nat)(c:Option Nat)(k:Nat)(Q:Ex->St->Prop):@cW P G (.own j c k) st ⟨Q⟩=Q .normal (QT st j c k):=fI rfl rfl
def aHw(j:Nat)(Q:Ex->St->Prop):@cW P G (.shut j) st ⟨Q⟩=Q .normal (DB [] (Rk st j)):=fI rfl rfl
def aHx(i:Nat)(Q:Ex->St->Prop):@cW P G (.exit i) st ⟨Q⟩=Q (.exit i) st:=fI rfl rfl
def aJ2(Q:Ex->St->Prop):@cW P G .ret st ⟨Q⟩=Q .ret st:=fI rfl rfl
attribute [go_sem] aHt aJ0 aHu aHv aJ1 aHw aHx aJ2
def HH[c:KC St][q:QC]:Ex->St->Prop|.normal,s=>c.k s|.exit i,s=>q.q (.exit i) s|.ret,s=>q.q .ret s
def aHy(K:St->Prop)(Q:Ex->St->Prop)(s:St):@HH ⟨K⟩ ⟨Q⟩ .normal s=K s:=fI rfl rfl
def aHz(K:St->Prop)(Q:Ex->St->Prop)(i:Nat)(s:St):@HH ⟨K⟩ ⟨Q⟩ (.exit i) s=Q (.exit i) s:=fI rfl rfl
def aHA(K:St->Prop)(Q:Ex->St->Prop)(s:St):@HH ⟨K⟩ ⟨Q⟩ .ret s=Q .ret s:=fI rfl rfl
attribute [go_sem] aHy aHz aHA
@[go_sem] def bC(a b:HC)(Q:Ex->St->Prop):@cW P G (.seq a b) st ⟨Q⟩=@cW P G a st ⟨@HH ⟨λs=>@cW P G b s ⟨Q⟩⟩ ⟨Q⟩⟩:=by simp only[cW,fZ];congr 1;funext e s;cases e<;>rfl
def HI(id:Nat)[q:QC]:Ex->St->Prop|.normal,s=>q.q .normal s|.exit i,s=>if i=id then q.q .normal s else q.q (.exit i) s|.ret,s=>q.q .ret s
def aJA(id:Nat)(Q:Ex->St->Prop)(s:St):@HI id ⟨Q⟩ .normal s=Q .normal s:=fI rfl rfl
def aJB(id i:Nat)(Q:Ex->St->Prop)(s:St):@HI id ⟨Q⟩ (.exit i) s=if i=id then Q .normal s else Q (.exit i) s:=fI rfl rfl
def aJC(id:Nat)(Q:Ex->St->Prop)(s:St):@HI id ⟨Q⟩ .ret s=Q .ret s:=fI rfl rfl
attribute [go_sem] aJA aJB aJC
@[go_sem] def aGV(id:Nat)(a:HC)(Q:Ex->St->Prop):@cW P G (.block id a) st ⟨Q⟩=@cW P G a st ⟨@HI id ⟨Q⟩⟩:=by simp only[cW,fZ];congr 1;funext e s;cases e<;>rfl
@[go_sem] def aHB(c:Operand)(a b:HC)(Q:Ex->St->Prop):@cW P G (.cond c a b) st ⟨Q⟩=@aCv (dW G st.s c) ⟨λt=>@Gv t ⟨@cW P G a st ⟨Q⟩⟩ ⟨@cW P G b st ⟨Q⟩⟩⟩:=by simp only[cW,fZ];unfold aCv;split;rename_i t h;rw[h];cases t<;>rfl;rename_i h;split;rename_i t d;exact absurd d (h t);rfl
def Et(d:O3)[c:KC St][q:QC]:Ex->St->Prop|.normal,s=>c.k (DB d s)|.exit i,s=>q.q (.exit i) s|.ret,s=>q.q .ret s
def aLC(d:O3)(J:St->Prop)(Q:Ex->St->Prop)(s:St):@Et d ⟨J⟩ ⟨Q⟩ .normal s=J (DB d s):=fI rfl rfl
def aLD(d:O3)(J:St->Prop)(Q:Ex->St->Prop)(i:Nat)(s:St):@Et d ⟨J⟩ ⟨Q⟩ (.exit i) s=Q (.exit i) s:=fI rfl rfl
def aLE(d:O3)(J:St->Prop)(Q:Ex->St->Prop)(s:St):@Et d ⟨J⟩ ⟨Q⟩ .ret s=Q .ret s:=fI rfl rfl
attribute [go_sem] aLC aLD aLE
def oN{c:HC}{Q a:Ex->St->Prop}{st:St}(h:∀e s,Q e s->a e s)(b:@cW P G c st ⟨Q⟩):@cW P G c st ⟨a⟩:=jF h b
def aF9{d:O3}{a:HC}{Q:Ex->St->Prop}(I:Nat->St->Prop)(n:Nat)(h0:I n (DB d st)\/I n st)(g:∀n s,I n s->@cW P G a s ⟨@Et d ⟨λc=>∃m,m<n/\I m c⟩ ⟨Q⟩⟩):@cW P G (.loop d a) st ⟨Q⟩:=by
 refine⟨I,⟨n,h0⟩,λn s f=>?_⟩;have:=g n s f;refine jF (λe s b=>?_) this
 cases e with
 |normal=>exact⟨b.choose,b.choose_spec.1,.inl b.choose_spec.2⟩|exit i=>exact b|ret=>exact b
def Kv[c:KC St][q:QC]:Ex->St->Prop|.normal,s=>c.k s|.exit i,s=>q.q (.exit i) s|.ret,s=>q.q .ret s
def aLF(J:St->Prop)(Q:Ex->St->Prop)(s:St):@Kv ⟨J⟩ ⟨Q⟩ .normal s=J s:=fI rfl rfl
def aLG(J:St->Prop)(Q:Ex->St->Prop)(i:Nat)(s:St):@Kv ⟨J⟩ ⟨Q⟩ (.exit i) s=Q (.exit i) s:=fI rfl rfl
def aLH(J:St->Prop)(Q:Ex->St->Prop)(s:St):@Kv ⟨J⟩ ⟨Q⟩ .ret s=Q .ret s:=fI rfl rfl
attribute [go_sem] aLF aLG aLH
def kL{d:O3}{a:HC}{Q:Ex->St->Prop}(I:Nat->St->Prop)(n:Nat)(h0:I n st)(g:∀n s,I n s->@cW P G a s ⟨@Kv ⟨λc=>∃m,m<n/\I m c⟩ ⟨Q⟩⟩):@cW P G (.loop d a) st ⟨Q⟩:=by
 refine⟨I,⟨n,.inr h0⟩,λn s f=>?_⟩;refine jF (λe s b=>?_) (g n s f)
 cases e with
 |normal=>exact⟨b.choose,b.choose_spec.1,.inr b.choose_spec.2⟩|exit i=>exact b|ret=>exact b
def cO{d:O3}{a:HC}{Q:Ex->St->Prop}(I:Nat->St->Prop)(n:Nat)(h0:I n (DB d st))(c:∀n s,I n s->@cW P G a s ⟨@Et d ⟨λb=>∃m,m<n/\I m b⟩ ⟨Q⟩⟩):@cW P G (.loop d a) st ⟨Q⟩:=by exact aF9 I n (.inl h0) c
def DL{d:O3}{J a:St->Prop}{Q:Ex->St->Prop}(h:∀s,J s->a s):∀e s,@Et d ⟨J⟩ ⟨Q⟩ e s->@Et d ⟨a⟩ ⟨Q⟩ e s:=by
 intro e s
 cases e with
 |normal=>exact h _|exit i=>exact id|ret=>exact id
def aQ{d:O3}{a:HC}{Q:Ex->St->Prop}(N:Nat)(S:Nat->St)(J:Nat->Prop)(h0:DB d st=S 0)(f:J 0)(g:∀i,i<N->J i->@cW P G a (S i) ⟨@Et d ⟨λe=>e=S (i+1)/\J (i+1)⟩ ⟨Q⟩⟩)
 (j:J N->@cW P G a (S N) ⟨@Et d ⟨λ_=>False⟩ ⟨Q⟩⟩):@cW P G (.loop d a) st ⟨Q⟩:=by
 apply cO (λn s=>∃i,i<=N/\n=N-i/\s=S i/\J i) N ⟨0,pR _,k_,h0,f⟩;rintro n s ⟨i,m,rfl,rfl,c⟩;rcases eD i N with b|k;exact oN (DL λs ⟨l,h2⟩=>⟨N-(i+1),o_,i+1,o_,rfl,l,h2⟩) (g i b c);obtain rfl:i=N:=o_;exact oN (DL λs h=>h.elim) (j c)
def aCB(i:Nat)(r:Loop)(s:List (Nat×AV))(n:Nat)[c:KT]:Ex->St->Prop|.normal,a=>c.k (.v (.bool true)) ((DB [] ⟨n,[],a.T⟩).T.set i (some (.lp r s)))|.exit id,a=>c.k (.v (.bool false)) ((DB [] ⟨n,[],a.T⟩).T.set i (some (.lp (left r (.exit id)) s)))|.ret,a=>c.k (.v (.bool false)) ((DB [] ⟨n,[],a.T⟩).T.set i (some (.lp (left r .ret) s)))
def aNg(i:Nat)(r:Loop)(s:List (Nat×AV))(n:Nat)(K:AV->aK->Prop)(st:St):@aCB i r s n ⟨K⟩ .normal st=K (.v (.bool true)) ((DB [] ⟨n,[],st.T⟩).T.set i (some (.lp r s))):=fI rfl rfl
def aZt(i:Nat)(r:Loop)(s:List (Nat×AV))(n:Nat)(K:AV->aK->Prop)(id:Nat)(st:St):@aCB i r s n ⟨K⟩ (.exit id) st=K (.v (.bool false)) ((DB [] ⟨n,[],st.T⟩).T.set i (some (.lp (left r (.exit id)) s))):=fI rfl rfl
def aZu(i:Nat)(r:Loop)(s:List (Nat×AV))(n:Nat)(K:AV->aK->Prop)(st:St):@aCB i r s n ⟨K⟩ .ret st=K (.v (.bool false)) ((DB [] ⟨n,[],st.T⟩).T.set i (some (.lp (left r .ret) s))):=fI rfl rfl
attribute [go_sem] aNg aZt aZu
def aCC(i:Nat)(r:Loop)(s:List (Nat×AV))[c:KT]:Ex->St->Prop|.normal,a=>c.k (.v (.bool true)) (a.T.set i (some (.lp r s)))|.exit id,a=>c.k (.v (.bool false)) (a.T.set i (some (.lp (left r (.exit id)) s)))|.ret,a=>c.k (.v (.bool false)) (a.T.set i (some (.lp (left r .ret) s)))
def aNj(i:Nat)(r:Loop)(s:List (Nat×AV))(K:AV->aK->Prop)(st:St):@aCC i r s ⟨K⟩ .normal st=K (.v (.bool true)) (st.T.set i (some (.lp r s))):=fI rfl rfl
def aZv(i:Nat)(r:Loop)(s:List (Nat×AV))(K:AV->aK->Prop)(id:Nat)(st:St):@aCC i r s ⟨K⟩ (.exit id) st=K (.v (.bool false)) (st.T.set i (some (.lp (left r (.exit id)) s))):=fI rfl rfl
def aZw(i:Nat)(r:Loop)(s:List (Nat×AV))(K:AV->aK->Prop)(st:St):@aCC i r s ⟨K⟩ .ret st=K (.v (.bool false)) (st.T.set i (some (.lp (left r .ret) s))):=fI rfl rfl
attribute [go_sem] aNj aZv aZw
def aFa(r:Nat)(s:List (Nat×AV))(n:Nat)(T:aK)[q:QC]:Prop :=
 match cR T n with
 |some (.lp rec _)=>rec.state≠.busy/\(match rec.pending with|none=>q.q .normal ⟨r,s,T.set n none⟩|some (.exit id)=>q.q (.exit id) ⟨r,s,T.set n none⟩|some .ret=>q.q .ret ⟨r,s,T.set n none⟩|_=>False)
 |_=>False
def aJD(P:Program)(G:L_)(r:Loop)(ps:O3)(a b:HC):Prop :=
 ∀(i:Nat)(s:List (Nat×AV))(T:aK)(args:O0)(K:AV->aK->Prop),cR T i=some (.lp r s)->args.length=ps.length ->
  (@cW P G a ⟨T.length,yJ s ps args,T.set i none⟩ ⟨@HH ⟨λc=>@cW P G b c ⟨@aCB i r s T.length ⟨K⟩⟩⟩ ⟨λ_ _=>False⟩⟩)->@aAb P G i args T ⟨K⟩
def aHC(P:Program)(G:L_)(r:Loop)(ps:O3)(a b:HC):Prop :=
 ∀(i:Nat)(s:List (Nat×AV))(T:aK)(args:O0)(K:AV->aK->Prop),cR T i=some (.lp r s)->args.length=ps.length ->
  (@cW P G a ⟨T.length,yJ s ps args,T.set i none⟩ ⟨@HH ⟨λc=>@cW P G b c ⟨@aCC i r s ⟨K⟩⟩⟩ ⟨λ_ _=>False⟩⟩)->@aAb P G i args T ⟨K⟩
def NX{g:Operand}{ps d:O3}{a b:HC}{Q:Ex->St->Prop}{f:FuncId}{caps:O0}(hg:dW G st.s g=.cl f caps)(hb:Rl P f)
 (h:∀r:Loop,r.state=.ready->r.pending=none->aJD P G r ps a b->aHC P G r ps a b ->
  @aK8 P G f (.yl st.T.length::caps) (st.T++[some (.lp r (Gr d st.s))]) ⟨λ_ T2=>@aFa st.r st.s st.T.length T2 ⟨Q⟩⟩):@cW P G (.rng g ps d a b) st ⟨Q⟩:=by
 show fZ P G (.rng g ps d a b) Q st;simp only[fZ];intro r h1 h2 h3 hy;rw[hg];refine⟨hb,?_⟩;have key:∀(R:Nat->Loop->List (Nat×AV)->Nat->(AV->aK->Prop)->Ex->St->Prop),(∀i s n K e st,R i r s n K e st->JZ i r s n K e st) ->
  ∀(i:Nat)(s:List (Nat×AV))(T:aK)(args:O0)(K:AV->aK->Prop),cR T i=some (.lp r s)->args.length=ps.length ->
  (@cW P G a ⟨T.length,yJ s ps args,T.set i none⟩ ⟨@HH ⟨λs1=>@cW P G b s1 ⟨R i r s T.length K⟩⟩ ⟨λ_ _=>False⟩⟩)->@aAb P G i args T ⟨K⟩:=by
  intro R hR i s T args K hi hl hc;refine hy i s T args K hi hl (jF (λe s1 hq=>?_) hc)
  cases e with
  |normal=>exact jF (λe s2 h2=>hR _ _ _ _ _ _ h2) hq
  |exit i=>exact hq
  |ret=>exact hq
 refine h r h1 h2 (key (λi r s n K=>@aCB i r s n ⟨K⟩) λi s n K e st hq=>?_) (key (λi r s n K=>@aCC i r s ⟨K⟩) λi s n K e st hq=>?_);cases e<;>exact⟨true,hq⟩;cases e<;>exact⟨false,hq⟩
def jG{c:HC}{id:Nat}{K:St->Prop}{Q:Ex->St->Prop}(R:St->Prop)(h:@cW P G c st ⟨@HI id ⟨@HH ⟨R⟩ ⟨Q⟩⟩⟩)(b:∀s,R s->K s):@cW P G c st ⟨@HI id ⟨@HH ⟨K⟩ ⟨Q⟩⟩⟩:=by
 refine oN (λe s a=>?_) h
 cases e with
 |normal=>exact b s a|exit i=>
  simp only[HI]at a⊢;split;rename_i e;rw[if_pos e]at a;exact b s a;rename_i e;rw[if_neg e]at a;exact a
 |ret=>exact a
def Xs{c:HC}{K:St->Prop}{Q:Ex->St->Prop}(R:St->Prop)(h:@cW P G c st ⟨@HH ⟨R⟩ ⟨Q⟩⟩)(b:∀s,R s->K s):@cW P G c st ⟨@HH ⟨K⟩ ⟨Q⟩⟩:=by
 refine oN (λe s a=>?_) h
 cases e with
 |normal=>exact b s a|exit i=>exact a|ret=>exact a
def aFb{d:O3}{a:HC}{Q:Ex->St->Prop}(N:Nat)(S:Nat->St)(J:Nat->Prop)(h0:DB d st=S N)(e:J N)(f:∀k,k<N->J (k+1)->@cW P G a (S (k+1)) ⟨@Et d ⟨λc=>c=S k/\J k⟩ ⟨Q⟩⟩)
 (g:J 0->@cW P G a (S 0) ⟨@Et d ⟨λ_=>False⟩ ⟨Q⟩⟩):@cW P G (.loop d a) st ⟨Q⟩:=by
 apply cO (λn s=>n<=N/\s=S n/\J n) N ⟨cN _,h0,e⟩;rintro n s ⟨j,rfl,b⟩
 cases n with
 |zero=>exact oN (DL λs h=>h.elim) (g b)|succ n=>exact oN (DL λs ⟨i,h2⟩=>⟨n,o_,o_,i,h2⟩) (f n o_ b)
end
attribute [go_sem] Gq uS Te sZ jE PO Gr yJ aFa aHi XQ bkF bkS PS Td left cE dW bA fV GW LE aH8 aLJ cR dT Vu Mo gS aX bV pun eqC rJ fY aCx aCw aCz aCy Jk aCt R6 Rj Zj Kp Bc Ee IC MM iZ aC3 aJi Bd xF GX YQ TO DB gP LG
 QT Rk Ef shutI CB IB Vq QS QR tB xG fX tC xH AR EJ DC IF bk LF G6 aK4 aC2 JY yI qL
attribute [go_sem] ne_eq not_false_eq_true not_true_eq_false H6 Option.bind_none if_true if_false jJ true_and and_true sW oX sE gQ fG uP QI aBO uQ TZ List.take_nil List.drop_nil
 jC dM jO List.all_cons aGL yH aBY lI sF List.set_cons_zero yG List.contains_cons List.contains_nil rI iX xD
 nI Int.natCast_nonneg decide_true decide_false Bool.not_eq_true
def aLI:List.range 0=[]:=fI rfl rfl
def aYB:List.range 1=[0]:=fI rfl rfl
def aYC:List.range 2=[0,1]:=fI rfl rfl
def aYD:List.range 3=[0,1,2]:=fI rfl rfl
def aYE:List.range 4=[0,1,2,3]:=fI rfl rfl
def aYF:List.range 5=[0,1,2,3,4]:=fI rfl rfl
def aYG:List.range 6=[0,1,2,3,4,5]:=fI rfl rfl
def aYH:List.range 7=[0,1,2,3,4,5,6]:=fI rfl rfl
def aYI:List.range 8=[0,1,2,3,4,5,6,7]:=fI rfl rfl
def aYJ:List.range 9=[0,1,2,3,4,5,6,7,8]:=fI rfl rfl
def aXS:List.range 10=[0,1,2,3,4,5,6,7,8,9]:=fI rfl rfl
def aXT:List.range 11=[0,1,2,3,4,5,6,7,8,9,10]:=fI rfl rfl
def aXU:List.range 12=[0,1,2,3,4,5,6,7,8,9,10,11]:=fI rfl rfl
def aXV:List.range 13=[0,1,2,3,4,5,6,7,8,9,10,11,12]:=fI rfl rfl
def aXW:List.range 14=[0,1,2,3,4,5,6,7,8,9,10,11,12,13]:=fI rfl rfl
def aXX:List.range 15=[0,1,2,3,4,5,6,7,8,9,10,11,12,13,14]:=fI rfl rfl
def aXY:List.range 16=[0,1,2,3,4,5,6,7,8,9,10,11,12,13,14,15]:=fI rfl rfl
attribute [go_sem] aLI aYB aYC aYD aYE aYF aYG aYH aYI aYJ aXS aXT aXU aXV aXW aXX aXY
@[go_sem] def aOl(b:Bool):(b==true)=b:=by cases b<;>rfl
@[go_sem] def aOm(b:Bool):(b==false)=!b:=by cases b<;>rfl
attribute [go_sem] Bool.not_not bne_self_eq_false beq_self_eq_true
attribute [go_sem] Nat.min_self aP dZ eC vY pQ mG QO cN pR QK cL bZ
attribute [go_sem] List.getD_cons_zero List.getD_cons_succ List.getD_nil
attribute [go_sem] EB Ed EI EH List.idxOf?_cons List.idxOf?_nil List.findIdx?_cons List.findIdx?_nil List.filter_cons List.filter_nil
def aNm:((0:Nat):Int)=0:=fI rfl rfl
def aHD:((1:Nat):Int)=1:=fI rfl rfl
def aNn:((2:Nat):Int)=2:=fI rfl rfl
def aNo:((3:Nat):Int)=3:=fI rfl rfl
def aNp:((4:Nat):Int)=4:=fI rfl rfl
def aNq:((5:Nat):Int)=5:=fI rfl rfl
def aNr:((6:Nat):Int)=6:=fI rfl rfl
def aZx:((7:Nat):Int)=7:=fI rfl rfl
def aZy:((8:Nat):Int)=8:=fI rfl rfl
def aZz:((9:Nat):Int)=9:=fI rfl rfl
def aYK:((10:Nat):Int)=10:=fI rfl rfl
def aYL:((11:Nat):Int)=11:=fI rfl rfl
def aYM:((12:Nat):Int)=12:=fI rfl rfl
def aYN:((13:Nat):Int)=13:=fI rfl rfl
def aLW:((14:Nat):Int)=14:=fI rfl rfl
def aYO:((15:Nat):Int)=15:=fI rfl rfl
def aYP:((16:Nat):Int)=16:=fI rfl rfl
def aYQ:((17:Nat):Int)=17:=fI rfl rfl
def aYR:((18:Nat):Int)=18:=fI rfl rfl
def aYS:((19:Nat):Int)=19:=fI rfl rfl
def aYT:((20:Nat):Int)=20:=fI rfl rfl
def aYU:((21:Nat):Int)=21:=fI rfl rfl
def aYV:((22:Nat):Int)=22:=fI rfl rfl
def aYW:((23:Nat):Int)=23:=fI rfl rfl
def aYX:((24:Nat):Int)=24:=fI rfl rfl
def aYY:((25:Nat):Int)=25:=fI rfl rfl
def aYZ:((26:Nat):Int)=26:=fI rfl rfl
def aZ0:((27:Nat):Int)=27:=fI rfl rfl
def aZ1:((28:Nat):Int)=28:=fI rfl rfl
def aZ2:((29:Nat):Int)=29:=fI rfl rfl
def aZ3:((30:Nat):Int)=30:=fI rfl rfl
def aZ4:((31:Nat):Int)=31:=fI rfl rfl
def aZ5:((32:Nat):Int)=32:=fI rfl rfl
attribute [go_sem] aNm aHD aNn aNo aNp aNq aNr aZx aZy aZz aYK aYL aYM aYN aLW aYO aYP aYQ aYR aYS aYT aYU aYV aYW aYX aYY aYZ aZ0 aZ1 aZ2 aZ3 aZ4 aZ5
@[go_sem] def aXZ(t a:Bool):(if t=true then AV.v (.bool a) else AV.v (.bool false))=AV.v (.bool (t&&a)):=by cases t<;>rfl
@[go_sem] def aZ6(t b:Bool):(if t=true then AV.v (.bool true) else AV.v (.bool b))=AV.v (.bool (t||b)):=by cases t<;>rfl
attribute [go_sem] yH mF lR Ea
attribute [go_sem] reduceCtorEq Nat.reduceEqDiff Nat.reduceBEq Nat.reduceAdd Nat.reduceSub Nat.reduceMul Nat.reduceLT Nat.reduceLeDiff Int.reduceEq Int.reduceLT Int.reduceLE Int.reduceToNat Int.reduceNeg Int.reduceBEq Int.reduceMul Int.reduceAdd Int.reduceSub
attribute [go_sem ↓] reduceIte
def aJ{n:Int}(a:-9223372036854775808<=n)(h2:n<=2^63-1):IntKind.i64.wrap n=n:=by simp[IntKind.wrap,IntKind.bits,IntKind.signed];omega
def Ib{n:Nat}(h:n<=2^63-1):IntKind.i64.wrap (n:Int)=n:=aJ o_ o_
def pC{n:Nat}(h:n<2^63-1):IntKind.i64.wrap ((n:Int)+1)=((n+1:Nat):Int):=by rw[aJ o_ o_];rfl
def fQ(n:Nat)(h:n<2^63-1):IntKind.i64.wrap ((n:Int)+1)=((n+1:Nat):Int):=pC h
def aNu{n:Nat}(h:n<2^63-1):IntKind.i64.wrap (((n+1:Nat):Int)-1)=n:=d_
@[go_sem] def aMg(n:Nat):decide (((n+1:Nat):Int)>0)=true:=decide_eq_true o_
@[go_sem] def aO7:decide ((0:Int)>0)=false:=fI rfl rfl
@[go_sem] def aY0:decide (((0:Nat):Int)>0)=false:=fI rfl rfl
@[go_sem] def aER{α a:Type}(f:α->a)(l:List α)(p:Nat):((l.map f).drop p).take (l.length-p)=(l.map f).drop p:=sG k_
@[go_sem] def aUI{α:Type}(l:List α)(p:Nat):(l.drop p).take (l.length-p)=l.drop p:=sG k_
@[go_sem] def aW8{α a:Type}(f:α->a)(l:List α):(l.map f).take l.length=l.map f:=sG k_
def aT{a b:Nat}(h:a<b):decide ((a:Int)<(b:Int))=true:=n_
def aS{a b:Nat}(h:¬a<b):decide ((a:Int)<(b:Int))=false:=n_
def aHE{a b:Nat}(h:((a:Int)!=(b:Int))=true):a≠b:=A_
def aHF{a b:Nat}(h:((a:Int)!=(b:Int))=false):a=b:=A_
def aO{α a:Type}(f:α->a)(l:List α)(i:Nat)(h:i<l.length):(l.map f)[i]?=some (f l[i]):=by simp[h]
mutual
def aJN{L:O3}:∀{x:AV},MM x=[]->Bd L x=x|.own _,h=>by simp[MM]at h|.ptr _ _,h=>by simp[MM]at h|.elt _ _ _ _,h=>by simp[MM]at h|.vw _ _ _ _,h=>by simp[MM]at h|.mp _,h=>by simp[MM]at h|.yl _,h=>by simp[MM]at h|.ag a,h=>by simp only[MM]at h;simp only[Bd];rw[yM h]|.cl f a,h=>by simp only[MM]at h;simp only[Bd];rw[yM h]|.bm f b a,h=>by simp only[MM]at h;simp only[Bd];rw[yM h]|.tup a,h=>by simp only[MM]at h;simp only[Bd];rw[yM h]|.v _,_=>rfl|.ls _ _,_=>rfl|.rp _,_=>rfl|.any,_=>rfl
def yM{L:O3}:∀{x:O0},iZ x=[]->xF L x=x|[],_=>rfl|c::a,h=>by simp only[iZ,X8]at h;simp only[xF];rw[aJN h.1,yM h.2]
end
mutual
def Yo{L:O3}{n:Nat}:∀{x:AV},MM x=[]->AR L n x=x|.own _,h=>by simp[MM]at h|.ptr _ _,h=>by simp[MM]at h|.elt _ _ _ _,h=>by simp[MM]at h|.vw _ _ _ _,h=>by simp[MM]at h|.mp _,h=>by simp[MM]at h|.yl _,h=>by simp[MM]at h|.ag a,h=>by simp only[MM]at h;simp only[AR];rw[HJ h]|.cl f a,h=>by simp only[MM]at h;simp only[AR];rw[HJ h]|.bm f b a,h=>by simp only[MM]at h;simp only[AR];rw[HJ h]|.tup a,h=>by simp only[MM]at h;simp only[AR];rw[HJ h]|.v _,_=>rfl|.ls _ _,_=>rfl|.rp _,_=>rfl|.any,_=>rfl
def HJ{L:O3}{n:Nat}:∀{x:O0},iZ x=[]->EJ L n x=x|[],_=>rfl|c::a,h=>by simp only[iZ,X8]at h;simp only[EJ];rw[Yo h.1,HJ h.2]
end
mutual
def aAd:∀x:AV,tV x x|.ag a=>by simp only[tV];exact .inl trivial|.v _=>by simp only[tV];exact .inl trivial|.own _=>by simp only[tV]|.ptr _ _=>by simp only[tV]|.elt _ _ _ _=>by simp only[tV]|.vw _ _ _ _=>by simp only[tV]|.mp _=>by simp only[tV]|.yl _=>by simp only[tV]|.cl _ _=>by simp only[tV]|.bm _ _ _=>by simp only[tV]|.tup _=>by simp only[tV]|.ls _ _=>by simp only[tV]|.rp _=>by simp only[tV]|.any=>by simp only[tV]
def aB:∀x:O0,EK x x|[]=>by simp only[EK]|c::a=>by simp only[EK];exact⟨c,a,rfl,aAd c,aB a⟩
end
section
variable{P:Program}{G:L_}{f:FuncId}{args args':O0}{T:aK}{K:AV->aK->Prop}
def Jn(b:EK args args')(e:iZ args'=[]){post:AV->aK->Prop}(g:aA P G f args' [] post)(d:∀r a,post r a->K (AR [] T.length r) (T++a.map (DC [] T.length))):@aK8 P G f args T ⟨K⟩:=by
 refine⟨args',b,.inl ⟨[],k_,k_,?_⟩⟩;show aA P G f (xF [] args') (GX [] T) _;rw[yM e];refine g.mono λr a c=>?_;have:IF [] T.length T [] a=T++a.map (DC [] T.length):=by cases a<;>simp[IF]
 rw[this];exact d r a c
def aU{R:AV}(b:EK args args')(d:iZ args'=[])(e:aA P G f args' [] λr a=>r=R/\a=[])(g:MM R=[])(c:K R T):@aK8 P G f args T ⟨K⟩ :=
 Jn b d e λr a ⟨h,h2⟩=>by subst h;subst h2;rw[Yo g];simpa using c
def aCF{R:AV}{T2:aK}(b:EK args args')(d:iZ args'=[])(e:aA P G f args' [] λr a=>r=R/\a=T2)(c:K (AR [] T.length R) (T++T2.map (DC [] T.length))):@aK8 P G f args T ⟨K⟩ :=
 Jn b d e λr a ⟨g,h2⟩=>by subst g;subst h2;exact c
def cH{args2:O0}(c:EK args args')(b:xG T args'=args2)(e:iZ args2=[]){post:AV->aK->Prop}(g:aA P G f args2 [] post)
 (d:∀r a,post r a->fX r/\(∀o∈a,xH o)/\K (AR [] T.length r) (T++a.map (DC [] T.length))):@aK8 P G f args T ⟨K⟩ :=
 ⟨args',c,.inr (.inl ⟨by rw[b];exact e,by rw[b];exact g.mono d⟩)⟩
def iJ{args2:O0}{x:Value}(b:EK args args')(c:xG T args'=args2)(e:iZ args2=[])(g:aA P G f args2 [] λr a=>r=.v x/\a=[])(d:K (.v x) T):@aK8 P G f args T ⟨K⟩ :=
 cH b c e g λr a ⟨h,h2⟩=>by subst h;subst h2;exact⟨by simp[fX],k_,by simpa[AR]using d⟩
def cX{R:AV}(c:aA P G f args [] λr e=>r=R/\e=[])(a:K R T)(b:iZ args=[]:=by exact rfl)(d:MM R=[]:=by exact rfl):@aK8 P G f args T ⟨K⟩:=aU (aB _) b c d a
def Jo{post:AV->aK->Prop}(d:aA P G f args [] post)(b:∀r a,post r a->K (AR [] T.length r) (T++a.map (DC [] T.length)))(c:iZ args=[]:=by exact rfl):@aK8 P G f args T ⟨K⟩:=Jn (aB _) c d b
def aBF{R:AV}{T2:aK}(c:aA P G f args [] λr d=>r=R/\d=T2)(a:K (AR [] T.length R) (T++T2.map (DC [] T.length)))(b:iZ args=[]:=by exact rfl):@aK8 P G f args T ⟨K⟩:=aCF (aB _) b c a
def aLS{L:O3}{args2:O0}{T2:aK}{post:AV->aK->Prop}(c:EK args args')(a:(Bc T (iZ args')).filter (· < T.length)=L)(h:xF L args'=args2)(j:GX L T=T2)(g:aA P G f args2 T2 post)
 (d:∀r b,post r b->K (AR L T.length r) (IF L T.length T L b)):@aK8 P G f args T ⟨K⟩ :=
 ⟨args',c,.inl ⟨L,by subst a;exact List.Pairwise.filter _ (Tj _ _),λi e=>by subst a;simpa using(gR.1 e).2,by subst h;subst j;exact g.mono d⟩⟩
def aG(L:O3){args2:O0}{T2:aK}{post:AV->aK->Prop}(b:EK args args')(c:L.Nodup)(j:∀i∈L,i<T.length)(g:xF L args'=args2)(h:GX L T=T2)(e:aA P G f args2 T2 post)
 (d:∀r a,post r a->K (AR L T.length r) (IF L T.length T L a)):@aK8 P G f args T ⟨K⟩ :=
 ⟨args',b,.inl ⟨L,c,j,by subst g;subst h;exact e.mono d⟩⟩
def Ic(L:O3){args2:O0}{T2:aK}(a:EK args args')(b:L.Nodup)(g:∀i∈L,i<T.length)(d:xF L args'=args2)(e:GX L T=T2)(c:aA P G f args2 T2 λr h=>K (AR L T.length r) (IF L T.length T L h)):@aK8 P G f args T ⟨K⟩ :=
 ⟨args',a,.inl ⟨L,b,g,by subst d;subst e;exact c⟩⟩
end
def dO{P:Program}{G:L_}{f:FuncId}{args:O0}{T:aK}{K:KT}(h:@aK8 P G f args T K):@aK8 P G f args T K:=h
def Eu{α:Type}{f:α->AV}{l:List α}(h:∀x,MM (f x)=[]):iZ (l.map f)=[]:=by
 induction l with
 |nil=>rfl|cons x l ih=>simp[iZ,h,ih]
@[go_sem] def Ig(a b:O0):iZ (a++b)=iZ a++iZ b:=by
 induction a with
 |nil=>rfl|cons c a ih=>simp[iZ,ih]
@[go_sem] def Qj{α:Type}(f:α->Value)(l:List α):iZ (l.map λx=>.v (f x))=[]:=Eu λ_=>rfl
@[go_sem] def aMh(L:O3)(a b:O0):xF L (a++b)=xF L a++xF L b:=by
 induction a with
 |nil=>rfl|cons c a ih=>simp[xF,ih]
@[go_sem] def aJO{α:Type}(L:O3)(f:α->Value)(l:List α):xF L (l.map λx=>.v (f x))=l.map λx=>.v (f x):=yM (Eu λ_=>rfl)
@[go_sem] def aMi(L:O3)(n:Nat)(a b:O0):EJ L n (a++b)=EJ L n a++EJ L n b:=by
 induction a with
 |nil=>rfl|cons c a ih=>simp[EJ,ih]
@[go_sem] def aJP{α:Type}(L:O3)(n:Nat)(f:α->Value)(l:List α):EJ L n (l.map λx=>.v (f x))=l.map λx=>.v (f x):=HJ (Eu λ_=>rfl)
@[go_sem] def aXl{α:Type}(f:α->Value)(l:List α):tC (l.map λx=>.v (f x))=True:=by
 induction l with
 |nil=>rfl|cons c a ih=>simp[tC,fX,ih]
@[go_sem] def aJQ(n:Nat)(I:O3)(q:AV->aK->Prop)(r:AV)(a:aK):Prop :=
 q (bA (DB [] (Ef ⟨n,[(0,r)],a⟩ I)).s 0) (DB [] (Ef ⟨n,[(0,r)],a⟩ I)).T
section
variable{P:Program}{G:L_}{f:FuncId}{args:O0}{T:aK}{p q:AV->aK->Prop}
def CS.fin(P:Program){h:GH}{φ:Nat->Value}{w:World}{v:Value}{w':World}(s:tU G h)(I:O3)(k:∀r b,p r b->aJQ T.length I q r b)(a:CS h φ T w p v w'):CS h φ T w q v w':=by
 obtain⟨r,b,t,d,D,j,C,B⟩:=a;have n:SInv P G 0 h φ T w ⟨T.length,[(0,r)],b⟩ ⟨#[v],[]⟩ w':=by refine⟨rfl,?_,⟨t,d,s.mono j.le,j,C,λi=>?_⟩,k_,by simp[Eo]⟩;intro i x y g f;simp only[aE5,Prod.mk.injEq]at g f;rw[g.2,f.2];simp only[bA];split;rename_i m;subst m;exact B;simp[Rp]
 have o:∀(l:O3)(st:St),SInv P G 0 h φ T w st ⟨#[v],[]⟩ w'->SInv P G 0 h φ T w (Ef st l) ⟨#[v],[]⟩ w':=by
  intro l
  induction l with
  |nil=>intro st h;exact h|cons i r ih=>intro st h;exact ih _ (h.shutI i)
 have e:=Ep [] (o I _ n);obtain⟨_,_,⟨h2,c,E,A,z,u⟩,_,_⟩:=e;exact⟨_,_,h2,c,k r b D,A,z,u 0⟩
def aA.fin(l:aA P G f args T p)(I:O3)(i:∀r j,p r j->aJQ T.length I q r j):aA P G f args T q:=by
 intro h k w c d hI hA;rcases l h k w c d hI hA with⟨a,b⟩|⟨v,g,a,b⟩
 exact .inl ⟨a,b.mono λe g ⟨v,n,m⟩=>⟨v,n,m.fin P d I i⟩⟩;exact .inr ⟨v,g,a,b.fin P d I i⟩
end
structure Id where
 a:Int
 b:Int
 c:Int
 deriving DecidableEq,Inhabited
abbrev O6:=List Id
def Id.A(x:Id):O0:=[iv x.a,iv x.b,.v (.int .u64 x.c)]
def Id.A_def(x:Id):x.A=[iv x.a,iv x.b,.v (.int .u64 x.c)]:=fI rfl rfl
def Id.lt(x y:Id):Bool:=if x.a=y.a then(if x.b=y.b then decide (x.c<y.c) else decide (x.b<y.b)) else decide (x.a<y.a)
@[go_sem] def Id.beq(x y:Id):(x.a==y.a&&(x.b==y.b&&x.c==y.c))=decide (x=y):=by obtain⟨i,h,g⟩:=x;obtain⟨f,e,d⟩:=y;grind
def Id.lt_irrefl(x:Id):x.lt x=false:=by simp[Id.lt]
def Id.lt_trans{x y z:Id}(a:x.lt y=true)(h2:y.lt z=true):x.lt z=true:=by grind[Id.lt]
def Id.lt_total{x y:Id}(g:x.lt y=false)(h2:y.lt x=false):x=y:=by obtain⟨f,e,d⟩:=x;obtain⟨c,b,a⟩:=y;grind[Id.lt]
def Id.lt_asymm{x y:Id}(h:x.lt y=true):y.lt x=false:=by
 cases e:y.lt x with
 |false=>rfl|true=>have:=Id.lt_trans h e;rw[Id.lt_irrefl]at this;simp at this
def Id.nlt_trans{x y z:Id}(b:x.lt y=false)(h2:y.lt z=false):x.lt z=false:=by
 cases e:x.lt z with
 |false=>rfl|true=>
  cases a:y.lt x with
  |true=>have:=Id.lt_trans a e;rw[h2]at this;simp at this|false=>have:=Id.lt_total b a;subst this;rw[h2]at e;simp at e
abbrev ids(l:List Id):AV:=.ls 3 (l.map Id.A)
abbrev ul(l:List Nat):List (List AV):=l.map λn=>[.v (.int .u64 ((n:Nat):Int))]
def xN(b:O3):Prop:=∀x∈b,x<256
abbrev U8(x:Nat):List AV:=[.v (.int .u8 (x:Int))]
abbrev bl(b:List Nat):List (List AV):=b.map U8
def Ih{b:O3}(h:xN b)(k:Nat):xN (b.drop k):=λx a=>h x (QG a)
def uU{b:O3}(h:xN b)(k:Nat):xN (b.take k):=λx a=>h x (C8 a)
def aF0{a b:O3}(h:xN a)(k:xN b):xN (a++b):=λx c=>(cG.1 c).elim (h x) (k x)
structure BoxM where
 To:Nat
 Eph:Nat
 Body:Nat
 Tag:Nat
 deriving DecidableEq,Inhabited
structure NodeM where
 Pub:Nat
 Boxes:List BoxM
 deriving DecidableEq,Inhabited
structure SealM where
 Of:Id
 Body:List Nat
 deriving DecidableEq,Inhabited
structure OpM where
 By:Int
 Seq:Int
 Kind:Int
 At:Int
 Past:List Id
 Device:Int
 Old:Int
 Member:Int
 Role:Int
 Path:List NodeM
 Epoch:Id
 N:Int
 Body:List Nat
 Refs:List Nat
 Of:Id
 Guards:List Int
 Need:Int
 Wait:Int
 Boxes:List BoxM
 Pub:Nat
 Hist:List SealM
 SR:Nat
 SS:Nat
 deriving DecidableEq,Inhabited
def BoxM.A(b:BoxM):O0:=[uv b.To,uv b.Eph,uv b.Body,uv b.Tag]
abbrev F5(l:List BoxM):AV:=.ls 4 (l.map BoxM.A)
def NodeM.A(n:NodeM):O0:=[uv n.Pub,F5 n.Boxes]
def SealM.A(x:SealM):O0:=[iv x.Of.a,iv x.Of.b,.v (.int .u64 x.Of.c),.ls 1 (bl x.Body)]
abbrev rG(l:List Int):AV:=.ls 1 (l.map λn=>[iv n])
def OpM.A(o:OpM):O0:=[iv o.By,iv o.Seq,iv o.Kind,iv o.At,ids o.Past,iv o.Device,iv o.Old,iv o.Member,iv o.Role,.ls 2 (o.Path.map NodeM.A),
 iv o.Epoch.a,iv o.Epoch.b,.v (.int .u64 o.Epoch.c),iv o.N,.ls 1 (bl o.Body),.ls 1 (ul o.Refs),iv o.Of.a,iv o.Of.b,.v (.int .u64 o.Of.c),rG o.Guards,
 iv o.Need,iv o.Wait,F5 o.Boxes,uv o.Pub,.ls 4 (o.Hist.map SealM.A),uv o.SR,uv o.SS]
def OpM.A_def(o:OpM):o.A=[iv o.By,iv o.Seq,iv o.Kind,iv o.At,ids o.Past,iv o.Device,iv o.Old,iv o.Member,iv o.Role,.ls 2 (o.Path.map NodeM.A),
 iv o.Epoch.a,iv o.Epoch.b,.v (.int .u64 o.Epoch.c),iv o.N,.ls 1 (bl o.Body),.ls 1 (ul o.Refs),iv o.Of.a,iv o.Of.b,.v (.int .u64 o.Of.c),rG o.Guards,
 iv o.Need,iv o.Wait,F5 o.Boxes,uv o.Pub,.ls 4 (o.Hist.map SealM.A),uv o.SR,uv o.SS]:=fI rfl rfl
def oI(n a b:Int):Bool:=decide (a<=n)&&decide (n<=b)
def HK(n:Nat):Bool:=decide ((1:Int)<=(n:Int))&&decide ((n:Int)<2305843009213693951)
def okM(n:Int):Bool:=decide (n<2305843009213693951)
def jP(x:Id):Bool:=oI x.a 1 12&&(oI x.b 1 2147483647&&okM x.c)
def wA(b:BoxM):Bool:=HK b.To&&(HK b.Eph&&(okM (b.Body:Int)&&okM (b.Tag:Int)))
def mZ(n:Int):Prop:=-9223372036854775808<=n/\n<=(2^63-1)
def BoxM.ok(b:BoxM):Prop:=b.To<2^64/\b.Eph<2^64/\b.Body<2^64/\b.Tag<2^64
def jQ(o:OpM):List (Int×Bool):=[(1,o.Device !=0),(2,o.Old !=0),(4,o.Member !=0),(8,o.Role !=0),(16,decide ((o.Path.length:Int)>0)),(32,!(o.Epoch.a==0&&(o.Epoch.b==0&&o.Epoch.c==0))),(64,o.N !=0),(128,decide ((o.Body.length:Int)>0)),(256,decide ((o.Refs.length:Int)>0)),(512,!(o.Of.a==0&&(o.Of.b==0&&o.Of.c==0))),
 (1024,decide ((o.Guards.length:Int)>0)),(2048,o.Need !=0),(4096,o.Wait !=0),(8192,decide ((o.Boxes.length:Int)>0)),(16384,((o.Pub:Int)!=0)),(32768,decide ((o.Hist.length:Int)>0))]
def Id.ok(x:Id):Prop:=mZ x.a/\mZ x.b/\0<=x.c/\x.c<2^64
def NodeM.ok(n:NodeM):Prop:=n.Pub<2^64/\n.Boxes.length<=100/\∀b∈n.Boxes,b.ok
def SealM.ok(x:SealM):Prop:=x.Of.ok/\x.Body.length<=1000/\xN x.Body
structure OpM.ok(o:OpM):Prop where
 ints:∀n∈[o.By,o.Seq,o.Kind,o.At,o.Device,o.Old,o.Member,o.Role,o.N,o.Need,o.Wait],mZ n
 nums:∀n∈[o.Pub,o.SR,o.SS],n<2^64
 epoch:o.Epoch.ok
 of:o.Of.ok
 past:o.Past.length<=1000/\∀x∈o.Past,x.ok
 path:o.Path.length<=10/\∀x∈o.Path,x.ok
 body:o.Body.length<=1000/\xN o.Body
 refs:o.Refs.length<=1000/\∀x∈o.Refs,x<2^64
 guards:o.Guards.length<=1000/\∀x∈o.Guards,mZ x
 boxes:o.Boxes.length<=1000/\∀x∈o.Boxes,x.ok
 hist:o.Hist.length<=100/\∀x∈o.Hist,x.ok
def OpM.g0(o:OpM):o.A[0]?=some (iv o.By):=fI rfl rfl
def OpM.g1(o:OpM):o.A[1]?=some (iv o.Seq):=fI rfl rfl
def OpM.g2(o:OpM):o.A[2]?=some (iv o.Kind):=fI rfl rfl
def OpM.g3(o:OpM):o.A[3]?=some (iv o.At):=fI rfl rfl
def OpM.g4(o:OpM):o.A[4]?=some (ids o.Past):=fI rfl rfl
def OpM.g5(o:OpM):o.A[5]?=some (iv o.Device):=fI rfl rfl
def OpM.g6(o:OpM):o.A[6]?=some (iv o.Old):=fI rfl rfl
def OpM.g7(o:OpM):o.A[7]?=some (iv o.Member):=fI rfl rfl
def OpM.g8(o:OpM):o.A[8]?=some (iv o.Role):=fI rfl rfl
def OpM.g9(o:OpM):o.A[9]?=some (.ls 2 (o.Path.map NodeM.A)):=fI rfl rfl
def OpM.g13(o:OpM):o.A[13]?=some (iv o.N):=fI rfl rfl
def OpM.g14(o:OpM):o.A[14]?=some (.ls 1 (bl o.Body)):=fI rfl rfl
def OpM.g15(o:OpM):o.A[15]?=some (.ls 1 (ul o.Refs)):=fI rfl rfl
def OpM.g19(o:OpM):o.A[19]?=some (rG o.Guards):=fI rfl rfl
def OpM.g20(o:OpM):o.A[20]?=some (iv o.Need):=fI rfl rfl
def OpM.g21(o:OpM):o.A[21]?=some (iv o.Wait):=fI rfl rfl
def OpM.g22(o:OpM):o.A[22]?=some (F5 o.Boxes):=fI rfl rfl
def OpM.g23(o:OpM):o.A[23]?=some (uv o.Pub):=fI rfl rfl
def OpM.g24(o:OpM):o.A[24]?=some (.ls 4 (o.Hist.map SealM.A)):=fI rfl rfl
def OpM.g25(o:OpM):o.A[25]?=some (uv o.SR):=fI rfl rfl
def OpM.g26(o:OpM):o.A[26]?=some (uv o.SS):=fI rfl rfl
def OpM.len(o:OpM):o.A.length=27:=fI rfl rfl
def OpM.dEpoch(o:OpM):(o.A.drop 10).take 3=o.Epoch.A:=fI rfl rfl
def OpM.dOf(o:OpM):(o.A.drop 16).take 3=o.Of.A:=fI rfl rfl
def OpM.dSig(o:OpM):(o.A.drop 25).take 2=[uv o.SR,uv o.SS]:=fI rfl rfl
def OpM.t27(o:OpM):o.A.take 27=o.A:=fI rfl rfl
def OpM.ids0(o:OpM):iZ o.A=[]:=fI rfl rfl
attribute [go_sem] OpM.g0 OpM.g1 OpM.g2 OpM.g3 OpM.g4 OpM.g5 OpM.g6 OpM.g7 OpM.g8 OpM.g9 OpM.g13 OpM.g14 OpM.g15 OpM.g19 OpM.g20 OpM.g21 OpM.g22 OpM.g23 OpM.g24 OpM.g25 OpM.g26 OpM.len OpM.dEpoch OpM.dOf OpM.dSig OpM.t27 OpM.ids0
def OpM.one0(o:OpM):o.A.all gS=true:=by simp[OpM.A,gS]
@[go_sem] def OpM.one(o:OpM):o.A.all gS=true:=OpM.one0 o
def OpM.closed0(o:OpM):o.A.all aX=true:=by simp[OpM.A,aX]
def OpM.closed(o:OpM):o.A.all aX=true:=OpM.closed0 o
def OpM.rn(L:O3)(o:OpM):xF L o.A=o.A:=fI rfl rfl
def OpM.bk(L:O3)(n:Nat)(o:OpM):EJ L n o.A=o.A:=fI rfl rfl
def OpM.sl(i k:Nat)(es:N_)(o:OpM):IB i k es o.A=o.A:=fI rfl rfl
def Id.ids0(x:Id):iZ x.A=[]:=fI rfl rfl
def Id.rn(L:O3)(x:Id):xF L x.A=x.A:=fI rfl rfl
def Id.bk(L:O3)(n:Nat)(x:Id):EJ L n x.A=x.A:=fI rfl rfl
def Id.sl(i k:Nat)(es:N_)(x:Id):IB i k es x.A=x.A:=fI rfl rfl
def Id.len(x:Id):x.A.length=3:=fI rfl rfl
attribute [go_sem] OpM.closed OpM.rn OpM.bk OpM.sl Id.ids0 Id.rn Id.bk Id.sl Id.len
def Id.one0(x:Id):x.A.all gS=true:=by simp[Id.A,gS]
@[go_sem] def Id.one(x:Id):x.A.all gS=true:=Id.one0 x
def Id.closed0(x:Id):x.A.all aX=true:=by simp[Id.A,aX]
@[go_sem] def Id.closed(x:Id):x.A.all aX=true:=Id.closed0 x
@[go_sem] def Id.t3(x:Id):x.A.take 3=x.A:=fI rfl rfl
@[go_sem] def Id.eqC(x y:Id):Hud.eqC [.int .i64,.int .i64,.int .u64] x.A y.A=some (decide (x=y)):=by simp_all[Hud.eqC,Id.A_def,yH,Id.beq]
@[go_sem] def Id.eq0(x:Id):Hud.eqC [.int .i64,.int .i64,.int .u64] x.A [iv 0,iv 0,.v (.int .u64 0)]=some (x.a==0&&(x.b==0&&x.c==0)):=by simp_all[Hud.eqC,Id.A_def,yH]
structure CardM where
 Device:Int
 Member:Int
 Lead:Nat
 Keep:Nat
 Sign:Nat
 deriving DecidableEq,Inhabited
def CardM.A(c:CardM):O0:=[iv c.Device,iv c.Member,uv c.Lead,uv c.Keep,uv c.Sign]
def CardM.A_def(c:CardM):c.A=[iv c.Device,iv c.Member,uv c.Lead,uv c.Keep,uv c.Sign]:=fI rfl rfl
def CardM.ok(c:CardM):Prop:=mZ c.Device/\mZ c.Member/\c.Lead<2^64/\c.Keep<2^64/\c.Sign<2^64
noncomputable abbrev PQ:=Go.Proofs.Tryz.prog
noncomputable abbrev cF:=tF PQ
theorem eVf{α:Type}(a:α){b:α}(h:a=b:=by conv=>lhs;reduce;try simp only[Int.ofNat_eq_natCast,Int.cast_ofNat_Int,Int.reduceNegSucc]):a=b:=h
namespace W
def zt(n:Nat):Operand:=.tmp n
abbrev TE(α:Type):=HOper->α->α
abbrev TH(α:Type):=List HOper->HOper->α->α
abbrev TG(_:Type):=Option (Nat×Bool)
abbrev TK(α:Type):=Operand->Nat->α
abbrev EE(α:Type):=TE α->TH α->TG α->TK α->Nat->α
section
variable{α:Type}
def cc(c:Operand)(_:TE α)(_:TH α)(_:TG α)(a:TK α)(b:Nat):α:=a c b
def u0(c:HOp)(em:TE α)(_:TH α)(d:TG α)(b:TK α)(a:Nat):α:=em ⟨some a,c,d⟩ (b (.tmp a) (a+1))
def u1(c:Operand->HOp)(x:EE α)(em:TE α)(e:TH α)(a:TG α)(b:TK α)(f:Nat):α:=x em e a (λo d=>em ⟨some d,c o,a⟩ (b (.tmp d) (d+1))) f
def u2(c:Operand->Operand->HOp)(x y:EE α)(em:TE α)(b:TH α)(a:TG α)(e:TK α)(f:Nat):α:=x em b a (λo d=>y em b a (λp d=>em ⟨some d,c o p,a⟩ (e (.tmp d) (d+1))) d) f
def h2(c:Operand->Operand->HOp)(x y:EE α)(em:TE α)(a:TH α)(b:TG α)(e:TK α)(f:Nat):α:=x em a b (λo d=>y em a b (λp d=>a [] ⟨some d,c o p,b⟩ (e (.tmp d) (d+1))) d) f
def A(j:Nat)(x:EE α)(em:TE α)(c:TH α)(a:TG α)(b:TK α)(e:Nat):α:=x em c a (λo d=>em ⟨some j,.mov o,a⟩ (b o d)) e
end
section
variable{α:Type}
def t(n:Nat):EE α:=cc (.tmp n) 
def v(n:Nat):EE α:=u0 (.mov (.tmp n)) 
def w(n:Int):EE α:=cc (.const (.int .i64 n)) 
def u(n:Int):EE α:=cc (.const (.int .u64 n)) 
def z:EE α:=cc (.const (.slice none 0 0)) 
def x(c:HOp):EE α:=u0 c 
def l(a:EE α):EE α:=u1 (.ld none) a
def n(a:EE α):EE α:=u1 .lenL a
def B(o:BinOp)(a x1:EE α):EE α:=u2 (.bin o) a x1
def o(a:EE α):EE α:=u1 (.un .not) a
def b(a:EE α):EE α:=u1 .box a
def y(a:EE α):EE α:=u1 .nilc a
def cw(k:IntKind)(a:EE α):EE α:=u1 (.conv k) a
def a(k m:Nat)(c x1:EE α):EE α:=h2 (λa b=>.app a b k m) c x1
def ad(a x1:EE α):EE α:=B .add a x1
def ge(a x1:EE α):EE α:=B .geq a x1
def v0:EE α:=v 0
def v2:EE α:=v 2
end
def lis{α:Type}(em:HOper->α->α)(a:List HOper->HOper->α->α)(z:α):List (EE α)->Nat->α|[],_=>z|x::l,d=>x em a none (λ_ d=>lis em a z l d) d
def ds(d:Nat):Nat->O3|0=>[]|n+1=>(d+n)::ds d n
def kl:O3->Nat->Nat->O3|x::l,d,n=>x::kl l d n|[],d,n=>ds d n
def ap:O3->Nat->O3|x::l,d=>x::ap l d|[],d=>[d]
def S:List HC->HC|[]=>.skip|a::[]=>a|a::b::l=>.seq a (S (b::l))
def E(d:Nat)(l:List (EE (List HOper))):HC:=.reg (lis (λo a=>o::a) (λ_ o a=>o::a) [] l d)
def E0(l:List (EE (List HOper))):HC:=E 0 l
def i0(j:Nat):HC:=.reg [⟨some j,.mov (.const (.int .i64 0)),none⟩]
def R(d n:Nat)(xs:O3)(l:List (EE (List HOper))):HC:=.seq (E d l) (.kill (kl xs d n))
def R0(d n:Nat)(l:List (EE (List HOper))):HC:=R d n [] l
def Ie(n:Nat)(xs:O3)(a:HC)(c:O3)(b:HC):HC:=.cond (.tmp n) (.seq (.kill (ap xs n)) a) (.seq (.kill (ap c n)) b)
def If(n:Nat)(xs:O3)(a:HC):HC:=Ie n xs a [] .skip
end W
attribute [go_sem] W.A W.B W.E W.E0 W.Ie W.If W.R W.R0 W.S W.a W.ad W.ap W.b W.cc W.cw W.ds W.ge W.h2 W.i0 W.kl W.l W.lis W.n W.o W.t W.u W.u0 W.u1 W.u2 W.v W.v0 W.v2 W.w W.x W.y W.z W.zt
abbrev Ii:Nat:=0
abbrev aOp:Nat:=7
abbrev aNI:Nat:=8
abbrev uV:Nat:=10
abbrev aOy:Nat:=27
abbrev zR:Nat:=29
abbrev aN8:Nat:=30
abbrev Ik:Nat:=32
abbrev oJ:Nat:=34
abbrev oK:Nat:=35
abbrev aM1:Nat:=36
abbrev aLU:Nat:=37
abbrev aJf:Nat:=38
abbrev rO:Nat:=39
abbrev aM2:Nat:=40
abbrev aMz:Nat:=41
abbrev CF:Nat:=42
abbrev VM:Nat:=43
abbrev F7:Nat:=50
abbrev qW:Nat:=52
abbrev aM3:Nat:=53
abbrev aMH:Nat:=54
abbrev aNL:Nat:=55
abbrev aNP:Nat:=56
abbrev aMI:Nat:=57
abbrev DT:Nat:=61
abbrev gV:Nat:=63
abbrev Br:Nat:=64
abbrev Ci:Nat:=66
abbrev xP:Nat:=67
abbrev aPk:Nat:=68
abbrev jK:Nat:=69
abbrev aPa:Nat:=70
abbrev Bi:Nat:=71
abbrev uW:Nat:=72
abbrev AU:Nat:=73
abbrev qR:Nat:=74
abbrev mJ:Nat:=75
abbrev bY:Nat:=76
abbrev zZ:Nat:=80
abbrev F9:Nat:=81
abbrev rQ:Nat:=82
abbrev aM9:Nat:=85
abbrev aNh:Nat:=86
abbrev DR:Nat:=87
abbrev aLL:Nat:=88
abbrev aET:Nat:=89
abbrev rP:Nat:=98
abbrev GB:Nat:=99
abbrev GA:Nat:=106
abbrev xU:Nat:=108
abbrev vD:Nat:=111
abbrev aJd:Nat:=112
abbrev Sl:Nat:=113
abbrev aMa:Nat:=114
abbrev aFd:Nat:=115
abbrev zY:Nat:=116
abbrev wD:Nat:=118
abbrev E8:Nat:=119
abbrev AW:Nat:=121
abbrev aMb:Nat:=122
abbrev xR:Nat:=123
abbrev F8:Nat:=124
abbrev DP:Nat:=125
abbrev HN:Nat:=126
abbrev xQ:Nat:=127
abbrev Bk:Nat:=128
abbrev DN:Nat:=129
abbrev Ij:Nat:=130
abbrev cT:Nat:=131
abbrev kK:Nat:=132
abbrev tG:Nat:=133
abbrev HR:Nat:=134
abbrev pO:Nat:=135
abbrev oQ:Nat:=136
abbrev E1:Nat:=137
abbrev aJ3:Nat:=138
abbrev yN:Nat:=139
abbrev nM:Nat:=140
abbrev pE:Nat:=141
abbrev An:Nat:=142
abbrev bF:Nat:=143
abbrev bK:Nat:=144
abbrev lL:Nat:=145
abbrev nP:Nat:=146
abbrev AB:Nat:=147
abbrev uI:Nat:=148
abbrev cD:Nat:=149
abbrev kZ:Nat:=150
abbrev fD:Nat:=151
abbrev tY:Nat:=152
abbrev fL:Nat:=153
abbrev vA:Nat:=154
abbrev xS:Nat:=155
abbrev rR:Nat:=156
abbrev tO:Nat:=157
abbrev yO:Nat:=158
abbrev Db:Nat:=159
abbrev sJ:Nat:=160
abbrev xT:Nat:=161
abbrev aJI:Nat:=162
abbrev aGd:Nat:=163
abbrev aOf:Nat:=164
abbrev aME:Nat:=165
abbrev aKm:Nat:=166
abbrev Z1:Nat:=167
abbrev aE2:Nat:=168
abbrev wC:Nat:=169
abbrev jZ:Nat:=178
abbrev yQ:Nat:=179
abbrev aMF:Nat:=182
abbrev AX:Nat:=183
abbrev Bo:Nat:=184
abbrev Dc:Nat:=185
abbrev MA:Nat:=186
abbrev E6:Nat:=187
abbrev MB:Nat:=188
abbrev kY:Nat:=189
abbrev wE:Nat:=190
abbrev qS:Nat:=191
abbrev uH:Nat:=192
abbrev Bm:Nat:=193
abbrev iM:Nat:=194
abbrev DU:Nat:=195
abbrev DV:Nat:=196
abbrev E3:Nat:=197
abbrev E4:Nat:=198
abbrev E5:Nat:=199
abbrev Bl:Nat:=200
abbrev pF:Nat:=202
abbrev DW:Nat:=203
abbrev E7:Nat:=204
abbrev Jq:Nat:=205
abbrev fO:Nat:=206
abbrev fU:Nat:=207
abbrev aES:Nat:=208
abbrev dC:Nat:=209
abbrev gZ:Nat:=210
abbrev fJ:Nat:=211
abbrev DX:Nat:=212
abbrev bE:Nat:=213
abbrev dX:Nat:=214
abbrev bO:Nat:=215
abbrev zX:Nat:=216
abbrev jW:Nat:=217
abbrev aJ5:Nat:=218
abbrev iB:Nat:=219
abbrev nS:Nat:=220
abbrev aH9:Nat:=221
abbrev FA:Nat:=222
abbrev aMc:Nat:=223
abbrev aC1:Nat:=224
abbrev bJ:Nat:=225
abbrev aOg:Nat:=226
abbrev aBC:Nat:=227
abbrev aCZ:Nat:=228
abbrev aN4:Nat:=229
abbrev aMd:Nat:=230
abbrev aMe:Nat:=231
abbrev aNQ:Nat:=232
abbrev aEQ:Nat:=233
abbrev aHf:Nat:=234
abbrev aOz:Nat:=235
abbrev aMf:Nat:=236
abbrev qV:Nat:=237
abbrev vE:Nat:=243
abbrev DY:Nat:=244
abbrev wO:Nat:=245
abbrev Bn:Nat:=246
abbrev DZ:Nat:=247
abbrev Il:Nat:=256
abbrev uZ:Nat:=257
abbrev bM:Nat:=258
abbrev fC:Nat:=259
abbrev jS:Nat:=260
abbrev wP:Nat:=261
abbrev nO:Nat:=262
abbrev wF:Nat:=263
abbrev wQ:Nat:=264
abbrev wR:Nat:=265
abbrev AA:Nat:=266
abbrev tN:Nat:=267
abbrev Da:Nat:=268
abbrev oR:Nat:=269
abbrev jX:Nat:=270
abbrev iU:Nat:=271
abbrev Bp:Nat:=272
abbrev Bq:Nat:=273
abbrev Ap:Nat:=274
abbrev E9:Nat:=275
abbrev bB:Nat:=276
abbrev eK:Nat:=277
abbrev gO:Nat:=278
abbrev eM:Nat:=279
abbrev fK:Nat:=280
abbrev fB:Nat:=281
abbrev dA:Nat:=282
abbrev cQ:Nat:=283
abbrev dL:Nat:=284
abbrev kH:Nat:=285
abbrev kS:Nat:=286
abbrev aGg:Nat:=287
abbrev aAD:Nat:=288
abbrev iK:Nat:=289
abbrev aE3:Nat:=290
abbrev aNi:Nat:=291
abbrev aNk:Nat:=292
abbrev fS:Nat:=293
abbrev aCE:Nat:=294
abbrev oT:Nat:=295
abbrev dP:Nat:=309
abbrev jT:Nat:=310
abbrev kQ:Nat:=311
abbrev xV:Nat:=312
abbrev xW:Nat:=313
abbrev nQ:Nat:=315
abbrev oS:Nat:=316
abbrev fE:Nat:=319
abbrev jH:Nat:=320
abbrev dI:Nat:=321
abbrev nR:Nat:=322
abbrev jY:Nat:=323
abbrev bD:Nat:=324
abbrev gU:Nat:=325
abbrev dY:Nat:=326
abbrev iV:Nat:=327
abbrev dJ:Nat:=328
abbrev fW:Nat:=329
abbrev dR:Nat:=330
abbrev bW:Nat:=331
abbrev Wr:Nat:=332
abbrev X2:Nat:=333
abbrev aDy:Nat:=334
abbrev Y3:Nat:=335
abbrev aBD:Nat:=336
abbrev aAO:Nat:=337
abbrev RM:Nat:=338
abbrev aV:Nat:=339
abbrev Gs:Nat:=340
abbrev W1:Nat:=341
abbrev aMj:Nat:=342
abbrev aNl:Nat:=343
abbrev aMk:Nat:=344
abbrev iC:Nat:=345
abbrev gC:Nat:=359
abbrev gY:Nat:=360
abbrev fM:Nat:=361
abbrev dU:Nat:=362
abbrev cY:Nat:=363
abbrev X0:Nat:=364
abbrev lQ:Nat:=365
abbrev Z2:Nat:=366
abbrev RP:Nat:=391
end Hud
namespace Hud
set_option maxRecDepth 99999
open Go
def LJ:=eVf (cF zR [(5,none,3)])
def NZ:=eVf (cF oJ [])
def PW:=eVf (cF DT [])
def R9:=eVf (cF Ci [])
def Na:=eVf (cF xP [(2,none,5),(3,none,5)])
def LL:=eVf (cF jK [])
def SA:=eVf (cF aPa [(11,none,1),(75,none,1001),(83,none,1001),(9,some 4,1)])
def SB:=eVf (cF AU [])
def PX:=eVf (cF qR [])
def LM:=eVf (cF rP [])
def Nb:=eVf (cF xR [(6,none,3)])
def SC:=eVf (cF F8 [])
def PY:=eVf (cF DP [])
def Nc:=eVf (cF xQ [(2,none,1)])
def Nd:=eVf (cF Bk [(5,none,1),(10,none,1)])
def PZ:=eVf (cF DN [(4,none,1)])
def UG:=eVf (cF Ij [])
def Pb:=eVf (cF An [(5,none,3)])
def LN:=eVf (cF Dc [])
def Pc:=eVf (cF wE [(2,none,1),(3,none,1)])
def Nf:=eVf (cF Bm [(2,none,1)])
def Pd:=eVf (cF DV [(2,none,1),(3,none,1)])
def Ng:=eVf (cF E3 [])
def Nh:=eVf (cF E5 [])
def Pf:=eVf (cF DY [])
def Jr:=eVf (cF wO [])
def Ni:=eVf (cF Bn [])
def Pg:=eVf (cF DZ [])
def UH:=eVf (cF dP [])
def Nj:=eVf (cF jT [])
def LO:=eVf (cF kQ [])
def UI:=eVf (cF xV [])
def Nk:=eVf (cF xW [])
end Hud
namespace Hud
set_option maxRecDepth 99999
open Go
def WP:=eVf (cF Ik [])
def SD:=eVf (cF F9 [])
def Ph:=eVf (cF HR [])
def Nl:=eVf (cF E1 [])
def FB:=eVf (cF uI [])
def Nm:=eVf (cF kZ [])
def EL:=eVf (cF tY [])
def FC:=eVf (cF vA [])
def Nn:=eVf (cF xS [])
def Ga:=eVf (cF rR [])
def HT:=eVf (cF yO [])
def LP:=eVf (cF Db [])
def Dd:=eVf (cF sJ [])
def No:=eVf (cF xT [])
def WQ:=eVf (cF bM [])
def Pj:=eVf (cF fC [])
def Np:=eVf (cF jS [])
def Js:=eVf (cF wP [])
def Gb:=eVf (cF nO [])
def Pk:=eVf (cF wF [])
def Jt:=eVf (cF wQ [])
def Ju:=eVf (cF wR [])
def LQ:=eVf (cF AA [])
def HU:=eVf (cF tN [])
def WR:=eVf (cF Da [])
def EM:=eVf (cF oR [])
def FD:=eVf (cF jX [])
def De:=eVf (cF iU [])
def Nq:=eVf (cF Bp [])
def Nr:=eVf (cF Bq [])
def EN:=eVf (cF jH [])
def Im:=eVf (cF nR [])
def FE:=eVf (cF jY [])
def Cj:=eVf (cF gU [])
def Df:=eVf (cF iV [])
def CI:=eVf (cF fW [])
def SE:=eVf (cF Jq [])
def LR:=eVf (cF DW [])
def Ns:=eVf (cF E7 [])
end Hud
