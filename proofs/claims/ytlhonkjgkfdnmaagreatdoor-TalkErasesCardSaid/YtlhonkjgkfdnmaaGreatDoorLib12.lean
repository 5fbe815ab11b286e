import Derived.Test.YtlhonkjgkfdnmaaGreatDoorLib11
import Derived.Attr
import Derived.Test.YtlhonkjgkfdnmaaGreatDoorProg
set_option linter.all false
namespace Hud
open Go
def bs(l:List UInt8):ByteArray:=⟨l.toArray⟩
class KC(α:Type) where
 k:α->Prop
class PC where
 p:Prop
class KT where
 k:AV->aK->Prop
class QC where
 q:Ex->St->Prop
def Ai{α:Type}(o:Option α)[c:KC α]:Prop:=match o with|some x=>c.k x|none=>False
def Gv(t:Bool)[A:PC][B:PC]:Prop:=match t with|true=>A.p|false=>B.p
def aCv(v:AV)[c:KC Bool]:Prop:=match v with|.v (.bool t)=>c.k t|_=>False
def aHp{α:Type}(x:α)(K:α->Prop):@Ai α (some x) ⟨K⟩=K x:=fI rfl rfl
def aKV(A B:Prop):@Gv true ⟨A⟩ ⟨B⟩=A:=fI rfl rfl
def aKW(A B:Prop):@Gv false ⟨A⟩ ⟨B⟩=B:=fI rfl rfl
def aKX(t:Bool)(K:Bool->Prop):@aCv (.v (.bool t)) ⟨K⟩=K t:=fI rfl rfl
attribute [go_sem] aHp aKV aKW aKX
def aL{t:Bool}{A B:Prop}(b:t=true->A)(a:t=false->B):@Gv t ⟨A⟩ ⟨B⟩:=by cases t;exact a rfl;exact b rfl
def Jm{P:Program}{G:L_}{K b:St->Prop}(h:∀s,K s->b s):∀{os:List HOper}{st:St},Mp P G os st K->Mp P G os st b|[],st,a=>h st a|o::os,st,a=>by simp only[Mp]at a⊢;split<;>rename_i e<;>simp only[e]at a;exact Cg (λ_ _ c=>Jm h c) a;exact Jm h a
def HG{P:Program}{G:L_}{K d:St->Prop}{b:List HOper}(h:∀s,K s->d s):∀{n:Nat}{os:List HOper}{st:St},IH P G b n os st K->IH P G b n os st d|0,_,_,a=>h _ a|n+1,os,st,a=>λi o f=>by have a:=a i o f;split<;>rename_i e<;>simp only[e]at a;exact Cg (λ_ _ c=>⟨c.1,HG h c.2⟩) a;exact⟨a.1,HG h a.2⟩
def Aj {P:Program} {G:L_} {K g:St->Prop} {p:Plan} (h:∀s,K s->g s):∀{n:Nat}{b:Bool}{E:V_}{st:St},vU P G p n b E st K->vU P G p n b E st g|0,_,_,_,a=>a| n+1,b,E,st,a=>by simp only[vU]at a⊢;split<;>rename_i e<;>simp only[e]at a;split<;>rename_i d<;>simp only[d]at a;split<;>rename_i c<;>simp only[c]at a;split<;>rename_i k<;>simp only[k]at a;exact Aj h a;exact Aj h a;split<;>rename_i d<;>simp only[d]at a;exact h _ a;intro i j;obtain⟨o,h1,h2⟩:=a i j;refine⟨o,h1,?_⟩;split<;>rename_i c<;>simp only[c]at h2;exact Cg (λ_ _ f=>⟨f.1,Aj h f.2⟩) h2;exact⟨h2.1,Aj h h2.2⟩
def Ak{P:Program}{G:L_}{K i:St->Prop}(h:∀s,K s->i s):∀{d:HD}{st:St},JV P G d st K->JV P G d st i
 |.done b,st,a=>h _ a|.no,st,a=>trivial|.q o n,st,a=>by
  simp only[JV]at a⊢;split<;>rename_i e<;>simp only[e]at a;split<;>rename_i j<;>simp only[j]at a;exact Ak h a;exact Ak h a
 |.alt o c n m,st,a=>by
  simp only[JV]at a⊢;refine⟨?_,Ak h a.2⟩;have a:=a.1;split<;>rename_i e<;>simp only[e]at a;exact Cg (λ_ _ g=>⟨g.1,Ak h g.2⟩) a;exact⟨a.1,Ak h a.2⟩
 |.perm c o n,st,a=>by
  simp only[JV]at a⊢;exact HG (λs f=>Ak h f) a
 |.plan f pr n k E,st,a=>by simp only[JV]at a⊢;exact Aj h a
def jF{P:Program}{G:L_}:∀{c:HC}{Q q:Ex->St->Prop}{st:St},(∀e s,Q e s->q e s)->fZ P G c Q st->fZ P G c q st
 |.skip,_,_,_,h,f=>h _ _ f|.reg l,_,_,_,h,f=>Jm (h _) f|.regd d,_,_,_,h,f=>Ak (h _) f|.seq a b,_,_,_,h,f=>by
  simp only[fZ]at f⊢;refine jF (λe s m=>?_) f
  cases e with
  |normal=>exact jF h m|exit i=>exact h _ _ m|ret=>exact h _ _ m
 |.cond c a b,_,_,_,h,f=>by
  simp only[fZ]at f⊢;split<;>rename_i e<;>simp only[e]at f;rename_i t;cases t;exact jF h f;exact jF h f
 |.block i a,_,_,_,h,f=>by
  simp only[fZ]at f⊢;refine jF (λe s m=>?_) f
  cases e with
  |normal=>exact h _ _ m|exit j=>by_cases y:j=i<;>simp only[y,if_true,if_false]at m⊢<;>exact h _ _ m|ret=>exact h _ _ m
 |.rng g ps d a b,Q,q,st,h,f=>by
  simp only[fZ]at f⊢;intro r h1 h2 h3 u;have f:=f r h1 h2 h3 u;split<;>rename_i e<;>simp only[e]at f;refine⟨f.1,HF (λx T o=>?_) f.2⟩;simp only[Vv]at o⊢;split<;>rename_i z<;>simp only[z]at o;refine⟨o.1,?_⟩;have o:=o.2;split<;>rename_i p<;>simp only[p]at o<;>exact h _ _ o
 |.loop d a,_,_,_,h,f=>by
  obtain⟨I,h0,w⟩:=f;refine⟨I,h0,λn s v=>jF (λe s m=>?_) (w n s v)⟩
  cases e with
  |normal=>exact m|exit i=>exact h _ _ m|ret=>exact h _ _ m
 |.exit i,_,_,_,h,f=>h _ _ f|.ret,_,_,_,h,f=>h _ _ f|.kill d,_,_,_,h,f=>h _ _ f|.own j c k,_,_,_,h,f=>h _ _ f|.shut j,_,_,_,h,f=>h _ _ f
section
variable{P:Program}{G:L_}{st:St}
def aCw(a:List (Nat×Option (Option Nat)))(post:AV->aK->Prop)(st:St):Prop :=
 match R6 st a with
 |some l=>
  let r:=Jk l
  let L:=Bc st.T (List.range st.r++gF r)
  post (Bd L r) (GX L st.T)
 |none=>False
def aCx(b:List (Nat×Option (Option Nat)))(post:AV->aK->Prop):Ex->St->Prop|.normal,a=>aCw b post a|.ret,a=>aCw b post a|_,_=>False
def aHq(P:Program)(G:L_)(a:HFun)(args:O_)(T:aK)(post:AV->aK->Prop):Prop :=
 fZ P G a.code (aCx a.res post) ⟨T.length,sB 0 args,T⟩
def aHr{P:Program}{G:L_}{b:HFun}{args:O_}{T:aK}{post:AV->aK->Prop}(h:aHq P G b args T post):aJk P G b args T post:=by
 refine jF (λe s d=>?_) h;have a:aCw b.res post s->UD b.res post s:=by intro c;unfold aCw at c;unfold UD;split<;>rename_i e<;>simp only[e]at c;exact .inl c
 cases e with
 |normal=>exact a d|ret=>exact a d|exit i=>exact d
def aC{P:Program}{G:L_}{f:FuncId}{a:HFun}{H:List (Nat×Option Nat×Nat)}(c:tF P f H=some a){args:O_}{T:aK}{post:AV->aK->Prop}(b:aHq P G a args T post):aA P G f args T post:=Yn c trivial (aHr b)
def aCy(a:List (Nat×Option (Option Nat)))(post:AV->aK->Prop)(st:St):Prop :=
 match R6 st a with
 |some l=>post (Jk l) st.T|none=>False
def aCz(b:List (Nat×Option (Option Nat)))(post:AV->aK->Prop):Ex->St->Prop|.normal,a=>aCy b post a|.ret,a=>aCy b post a|_,_=>False
def aF8(P:Program)(G:L_)(a:HFun)(args:O_)(T:aK)(post:AV->aK->Prop):Prop :=
 fZ P G a.code (aCz a.res post) ⟨T.length,sB 0 args,T⟩
def fT{P:Program}{G:L_}{f:FuncId}{b:HFun}{H:List (Nat×Option Nat×Nat)}(h:tF P f H=some b){args:O_}{T:aK}{post:AV->aK->Prop}(g:aF8 P G b args T post):aA P G f args T post:=by
 refine Yn h trivial (jF (λe s d=>?_) g);have a:aCy b.res post s->UD b.res post s:=by intro c;unfold aCy at c;unfold UD;split<;>rename_i e<;>simp only[e]at c;exact .inr c
 cases e with
 |normal=>exact a d|ret=>exact a d|exit i=>exact d
def vZ{P:Program}{f:FuncId}{g:HFun}{H:List (Nat×Option Nat×Nat)}(b:tF P f H=some g):Rl P f:=by unfold tF at b;split at b;simp at b;rename_i i d;split at b;simp at b;rename_i a;split at b;rename_i c j h e;exact⟨i,c,d,h,ov⟩;simp at b
def pB(P:Program)(G:L_)(f:FuncId)(args:O_)(T:aK)[c:KT]:Prop:=IG P G f args T c.k
def vR(P:Program)(G:L_)(st:St)(o:HOp)[c:KT]:Prop:=yF P G st o c.k
def UF(P:Program)(G:L_)(os:List HOper)(st:St)[c:KC St]:Prop:=Mp P G os st c.k
def hdC(P:Program)(G:L_)(d:HD)(st:St)[c:KC St]:Prop:=JV P G d st c.k
def cW(P:Program)(G:L_)(c:HC)(st:St)[q:QC]:Prop:=fZ P G c q.q st
def L9(a:HFun)(args:O_)(T:aK)(post:AV->aK->Prop):aHq P G a args T post=@cW P G a.code ⟨T.length,sB 0 args,T⟩ ⟨aCx a.res post⟩:=fI rfl rfl
def aKY(a:HFun)(args:O_)(T:aK)(post:AV->aK->Prop):aF8 P G a args T post=@cW P G a.code ⟨T.length,sB 0 args,T⟩ ⟨aCz a.res post⟩:=fI rfl rfl
def aJl(K:St->Prop):@UF P G [] st ⟨K⟩=K st:=fI rfl rfl
def aIY(d:Option Nat)(o:HOp)(os:List HOper)(K:St->Prop):@UF P G (⟨d,o,none⟩::os) st ⟨K⟩=@vR P G st o ⟨λx T=>@UF P G os ⟨st.r,fV st.s d x,T⟩ ⟨K⟩⟩:=fI rfl rfl
attribute [go_sem] L9 aKY aJl aIY
@[go_sem] def aHs(d:Option Nat)(o:HOp)(j:Nat)(b:Bool)(os:List HOper)(K:St->Prop):
 @UF P G (⟨d,o,some (j,b)⟩::os) st ⟨K⟩=@Ai Bool (fY st.s (some (j,b))) ⟨λt=>@Gv t ⟨@vR P G st o ⟨λx T=>@UF P G os ⟨st.r,fV st.s d x,T⟩ ⟨K⟩⟩⟩ ⟨@UF P G os ⟨st.r,fV st.s d (.v undef),st.T⟩ ⟨K⟩⟩⟩:=by
 simp only[UF,Mp];unfold Ai
 cases fY st.s (some (j,b)) with
 |none=>rfl|some t=>cases t<;>rfl
def aAb(P:Program)(G:L_)(i:Nat)(args:O_)(T:aK)[c:KT]:Prop:=DA P G i args T c.k
def aAc(P:Program)(G:L_)(f:AV)(args:O_)(T:aK)[c:KT]:Prop:=match fnA f with|.cl g a=>pB P G g (args++a) T|.bm g k b=>pB P G g (b.take k++args++b.drop k) T|.yl i=>aAb P G i args T|_=>False
def aKZ(g:Nat)(a args:O_)(T:aK)(K:AV->aK->Prop):@aAc P G (.cl g a) args T ⟨K⟩=@pB P G g (args++a) T ⟨K⟩:=fI rfl rfl
def aL0(g k:Nat)(cs args:O_)(T:aK)(K:AV->aK->Prop):@aAc P G (.bm g k cs) args T ⟨K⟩=@pB P G g (cs.take k++args++cs.drop k) T ⟨K⟩:=fI rfl rfl
def aL1(i:Nat)(args:O_)(T:aK)(K:AV->aK->Prop):@aAc P G (.yl i) args T ⟨K⟩=@aAb P G i args T ⟨K⟩:=fI rfl rfl
def aL2(g:Nat)(args:O_)(T:aK)(K:AV->aK->Prop):@aAc P G (.v (.func (.func g) #[] #[])) args T ⟨K⟩=@pB P G g (args++[]) T ⟨K⟩:=fI rfl rfl
attribute [go_sem] aKZ aL0 aL1 aL2
@[go_sem] def aJm(f:Operand)(a:List Operand)(K:AV->aK->Prop):@vR P G st (.call f a) ⟨K⟩=@aAc P G (dW G st.s f) (a.map (dW G st.s)) st.T ⟨K⟩:=by simp only[vR,yF];unfold aAc;cases fnA (dW G st.s f)<;>rfl
def aJn:HOp->Bool|.call _ _|.nxt _|.nilS _ _ _=>false|_=>true
def lC(P:Program)(G:L_)(st:St)(o:HOp)[c:KT]:Prop:=@Ai (AV×aK) (cE st.T (dW G st.s) o) ⟨λp=>c.k p.1 p.2⟩
@[go_sem] def aL3(o:HOp)(K:AV->aK->Prop):@lC P G st o ⟨K⟩=@Ai (AV×aK) (cE st.T (dW G st.s) o) ⟨λp=>K p.1 p.2⟩:=fI rfl rfl
def bU{o:HOp}{K:AV->aK->Prop}(h:aJn o=true):@vR P G st o ⟨K⟩=@lC P G st o ⟨K⟩:=by
 cases o with
 |call f l=>cases h
 |nxt p=>cases h
 |nilS n k x=>cases h
 |_=>
  simp only[vR,yF];unfold lC Ai
  cases cE st.T (dW G st.s) _ with
  |none=>rfl|some p=>rfl
def aL4{x} K:@vR P G st (.mov x) ⟨K⟩=@lC P G st (.mov x) ⟨K⟩:=bU rfl
def aJo{c a b} K:@vR P G st (.pick c a b) ⟨K⟩=@lC P G st (.pick c a b) ⟨K⟩:=bU rfl
def aL5{op x y} K:@vR P G st (.bin op x y) ⟨K⟩=@lC P G st (.bin op x y) ⟨K⟩:=bU rfl
def aL6{neg ks x y} K:@vR P G st (.eqa neg ks x y) ⟨K⟩=@lC P G st (.eqa neg ks x y) ⟨K⟩:=bU rfl
def aL7{neg x y} K:@vR P G st (.eqb neg x y) ⟨K⟩=@lC P G st (.eqb neg x y) ⟨K⟩:=bU rfl
def aRf{neg x y} K:@vR P G st (.eqp neg x y) ⟨K⟩=@lC P G st (.eqp neg x y) ⟨K⟩:=bU rfl
def aNa{op x} K:@vR P G st (.un op x) ⟨K⟩=@lC P G st (.un op x) ⟨K⟩:=bU rfl
def aJp{k x} K:@vR P G st (.conv k x) ⟨K⟩=@lC P G st (.conv k x) ⟨K⟩:=bU rfl
def aL8{x} K:@vR P G st (.box x) ⟨K⟩=@lC P G st (.box x) ⟨K⟩:=bU rfl
def aIZ{z} K:@vR P G st (.alloc z) ⟨K⟩=@lC P G st (.alloc z) ⟨K⟩:=bU rfl
def aL9{z parts} K:@vR P G st (.bld z parts) ⟨K⟩=@lC P G st (.bld z parts) ⟨K⟩:=bU rfl
def aLa{k z parts len} K:@vR P G st (.bsl k z parts len) ⟨K⟩=@lC P G st (.bsl k z parts len) ⟨K⟩:=bU rfl
def aNb{n p} K:@vR P G st (.ld n p) ⟨K⟩=@lC P G st (.ld n p) ⟨K⟩:=bU rfl
def aNc{n p x} K:@vR P G st (.st n p x) ⟨K⟩=@lC P G st (.st n p x) ⟨K⟩:=bU rfl
def aLb{p off} K:@vR P G st (.fad p off) ⟨K⟩=@lC P G st (.fad p off) ⟨K⟩:=bU rfl
def aLc{x off n} K:@vR P G st (.fld x off n) ⟨K⟩=@lC P G st (.fld x off n) ⟨K⟩:=bU rfl
def aLd{x ix k} K:@vR P G st (.iad x ix k) ⟨K⟩=@lC P G st (.iad x ix k) ⟨K⟩:=bU rfl
def aJq{x ix len k} K:@vR P G st (.iadA x ix len k) ⟨K⟩=@lC P G st (.iadA x ix len k) ⟨K⟩:=bU rfl
def aLe{x ix} K:@vR P G st (.ixS x ix) ⟨K⟩=@lC P G st (.ixS x ix) ⟨K⟩:=bU rfl
def aJr{x} K:@vR P G st (.lenS x) ⟨K⟩=@lC P G st (.lenS x) ⟨K⟩:=bU rfl
def aJs{x} K:@vR P G st (.lenL x) ⟨K⟩=@lC P G st (.lenL x) ⟨K⟩:=bU rfl
def aLf{x y k bytes} K:@vR P G st (.app x y k bytes) ⟨K⟩=@lC P G st (.app x y k bytes) ⟨K⟩:=bU rfl
def aLg{x i} K:@vR P G st (.ext x i) ⟨K⟩=@lC P G st (.ext x i) ⟨K⟩:=bU rfl
def aLh{f caps} K:@vR P G st (.clo f caps) ⟨K⟩=@lC P G st (.clo f caps) ⟨K⟩:=bU rfl
def aJt{x} K:@vR P G st (.nilc x) ⟨K⟩=@lC P G st (.nilc x) ⟨K⟩:=bU rfl
def aLi{x lo hi k} K:@vR P G st (.slc x lo hi k) ⟨K⟩=@lC P G st (.slc x lo hi k) ⟨K⟩:=bU rfl
def aQA{x lo hi} K:@vR P G st (.slcS x lo hi) ⟨K⟩=@lC P G st (.slcS x lo hi) ⟨K⟩:=bU rfl
attribute [go_sem] aL4 aJo aL5 aL6 aL7 aRf aNa aJp aL8 aIZ aL9 aLa aNb aNc aLb aLc aLd aJq aLe aJr aJs aLf aLg aLh aJt aLi aQA
@[go_sem] def aJv{neg kd x}(K:AV->aK->Prop):@vR P G st (.nilS neg kd x) ⟨K⟩=@Gv (Te kd (dW G st.s x)) ⟨K (.v (.bool true)) st.T/\K (.v (.bool false)) st.T⟩ ⟨@Ai (AV×aK) (cE st.T (dW G st.s) (.nilS neg kd x)) ⟨λp=>K p.1 p.2⟩⟩:=by
 simp only[vR,yF];unfold Gv Ai;split<;>rename_i h;rw[h];rfl;have h:Te kd (dW G st.s x)=false:=w_;rw[h];simp only
 cases cE st.T (dW G st.s) (.nilS neg kd x) with
 |none=>rfl|some p=>rfl
def aNd{mx x y} K:@vR P G st (.mm mx x y) ⟨K⟩=@lC P G st (.mm mx x y) ⟨K⟩:=bU rfl
def aLj{ag} K:@vR P G st (.mkm ag) ⟨K⟩=@lC P G st (.mkm ag) ⟨K⟩:=bU rfl
def aLk{ag ls z m k ok} K:@vR P G st (.lku ag ls z m k ok) ⟨K⟩=@lC P G st (.lku ag ls z m k ok) ⟨K⟩:=bU rfl
def aLl{ag ls m k x} K:@vR P G st (.mup ag ls m k x) ⟨K⟩=@lC P G st (.mup ag ls m k x) ⟨K⟩:=bU rfl
def aLm{ag ls z m k} K:@vR P G st (.men ag ls z m k) ⟨K⟩=@lC P G st (.men ag ls z m k) ⟨K⟩:=bU rfl
def aLn{m s x} K:@vR P G st (.mst m s x) ⟨K⟩=@lC P G st (.mst m s x) ⟨K⟩:=bU rfl
def aLo{ag ls m k} K:@vR P G st (.del ag ls m k) ⟨K⟩=@lC P G st (.del ag ls m k) ⟨K⟩:=bU rfl
def aJw{m} K:@vR P G st (.lenM m) ⟨K⟩=@lC P G st (.lenM m) ⟨K⟩:=bU rfl
def aLp{k z bytes x y} K:@vR P G st (.mks k z bytes x y) ⟨K⟩=@lC P G st (.mks k z bytes x y) ⟨K⟩:=bU rfl
def aLq{x} K:@vR P G st (.s2b x) ⟨K⟩=@lC P G st (.s2b x) ⟨K⟩:=bU rfl
def aLr{x} K:@vR P G st (.b2s x) ⟨K⟩=@lC P G st (.b2s x) ⟨K⟩:=bU rfl
def aRg{x} K:@vR P G st (.b2b x) ⟨K⟩=@lC P G st (.b2b x) ⟨K⟩:=bU rfl
def aLt{x y} K:@vR P G st (.apS x y) ⟨K⟩=@lC P G st (.apS x y) ⟨K⟩:=bU rfl
def aLu{f k cs} K:@vR P G st (.bmo f k cs) ⟨K⟩=@lC P G st (.bmo f k cs) ⟨K⟩:=bU rfl
def aJx{k z ps len} K:@vR P G st (.bslS k z ps len) ⟨K⟩=@lC P G st (.bslS k z ps len) ⟨K⟩:=bU rfl
def aRh(K:AV->aK->Prop):@vR P G st .bad ⟨K⟩=False:=fI rfl rfl
def aLw{m} K:@vR P G st (.rgm m) ⟨K⟩=@lC P G st (.rgm m) ⟨K⟩:=bU rfl
def aLx{m} K:@vR P G st (.ent m) ⟨K⟩=@lC P G st (.ent m) ⟨K⟩:=bU rfl
def aLy{x k z} K:@vR P G st (.clr x k z) ⟨K⟩=@lC P G st (.clr x k z) ⟨K⟩:=bU rfl
attribute [go_sem] aNd aLj aLk aLl aLm aLn aLo aJw aLp aLq aLr aRg aLt aLu aJx aRh aLw aLx aLy
def aCA(T:aK)(x:AV)[c:KT]:Prop:=match x with
 | .ptr i 0=>match cR T i with
  |some (.mit none _ _ _)=>c.k (.v (.tuple #[.bool false])) T|some (.mit (some j) a aAD f)=>match cR T j with
   | some (.map l g d bs h)=>a<=f/\(∀b∈bs,b<a)/\((∀b∈bs,b∈aAD)->c.k (.v (.tuple #[.bool false])) T) /\
     ∀(e:Nat)(k:C_)(v:AV)(b:Nat),g[e]?=some k->d[e]?=some v->bs[e]?=some b->b∉aAD ->
      c.k (.tup [.v (.bool true),.v (iY l k),v]) (T.set i (some (.mit (some j) a (aAD++[b]) h)))
   |_=>False
  |_=>False
 |_=>False
def aLz{p}(K:AV->aK->Prop):@vR P G st (.nxt p) ⟨K⟩=@aCA st.T (dW G st.s p) ⟨K⟩:=fI rfl rfl
def aLA{x lo hi mx k} K:@vR P G st (.slx x lo hi mx k) ⟨K⟩=@lC P G st (.slx x lo hi mx k) ⟨K⟩:=bU rfl
def aJy(b:Bool)(K:St->Prop):@hdC P G (.done b) st ⟨K⟩=K (if b then DB [] st else st):=fI rfl rfl
def aNe(K:St->Prop):@hdC P G .no st ⟨K⟩=True:=fI rfl rfl
attribute [go_sem] aLz aLA aJy aNe
@[go_sem] def aO6(d:Option Nat)(o:HOp)(n:HD)(K:St->Prop):@hdC P G (.q ⟨d,o,none⟩ n) st ⟨K⟩=@Ai (AV×aK) (cE st.T (dW G st.s) o) ⟨λp=>@hdC P G n ⟨st.r,fV st.s d p.1,st.T⟩ ⟨K⟩⟩:=by
 simp only[hdC,JV,fY];unfold Ai
 cases cE st.T (dW G st.s) o with
 |none=>rfl|some p=>rfl
@[go_sem] def aNf(d:Option Nat)(o:HOp)(j:Nat)(b:Bool)(n:HD)(K:St->Prop):
 @hdC P G (.q ⟨d,o,some (j,b)⟩ n) st ⟨K⟩=@Ai Bool (fY st.s (some (j,b))) ⟨λt=>@Gv t ⟨@Ai (AV×aK) (cE st.T (dW G st.s) o) ⟨λp=>@hdC P G n ⟨st.r,fV st.s d p.1,st.T⟩ ⟨K⟩⟩⟩ ⟨@hdC P G n ⟨st.r,fV st.s d (.v undef),st.T⟩ ⟨K⟩⟩⟩:=by
 simp only[hdC,JV];unfold Ai
 cases fY st.s (some (j,b)) with
 |none=>rfl| some t=>
  cases t;rfl
  cases cE st.T (dW G st.s) o with
  |none=>rfl|some p=>rfl
@[go_sem] def aLB(d:Option Nat)(o:HOp)(a:List HOper)(n m:HD)(K:St->Prop):
 @hdC P G (.alt ⟨d,o,none⟩ a n m) st ⟨K⟩=((@vR P G st o ⟨λx T=>qL G ⟨st.r,fV st.s d x,T⟩ a/\@hdC P G n ⟨st.r,fV st.s d x,T⟩ ⟨K⟩⟩)/\@hdC P G m st ⟨K⟩):=fI rfl rfl
@[go_sem] def aJz(d:Option Nat)(o:HOp)(j:Nat)(b:Bool)(a:List HOper)(n m:HD)(K:St->Prop):
 @hdC P G (.alt ⟨d,o,some (j,b)⟩ a n m) st ⟨K⟩=((@Ai Bool (fY st.s (some (j,b))) ⟨λt=>@Gv t ⟨@vR P G st o ⟨λx T=>qL G ⟨st.r,fV st.s d x,T⟩ a/\@hdC P G n ⟨st.r,fV st.s d x,T⟩ ⟨K⟩⟩⟩
  ⟨qL G ⟨st.r,fV st.s d (.v undef),st.T⟩ a/\@hdC P G n ⟨st.r,fV st.s d (.v undef),st.T⟩ ⟨K⟩⟩⟩)/\@hdC P G m st ⟨K⟩):=by
 simp only[hdC,JV];unfold Ai
 cases fY st.s (some (j,b)) with
 |none=>rfl|some t=>cases t<;>rfl
def aHt(Q:Ex->St->Prop):@cW P G .skip st ⟨Q⟩=Q .normal st:=fI rfl rfl
def aJ0(l:List HOper)(Q:Ex->St->Prop):@cW P G (.reg l) st ⟨Q⟩=@UF P G l st ⟨Q .normal⟩:=fI rfl rfl
def aHu(d:HD)(Q:Ex->St->Prop):@cW P G (.regd d) st ⟨Q⟩=@hdC P G d st ⟨Q .normal⟩:=fI rfl rfl
def aHv(d:V_)(Q:Ex->St->Prop):@cW P G (.kill d) st ⟨Q⟩=Q .normal ⟨st.r,mV d st.s,st.T⟩:=fI rfl rfl
def aJ1(j:Nat)(c:Option Nat)(k:Nat)(Q:Ex->St->Prop):@cW P G (.own j c k) st ⟨Q⟩=Q .normal (QT st j c k):=fI rfl rfl
def aHw(j:Nat)(Q:Ex->St->Prop):@cW P G (.shut j) st ⟨Q⟩=Q .normal (DB [] (Rk st j)):=fI rfl rfl
def aHx(i:Nat)(Q:Ex->St->Prop):@cW P G (.exit i) st ⟨Q⟩=Q (.exit i) st:=fI rfl rfl
def aJ2(Q:Ex->St->Prop):@cW P G .ret st ⟨Q⟩=Q .ret st:=fI rfl rfl
attribute [go_sem] aHt aJ0 aHu aHv aJ1 aHw aHx aJ2
def HH[c:KC St][q:QC]:Ex->St->Prop|.normal,s=>c.k s|.exit i,s=>q.q (.exit i) s|.ret,s=>q.q .ret s
def aHy(K:St->Prop)(Q:Ex->St->Prop)(s:St):@HH ⟨K⟩ ⟨Q⟩ .normal s=K s:=fI rfl rfl
def aHz(K:St->Prop)(Q:Ex->St->Prop)(i:Nat)(s:St):@HH ⟨K⟩ ⟨Q⟩ (.exit i) s=Q (.exit i) s:=fI rfl rfl
def aHA(K:St->Prop)(Q:Ex->St->Prop)(s:St):@HH ⟨K⟩ ⟨Q⟩ .ret s=Q .ret s:=fI rfl rfl
attribute [go_sem] aHy aHz aHA
@[go_sem] def bC(a b:HC)(Q:Ex->St->Prop):@cW P G (.seq a b) st ⟨Q⟩=@cW P G a st ⟨@HH ⟨λs=>@cW P G b s ⟨Q⟩⟩ ⟨Q⟩⟩:=by simp only[cW,fZ];congr 1;funext e s;cases e<;>rfl
def HI(id:Nat)[q:QC]:Ex->St->Prop|.normal,s=>q.q .normal s|.exit i,s=>if i=id then q.q .normal s else q.q (.exit i) s|.ret,s=>q.q .ret s
def aJA(id:Nat)(Q:Ex->St->Prop)(s:St):@HI id ⟨Q⟩ .normal s=Q .normal s:=fI rfl rfl
def aJB(id i:Nat)(Q:Ex->St->Prop)(s:St):@HI id ⟨Q⟩ (.exit i) s=if i=id then Q .normal s else Q (.exit i) s:=fI rfl rfl
def aJC(id:Nat)(Q:Ex->St->Prop)(s:St):@HI id ⟨Q⟩ .ret s=Q .ret s:=fI rfl rfl
attribute [go_sem] aJA aJB aJC
@[go_sem] def aGV(id:Nat)(a:HC)(Q:Ex->St->Prop):@cW P G (.block id a) st ⟨Q⟩=@cW P G a st ⟨@HI id ⟨Q⟩⟩:=by simp only[cW,fZ];congr 1;funext e s;cases e<;>rfl
@[go_sem] def aHB(c:Operand)(a b:HC)(Q:Ex->St->Prop):@cW P G (.cond c a b) st ⟨Q⟩=@aCv (dW G st.s c) ⟨λt=>@Gv t ⟨@cW P G a st ⟨Q⟩⟩ ⟨@cW P G b st ⟨Q⟩⟩⟩:=by simp only[cW,fZ];unfold aCv;split;rename_i t h;rw[h];cases t<;>rfl;rename_i h;split;rename_i t d;exact absurd d (h t);rfl
def Et(d:V_)[c:KC St][q:QC]:Ex->St->Prop|.normal,s=>c.k (DB d s)|.exit i,s=>q.q (.exit i) s|.ret,s=>q.q .ret s
def aLC(d:V_)(J:St->Prop)(Q:Ex->St->Prop)(s:St):@Et d ⟨J⟩ ⟨Q⟩ .normal s=J (DB d s):=fI rfl rfl
def aLD(d:V_)(J:St->Prop)(Q:Ex->St->Prop)(i:Nat)(s:St):@Et d ⟨J⟩ ⟨Q⟩ (.exit i) s=Q (.exit i) s:=fI rfl rfl
def aLE(d:V_)(J:St->Prop)(Q:Ex->St->Prop)(s:St):@Et d ⟨J⟩ ⟨Q⟩ .ret s=Q .ret s:=fI rfl rfl
attribute [go_sem] aLC aLD aLE
def oN{c:HC}{Q a:Ex->St->Prop}{st:St}(h:∀e s,Q e s->a e s)(b:@cW P G c st ⟨Q⟩):@cW P G c st ⟨a⟩:=jF h b
def aF9{d:V_}{a:HC}{Q:Ex->St->Prop}(I:Nat->St->Prop)(n:Nat)(h0:I n (DB d st)\/I n st)(g:∀n s,I n s->@cW P G a s ⟨@Et d ⟨λc=>∃m,m<n/\I m c⟩ ⟨Q⟩⟩):@cW P G (.loop d a) st ⟨Q⟩:=by
 refine⟨I,⟨n,h0⟩,λn s f=>?_⟩;have:=g n s f;refine jF (λe s b=>?_) this
 cases e with
 |normal=>exact⟨b.choose,b.choose_spec.1,.inl b.choose_spec.2⟩|exit i=>exact b|ret=>exact b
def Kv[c:KC St][q:QC]:Ex->St->Prop|.normal,s=>c.k s|.exit i,s=>q.q (.exit i) s|.ret,s=>q.q .ret s
def aLF(J:St->Prop)(Q:Ex->St->Prop)(s:St):@Kv ⟨J⟩ ⟨Q⟩ .normal s=J s:=fI rfl rfl
def aLG(J:St->Prop)(Q:Ex->St->Prop)(i:Nat)(s:St):@Kv ⟨J⟩ ⟨Q⟩ (.exit i) s=Q (.exit i) s:=fI rfl rfl
def aLH(J:St->Prop)(Q:Ex->St->Prop)(s:St):@Kv ⟨J⟩ ⟨Q⟩ .ret s=Q .ret s:=fI rfl rfl
attribute [go_sem] aLF aLG aLH
def kL{d:V_}{a:HC}{Q:Ex->St->Prop}(I:Nat->St->Prop)(n:Nat)(h0:I n st)(g:∀n s,I n s->@cW P G a s ⟨@Kv ⟨λc=>∃m,m<n/\I m c⟩ ⟨Q⟩⟩):@cW P G (.loop d a) st ⟨Q⟩:=by
 refine⟨I,⟨n,.inr h0⟩,λn s f=>?_⟩;refine jF (λe s b=>?_) (g n s f)
 cases e with
 |normal=>exact⟨b.choose,b.choose_spec.1,.inr b.choose_spec.2⟩|exit i=>exact b|ret=>exact b
def cO{d:V_}{a:HC}{Q:Ex->St->Prop}(I:Nat->St->Prop)(n:Nat)(h0:I n (DB d st))(c:∀n s,I n s->@cW P G a s ⟨@Et d ⟨λb=>∃m,m<n/\I m b⟩ ⟨Q⟩⟩):@cW P G (.loop d a) st ⟨Q⟩:=by exact aF9 I n (.inl h0) c
def DL{d:V_}{J a:St->Prop}{Q:Ex->St->Prop}(h:∀s,J s->a s):∀e s,@Et d ⟨J⟩ ⟨Q⟩ e s->@Et d ⟨a⟩ ⟨Q⟩ e s:=by
 intro e s
 cases e with
 |normal=>exact h _|exit i=>exact id|ret=>exact id
def aQ{d:V_}{a:HC}{Q:Ex->St->Prop}(N:Nat)(S:Nat->St)(J:Nat->Prop)(h0:DB d st=S 0)(f:J 0)(g:∀i,i<N->J i->@cW P G a (S i) ⟨@Et d ⟨λe=>e=S (i+1)/\J (i+1)⟩ ⟨Q⟩⟩)
 (j:J N->@cW P G a (S N) ⟨@Et d ⟨λ_=>False⟩ ⟨Q⟩⟩):@cW P G (.loop d a) st ⟨Q⟩:=by
 apply cO (λn s=>∃i,i<=N/\n=N-i/\s=S i/\J i) N ⟨0,pR _,s_,h0,f⟩;rintro n s ⟨i,l,rfl,rfl,c⟩;rcases eD i N with b|k;exact oN (DL λs ⟨h1,h2⟩=>⟨N-(i+1),o_,i+1,o_,rfl,h1,h2⟩) (g i b c);obtain rfl:i=N:=o_;exact oN (DL λs h=>h.elim) (j c)
def aCB(i:Nat)(r:Loop)(s:List (Nat×AV))(n:Nat)[c:KT]:Ex->St->Prop|.normal,a=>c.k (.v (.bool true)) ((DB [] ⟨n,[],a.T⟩).T.set i (some (.lp r s)))|.exit id,a=>c.k (.v (.bool false)) ((DB [] ⟨n,[],a.T⟩).T.set i (some (.lp (left r (.exit id)) s)))|.ret,a=>c.k (.v (.bool false)) ((DB [] ⟨n,[],a.T⟩).T.set i (some (.lp (left r .ret) s)))
def aNg(i:Nat)(r:Loop)(s:List (Nat×AV))(n:Nat)(K:AV->aK->Prop)(st:St):@aCB i r s n ⟨K⟩ .normal st=K (.v (.bool true)) ((DB [] ⟨n,[],st.T⟩).T.set i (some (.lp r s))):=fI rfl rfl
def aSk(i:Nat)(r:Loop)(s:List (Nat×AV))(n:Nat)(K:AV->aK->Prop)(id:Nat)(st:St):@aCB i r s n ⟨K⟩ (.exit id) st=K (.v (.bool false)) ((DB [] ⟨n,[],st.T⟩).T.set i (some (.lp (left r (.exit id)) s))):=fI rfl rfl
def aSl(i:Nat)(r:Loop)(s:List (Nat×AV))(n:Nat)(K:AV->aK->Prop)(st:St):@aCB i r s n ⟨K⟩ .ret st=K (.v (.bool false)) ((DB [] ⟨n,[],st.T⟩).T.set i (some (.lp (left r .ret) s))):=fI rfl rfl
attribute [go_sem] aNg aSk aSl
def aCC(i:Nat)(r:Loop)(s:List (Nat×AV))[c:KT]:Ex->St->Prop|.normal,a=>c.k (.v (.bool true)) (a.T.set i (some (.lp r s)))|.exit id,a=>c.k (.v (.bool false)) (a.T.set i (some (.lp (left r (.exit id)) s)))|.ret,a=>c.k (.v (.bool false)) (a.T.set i (some (.lp (left r .ret) s)))
def aNj(i:Nat)(r:Loop)(s:List (Nat×AV))(K:AV->aK->Prop)(st:St):@aCC i r s ⟨K⟩ .normal st=K (.v (.bool true)) (st.T.set i (some (.lp r s))):=fI rfl rfl
def aSm(i:Nat)(r:Loop)(s:List (Nat×AV))(K:AV->aK->Prop)(id:Nat)(st:St):@aCC i r s ⟨K⟩ (.exit id) st=K (.v (.bool false)) (st.T.set i (some (.lp (left r (.exit id)) s))):=fI rfl rfl
def aSn(i:Nat)(r:Loop)(s:List (Nat×AV))(K:AV->aK->Prop)(st:St):@aCC i r s ⟨K⟩ .ret st=K (.v (.bool false)) (st.T.set i (some (.lp (left r .ret) s))):=fI rfl rfl
attribute [go_sem] aNj aSm aSn
def aFa(r:Nat)(s:List (Nat×AV))(n:Nat)(T:aK)[q:QC]:Prop :=
 match cR T n with
 |some (.lp rec _)=>rec.state≠.busy/\(match rec.pending with|none=>q.q .normal ⟨r,s,T.set n none⟩|some (.exit id)=>q.q (.exit id) ⟨r,s,T.set n none⟩|some .ret=>q.q .ret ⟨r,s,T.set n none⟩|_=>False)
 |_=>False
def aJD(P:Program)(G:L_)(r:Loop)(ps:V_)(a b:HC):Prop :=
 ∀(i:Nat)(s:List (Nat×AV))(T:aK)(args:O_)(K:AV->aK->Prop),cR T i=some (.lp r s)->args.length=ps.length ->
  (@cW P G a ⟨T.length,yJ s ps args,T.set i none⟩ ⟨@HH ⟨λc=>@cW P G b c ⟨@aCB i r s T.length ⟨K⟩⟩⟩ ⟨λ_ _=>False⟩⟩)->@aAb P G i args T ⟨K⟩
def aHC(P:Program)(G:L_)(r:Loop)(ps:V_)(a b:HC):Prop :=
 ∀(i:Nat)(s:List (Nat×AV))(T:aK)(args:O_)(K:AV->aK->Prop),cR T i=some (.lp r s)->args.length=ps.length ->
  (@cW P G a ⟨T.length,yJ s ps args,T.set i none⟩ ⟨@HH ⟨λc=>@cW P G b c ⟨@aCC i r s ⟨K⟩⟩⟩ ⟨λ_ _=>False⟩⟩)->@aAb P G i args T ⟨K⟩
def NX{g:Operand}{ps d:V_}{a b:HC}{Q:Ex->St->Prop}{f:FuncId}{caps:O_}(hg:dW G st.s g=.cl f caps)(hb:Rl P f)
 (h:∀r:Loop,r.state=.ready->r.pending=none->aJD P G r ps a b->aHC P G r ps a b ->
  @pB P G f (.yl st.T.length::caps) (st.T++[some (.lp r (Gr d st.s))]) ⟨λ_ T2=>@aFa st.r st.s st.T.length T2 ⟨Q⟩⟩):@cW P G (.rng g ps d a b) st ⟨Q⟩:=by
 show fZ P G (.rng g ps d a b) Q st;simp only[fZ];intro r h1 h2 h3 hy;rw[hg];refine⟨hb,?_⟩;have key:∀(R:Nat->Loop->List (Nat×AV)->Nat->(AV->aK->Prop)->Ex->St->Prop),(∀i s n K e st,R i r s n K e st->JZ i r s n K e st) ->
  ∀(i:Nat)(s:List (Nat×AV))(T:aK)(args:O_)(K:AV->aK->Prop),cR T i=some (.lp r s)->args.length=ps.length ->
  (@cW P G a ⟨T.length,yJ s ps args,T.set i none⟩ ⟨@HH ⟨λs1=>@cW P G b s1 ⟨R i r s T.length K⟩⟩ ⟨λ_ _=>False⟩⟩)->@aAb P G i args T ⟨K⟩:=by
  intro R hR i s T args K hi hl hc;refine hy i s T args K hi hl (jF (λe s1 hq=>?_) hc)
  cases e with
  |normal=>exact jF (λe s2 h2=>hR _ _ _ _ _ _ h2) hq
  |exit i=>exact hq
  |ret=>exact hq
 refine h r h1 h2 (key (λi r s n K=>@aCB i r s n ⟨K⟩) λi s n K e st hq=>?_) (key (λi r s n K=>@aCC i r s ⟨K⟩) λi s n K e st hq=>?_);cases e<;>exact⟨true,hq⟩;cases e<;>exact⟨false,hq⟩
def jG{c:HC}{id:Nat}{K:St->Prop}{Q:Ex->St->Prop}(R:St->Prop)(h:@cW P G c st ⟨@HI id ⟨@HH ⟨R⟩ ⟨Q⟩⟩⟩)(b:∀s,R s->K s):@cW P G c st ⟨@HI id ⟨@HH ⟨K⟩ ⟨Q⟩⟩⟩:=by
 refine oN (λe s a=>?_) h
 cases e with
 |normal=>exact b s a|exit i=>
  simp only[HI]at a⊢;split;rename_i e;rw[if_pos e]at a;exact b s a;rename_i e;rw[if_neg e]at a;exact a
 |ret=>exact a
def cB{c:HC}{K:St->Prop}{Q:Ex->St->Prop}(R:St->Prop)(h:@cW P G c st ⟨@HH ⟨R⟩ ⟨Q⟩⟩)(b:∀s,R s->K s):@cW P G c st ⟨@HH ⟨K⟩ ⟨Q⟩⟩:=by
 refine oN (λe s a=>?_) h
 cases e with
 |normal=>exact b s a|exit i=>exact a|ret=>exact a
def aFb{d:V_}{a:HC}{Q:Ex->St->Prop}(N:Nat)(S:Nat->St)(J:Nat->Prop)(h0:DB d st=S N)(e:J N)(f:∀k,k<N->J (k+1)->@cW P G a (S (k+1)) ⟨@Et d ⟨λc=>c=S k/\J k⟩ ⟨Q⟩⟩)
 (g:J 0->@cW P G a (S 0) ⟨@Et d ⟨λ_=>False⟩ ⟨Q⟩⟩):@cW P G (.loop d a) st ⟨Q⟩:=by
 apply cO (λn s=>n<=N/\s=S n/\J n) N ⟨cN _,h0,e⟩;rintro n s ⟨i,rfl,b⟩
 cases n with
 |zero=>exact oN (DL λs h=>h.elim) (g b)|succ n=>exact oN (DL λs ⟨h1,h2⟩=>⟨n,o_,o_,h1,h2⟩) (f n o_ b)
end
attribute [go_sem] Gq uS Te sZ jE PO Gr yJ aFa aHi XQ bkF bkS PS Td left cE dW bA fV GW LE mV sB cR dT Vu Mo gS aX bV pun eqC rJ fY aCx aCw aCz aCy Jk aCt R6 Rj Zj aKs Bc Ee IC gF iZ aC3 aJi Bd xF GX YQ TO DB sA LG
 QT Rk Ef shutI CB IB Vq QS QR tB xG fX tC xH AR EJ DC IF bk LF G6 eR aC2 JY yI qL
attribute [go_sem] ne_eq not_false_eq_true not_true_eq_false H6 Option.bind_none if_true if_false jJ true_and and_true sW oX sE gQ fG uP QI aBO uQ TZ List.take_nil List.drop_nil
 jC dM jO List.all_cons aGL yH aBY lI sF List.set_cons_zero yG List.contains_cons List.contains_nil rI iX xD
 nI Int.natCast_nonneg decide_true decide_false Bool.not_eq_true
def aLI:List.range 0=[]:=fI rfl rfl
def aRi:List.range 1=[0]:=fI rfl rfl
def aRj:List.range 2=[0,1]:=fI rfl rfl
def aRk:List.range 3=[0,1,2]:=fI rfl rfl
def aRl:List.range 4=[0,1,2,3]:=fI rfl rfl
def aRm:List.range 5=[0,1,2,3,4]:=fI rfl rfl
def aRn:List.range 6=[0,1,2,3,4,5]:=fI rfl rfl
def aRo:List.range 7=[0,1,2,3,4,5,6]:=fI rfl rfl
def aRp:List.range 8=[0,1,2,3,4,5,6,7]:=fI rfl rfl
def aRq:List.range 9=[0,1,2,3,4,5,6,7,8]:=fI rfl rfl
def aQB:List.range 10=[0,1,2,3,4,5,6,7,8,9]:=fI rfl rfl
def aQC:List.range 11=[0,1,2,3,4,5,6,7,8,9,10]:=fI rfl rfl
def aQD:List.range 12=[0,1,2,3,4,5,6,7,8,9,10,11]:=fI rfl rfl
def aQE:List.range 13=[0,1,2,3,4,5,6,7,8,9,10,11,12]:=fI rfl rfl
def aQF:List.range 14=[0,1,2,3,4,5,6,7,8,9,10,11,12,13]:=fI rfl rfl
def aQG:List.range 15=[0,1,2,3,4,5,6,7,8,9,10,11,12,13,14]:=fI rfl rfl
def aQH:List.range 16=[0,1,2,3,4,5,6,7,8,9,10,11,12,13,14,15]:=fI rfl rfl
attribute [go_sem] aLI aRi aRj aRk aRl aRm aRn aRo aRp aRq aQB aQC aQD aQE aQF aQG aQH
@[go_sem] def aOl(b:Bool):(b==true)=b:=s9
@[go_sem] def aOm(b:Bool):(b==false)=!b:=s9
attribute [go_sem] Bool.not_not bne_self_eq_false beq_self_eq_true
attribute [go_sem] Nat.min_self aP dZ eC vY pQ mG QO cN pR QK cL bZ
attribute [go_sem] List.getD_cons_zero List.getD_cons_succ List.getD_nil
attribute [go_sem] EB Ed EI EH List.idxOf?_cons List.idxOf?_nil List.findIdx?_cons List.findIdx?_nil List.filter_cons List.filter_nil
def aNm:((0:Nat):Int)=0:=fI rfl rfl
def aHD:((1:Nat):Int)=1:=fI rfl rfl
def aNn:((2:Nat):Int)=2:=fI rfl rfl
def aNo:((3:Nat):Int)=3:=fI rfl rfl
def aNp:((4:Nat):Int)=4:=fI rfl rfl
def aNq:((5:Nat):Int)=5:=fI rfl rfl
def aNr:((6:Nat):Int)=6:=fI rfl rfl
def aSo:((7:Nat):Int)=7:=fI rfl rfl
def aSp:((8:Nat):Int)=8:=fI rfl rfl
def aSq:((9:Nat):Int)=9:=fI rfl rfl
def aRr:((10:Nat):Int)=10:=fI rfl rfl
def aRs:((11:Nat):Int)=11:=fI rfl rfl
def aRt:((12:Nat):Int)=12:=fI rfl rfl
def aRu:((13:Nat):Int)=13:=fI rfl rfl
def aLW:((14:Nat):Int)=14:=fI rfl rfl
def aRv:((15:Nat):Int)=15:=fI rfl rfl
def aRw:((16:Nat):Int)=16:=fI rfl rfl
def aRx:((17:Nat):Int)=17:=fI rfl rfl
def aRy:((18:Nat):Int)=18:=fI rfl rfl
def aRz:((19:Nat):Int)=19:=fI rfl rfl
def aRA:((20:Nat):Int)=20:=fI rfl rfl
def aRB:((21:Nat):Int)=21:=fI rfl rfl
def aRC:((22:Nat):Int)=22:=fI rfl rfl
def aRD:((23:Nat):Int)=23:=fI rfl rfl
def aRE:((24:Nat):Int)=24:=fI rfl rfl
def aRF:((25:Nat):Int)=25:=fI rfl rfl
def aRG:((26:Nat):Int)=26:=fI rfl rfl
def aRH:((27:Nat):Int)=27:=fI rfl rfl
def aRI:((28:Nat):Int)=28:=fI rfl rfl
def aRJ:((29:Nat):Int)=29:=fI rfl rfl
def aRK:((30:Nat):Int)=30:=fI rfl rfl
def aRL:((31:Nat):Int)=31:=fI rfl rfl
def aRM:((32:Nat):Int)=32:=fI rfl rfl
attribute [go_sem] aNm aHD aNn aNo aNp aNq aNr aSo aSp aSq aRr aRs aRt aRu aLW aRv aRw aRx aRy aRz aRA aRB aRC aRD aRE aRF aRG aRH aRI aRJ aRK aRL aRM
@[go_sem] def aQI(t a:Bool):(if t=true then AV.v (.bool a) else AV.v (.bool false))=AV.v (.bool (t&&a)):=by cases t<;>rfl
@[go_sem] def aRN(t b:Bool):(if t=true then AV.v (.bool true) else AV.v (.bool b))=AV.v (.bool (t||b)):=by cases t<;>rfl
attribute [go_sem] yH mF lR Ea
attribute [go_sem] reduceCtorEq Nat.reduceEqDiff Nat.reduceBEq Nat.reduceAdd Nat.reduceSub Nat.reduceMul Nat.reduceLT Nat.reduceLeDiff Int.reduceEq Int.reduceLT Int.reduceLE Int.reduceToNat Int.reduceNeg Int.reduceBEq Int.reduceMul Int.reduceAdd Int.reduceSub
attribute [go_sem ↓] reduceIte
def aJ{n:Int}(h1:-9223372036854775808<=n)(h2:n<=2^63-1):IntKind.i64.wrap n=n:=dg
def aCD{n:Int}(h1:0<=n)(h2:n<=18446744073709551615):IntKind.u64.wrap n=n:=dg
def Ib{n:Nat}(h:n<=2^63-1):IntKind.i64.wrap (n:Int)=n:=aJ o_ o_
def pC{n:Nat}(h:n<2^63-1):IntKind.i64.wrap ((n:Int)+1)=((n+1:Nat):Int):=by rw[aJ o_ o_];rfl
def fQ(n:Nat)(h:n<2^63-1):IntKind.i64.wrap ((n:Int)+1)=((n+1:Nat):Int):=pC h
def F3{n:Nat}(h:n<2^63-1):IntKind.i64.wrap (((n+1:Nat):Int)-1)=n:=a_
@[go_sem] def aMg(n:Nat):decide (((n+1:Nat):Int)>0)=true:=decide_eq_true o_
@[go_sem] def aO7:decide ((0:Int)>0)=false:=fI rfl rfl
@[go_sem] def aQJ:decide (((0:Nat):Int)>0)=false:=fI rfl rfl
@[go_sem] def aER{α a:Type}(f:α->a)(l:List α)(p:Nat):((l.map f).drop p).take (l.length-p)=(l.map f).drop p:=sG s_
@[go_sem] def aOB{α:Type}(l:List α)(p:Nat):(l.drop p).take (l.length-p)=l.drop p:=sG s_
@[go_sem] def aPm{α a:Type}(f:α->a)(l:List α):(l.map f).take l.length=l.map f:=sG s_
def aT{a b:Nat}(h:a<b):decide ((a:Int)<(b:Int))=true:=w_
def aS{a b:Nat}(h:¬a<b):decide ((a:Int)<(b:Int))=false:=w_
def aO{α a:Type}(f:α->a)(l:List α)(i:Nat)(h:i<l.length):(l.map f)[i]?=some (f l[i]):=by simp[h]
mutual
def aJN{L:V_}:∀{x:AV},gF x=[]->Bd L x=x|.own _,h=>by simp[gF]at h|.ptr _ _,h=>by simp[gF]at h|.elt _ _ _ _,h=>by simp[gF]at h|.vw _ _ _ _,h=>by simp[gF]at h|.mp _,h=>by simp[gF]at h|.yl _,h=>by simp[gF]at h|.ag a,h=>by simp only[gF]at h;simp only[Bd];rw[yM h]|.cl f a,h=>by simp only[gF]at h;simp only[Bd];rw[yM h]|.bm f b a,h=>by simp only[gF]at h;simp only[Bd];rw[yM h]|.tup a,h=>by simp only[gF]at h;simp only[Bd];rw[yM h]|.v _,_=>rfl|.ls _ _,_=>rfl|.rp _,_=>rfl|.any,_=>rfl
def yM{L:V_}:∀{x:O_},iZ x=[]->xF L x=x|[],_=>rfl|c::a,h=>by simp only[iZ,X8]at h;simp only[xF];rw[aJN h.1,yM h.2]
end
mutual
def Yo{L:V_}{n:Nat}:∀{x:AV},gF x=[]->AR L n x=x|.own _,h=>by simp[gF]at h|.ptr _ _,h=>by simp[gF]at h|.elt _ _ _ _,h=>by simp[gF]at h|.vw _ _ _ _,h=>by simp[gF]at h|.mp _,h=>by simp[gF]at h|.yl _,h=>by simp[gF]at h|.ag a,h=>by simp only[gF]at h;simp only[AR];rw[HJ h]|.cl f a,h=>by simp only[gF]at h;simp only[AR];rw[HJ h]|.bm f b a,h=>by simp only[gF]at h;simp only[AR];rw[HJ h]|.tup a,h=>by simp only[gF]at h;simp only[AR];rw[HJ h]|.v _,_=>rfl|.ls _ _,_=>rfl|.rp _,_=>rfl|.any,_=>rfl
def HJ{L:V_}{n:Nat}:∀{x:O_},iZ x=[]->EJ L n x=x|[],_=>rfl|c::a,h=>by simp only[iZ,X8]at h;simp only[EJ];rw[Yo h.1,HJ h.2]
end
mutual
def aAd:∀x:AV,tV x x|.ag a=>by simp only[tV];exact .inl trivial|.v _=>by simp only[tV];exact .inl trivial|.own _=>by simp only[tV]|.ptr _ _=>by simp only[tV]|.elt _ _ _ _=>by simp only[tV]|.vw _ _ _ _=>by simp only[tV]|.mp _=>by simp only[tV]|.yl _=>by simp only[tV]|.cl _ _=>by simp only[tV]|.bm _ _ _=>by simp only[tV]|.tup _=>by simp only[tV]|.ls _ _=>by simp only[tV]|.rp _=>by simp only[tV]|.any=>by simp only[tV]
def aB:∀x:O_,EK x x|[]=>by simp only[EK]|c::a=>by simp only[EK];exact⟨c,a,rfl,aAd c,aB a⟩
end
def aE3{T:aK}:∀R:aK,Ee T R []=[]|[]=>rfl|_::R=>by simp only[Ee,aC3,IC];exact aE3 R
section
variable{P:Program}{G:L_}{f:FuncId}{args args':O_}{T:aK}{K:AV->aK->Prop}
def Jn(b:EK args args')(e:iZ args'=[]){post:AV->aK->Prop}(g:aA P G f args' [] post)(d:∀r a,post r a->K (AR [] T.length r) (T++a.map (DC [] T.length))):@pB P G f args T ⟨K⟩:=by
 refine⟨args',b,.inl ⟨[],s_,s_,?_⟩⟩;show aA P G f (xF [] args') (GX [] T) _;rw[yM e];refine g.mono λr a c=>?_;have:IF [] T.length T [] a=T++a.map (DC [] T.length):=by cases a<;>simp[IF]
 rw[this];exact d r a c
def aU{R:AV}(b:EK args args')(d:iZ args'=[])(e:aA P G f args' [] λr a=>r=R/\a=[])(g:gF R=[])(c:K R T):@pB P G f args T ⟨K⟩ :=
 Jn b d e λr a ⟨h1,h2⟩=>by subst h1;subst h2;rw[Yo g];simpa using c
def aCF{R:AV}{T2:aK}(b:EK args args')(d:iZ args'=[])(e:aA P G f args' [] λr a=>r=R/\a=T2)(c:K (AR [] T.length R) (T++T2.map (DC [] T.length))):@pB P G f args T ⟨K⟩ :=
 Jn b d e λr a ⟨h1,h2⟩=>by subst h1;subst h2;exact c
def cH{args2:O_}(c:EK args args')(b:xG T args'=args2)(e:iZ args2=[]){post:AV->aK->Prop}(g:aA P G f args2 [] post)
 (d:∀r a,post r a->fX r/\(∀o∈a,xH o)/\K (AR [] T.length r) (T++a.map (DC [] T.length))):@pB P G f args T ⟨K⟩ :=
 ⟨args',c,.inr (.inl ⟨by rw[b];exact e,by rw[b];exact g.mono d⟩)⟩
def iJ{args2:O_}{x:Value}(b:EK args args')(c:xG T args'=args2)(e:iZ args2=[])(g:aA P G f args2 [] λr a=>r=.v x/\a=[])(d:K (.v x) T):@pB P G f args T ⟨K⟩ :=
 cH b c e g λr a ⟨h1,h2⟩=>by subst h1;subst h2;exact⟨by simp[fX],s_,by simpa[AR]using d⟩
def F4{post:AV->aK->Prop}(b:EK args args')(d:aA P G f args' T post)(c:∀r a,post r a->K r a):@pB P G f args T ⟨K⟩ :=
 ⟨args',b,.inr (.inr (d.mono c))⟩
def cX{R:AV}(c:aA P G f args [] λr e=>r=R/\e=[])(a:K R T)(b:iZ args=[]:=by exact rfl)(d:gF R=[]:=by exact rfl):@pB P G f args T ⟨K⟩:=aU (aB _) b c d a
def Jo{post:AV->aK->Prop}(d:aA P G f args [] post)(b:∀r a,post r a->K (AR [] T.length r) (T++a.map (DC [] T.length)))(c:iZ args=[]:=by exact rfl):@pB P G f args T ⟨K⟩:=Jn (aB _) c d b
def kM{R:AV}{T2:aK}(c:aA P G f args [] λr d=>r=R/\d=T2)(a:K (AR [] T.length R) (T++T2.map (DC [] T.length)))(b:iZ args=[]:=by exact rfl):@pB P G f args T ⟨K⟩:=aCF (aB _) b c a
def jA{post:AV->aK->Prop}(c:aA P G f args T post)(b:∀r a,post r a->K r a):@pB P G f args T ⟨K⟩:=F4 (aB _) c b
def cI{R:AV}(c:aA P G f args T λr a=>r=R/\a=T)(b:K R T):@pB P G f args T ⟨K⟩:=F4 (aB _) c λr a ⟨h1,h2⟩=>by subst h1;rw[h2];exact b
def aG(L:V_){args2:O_}{T2:aK}{post:AV->aK->Prop}(b:EK args args')(c:L.Nodup)(j:∀i∈L,i<T.length)(g:xF L args'=args2)(h:GX L T=T2)(e:aA P G f args2 T2 post)
 (d:∀r a,post r a->K (AR L T.length r) (IF L T.length T L a)):@pB P G f args T ⟨K⟩ :=
 ⟨args',b,.inl ⟨L,c,j,by subst g;subst h;exact e.mono d⟩⟩
def Ic(L:V_){args2:O_}{T2:aK}(a:EK args args')(b:L.Nodup)(g:∀i∈L,i<T.length)(d:xF L args'=args2)(e:GX L T=T2)(c:aA P G f args2 T2 λr h=>K (AR L T.length r) (IF L T.length T L h)):@pB P G f args T ⟨K⟩ :=
 ⟨args',a,.inl ⟨L,b,g,by subst d;subst e;exact c⟩⟩
end
def dO{P:Program}{G:L_}{f:FuncId}{args:O_}{T:aK}{K:KT}(h:@pB P G f args T K):@pB P G f args T K:=h
def Eu{α:Type}{f:α->AV}{l:List α}(h:∀x,gF (f x)=[]):iZ (l.map f)=[]:=by
 induction l with
 |nil=>rfl|cons x l ih=>simp[iZ,h,ih]
@[go_sem] def Ig(a b:O_):iZ (a++b)=iZ a++iZ b:=by
 induction a with
 |nil=>rfl|cons c a ih=>simp[iZ,ih]
@[go_sem] def Qj{α:Type}(f:α->Value)(l:List α):iZ (l.map λx=>.v (f x))=[]:=Eu λ_=>rfl
@[go_sem] def aMh(L:V_)(a b:O_):xF L (a++b)=xF L a++xF L b:=by
 induction a with
 |nil=>rfl|cons c a ih=>simp[xF,ih]
@[go_sem] def aJO{α:Type}(L:V_)(f:α->Value)(l:List α):xF L (l.map λx=>.v (f x))=l.map λx=>.v (f x):=yM (Eu λ_=>rfl)
@[go_sem] def aMi(L:V_)(n:Nat)(a b:O_):EJ L n (a++b)=EJ L n a++EJ L n b:=by
 induction a with
 |nil=>rfl|cons c a ih=>simp[EJ,ih]
@[go_sem] def aJP{α:Type}(L:V_)(n:Nat)(f:α->Value)(l:List α):EJ L n (l.map λx=>.v (f x))=l.map λx=>.v (f x):=HJ (Eu λ_=>rfl)
@[go_sem] def aQ2{α:Type}(f:α->Value)(l:List α):tC (l.map λx=>.v (f x))=True:=by
 induction l with
 |nil=>rfl|cons c a ih=>simp[tC,fX,ih]
@[go_sem] def aJQ(n:Nat)(I:V_)(q:AV->aK->Prop)(r:AV)(T':aK):Prop :=
 q (bA (DB [] (Ef ⟨n,[(0,r)],T'⟩ I)).s 0) (DB [] (Ef ⟨n,[(0,r)],T'⟩ I)).T
section
variable{P:Program}{G:L_}{f:FuncId}{args:O_}{T:aK}{p q:AV->aK->Prop}
def CS.fin(P:Program){h:GH}{φ:Nat->Value}{w:World}{v:Value}{w':World}(s:tU G h)(I:V_)(k:∀r b,p r b->aJQ T.length I q r b)(a:CS h φ T w p v w'):CS h φ T w q v w':=by
 obtain⟨r,b,t,d,D,j,C,B⟩:=a;have n:SInv P G 0 h φ T w ⟨T.length,[(0,r)],b⟩ ⟨#[v],[]⟩ w':=by refine⟨rfl,?_,⟨t,d,s.mono j.le,j,C,λi=>?_⟩,s_,gu⟩;intro i x y g f;simp only[cA,Prod.mk.injEq]at g f;rw[g.2,f.2];simp only[bA];split;rename_i m;subst m;exact B;simp[Rp]
 have o:∀(l:V_)(st:St),SInv P G 0 h φ T w st ⟨#[v],[]⟩ w'->SInv P G 0 h φ T w (Ef st l) ⟨#[v],[]⟩ w':=by
  intro l
  induction l with
  |nil=>intro st h;exact h|cons i r ih=>intro st h;exact ih _ (h.shutI i)
 have e:=Ep [] (o I _ n);obtain⟨_,_,⟨h2,c,E,A,z,u⟩,_,_⟩:=e;exact⟨_,_,h2,c,k r b D,A,z,u 0⟩
def aA.fin(l:aA P G f args T p)(I:V_)(i:∀r j,p r j->aJQ T.length I q r j):aA P G f args T q:=by
 intro h k w c d hI m;rcases l h k w c d hI m with⟨a,b⟩|⟨v,g,a,b⟩
 exact .inl ⟨a,b.mono λe g ⟨v,o,n⟩=>⟨v,o,n.fin P d I i⟩⟩;exact .inr ⟨v,g,a,b.fin P d I i⟩
end
structure Id where
 a:Int
 b:Int
 c:Int
 deriving DecidableEq,Inhabited
abbrev D_:=List Id
def Id.A(x:Id):O_:=[iv x.a,iv x.b,.v (.int .u64 x.c)]
def Id.A_def(x:Id):x.A=[iv x.a,iv x.b,.v (.int .u64 x.c)]:=fI rfl rfl
def Id.lt(x y:Id):Bool:=if x.a=y.a then(if x.b=y.b then decide (x.c<y.c) else decide (x.b<y.b)) else decide (x.a<y.a)
@[go_sem] def Id.beq(x y:Id):(x.a==y.a&&(x.b==y.b&&x.c==y.c))=decide (x=y):=by obtain⟨i,h,g⟩:=x;obtain⟨f,e,d⟩:=y;grind
def Id.lt_irrefl(x:Id):x.lt x=false:=by simp[Id.lt]
def Id.lt_trans{x y z:Id}(h1:x.lt y=true)(h2:y.lt z=true):x.lt z=true:=by grind[Id.lt]
def Id.lt_total{x y:Id}(h1:x.lt y=false)(h2:y.lt x=false):x=y:=by obtain⟨f,e,d⟩:=x;obtain⟨c,b,a⟩:=y;grind[Id.lt]
def Id.lt_asymm{x y:Id}(h:x.lt y=true):y.lt x=false:=by
 cases e:y.lt x with
 |false=>rfl|true=>have:=Id.lt_trans h e;rw[Id.lt_irrefl]at this;simp at this
def Id.nlt_trans{x y z:Id}(h1:x.lt y=false)(h2:y.lt z=false):x.lt z=false:=by
 cases e:x.lt z with
 |false=>rfl|true=>
  cases a:y.lt x with
  |true=>have:=Id.lt_trans a e;rw[h2]at this;simp at this|false=>have:=Id.lt_total h1 a;subst this;rw[h2]at e;simp at e
abbrev ids(l:List Id):AV:=.ls 3 (l.map Id.A)
abbrev ul(l:List Nat):List (List AV):=l.map λn=>[.v (.int .u64 ((n:Nat):Int))]
def xN(b:V_):Prop:=∀x∈b,x<256
abbrev U8(x:Nat):List AV:=[.v (.int .u8 (x:Int))]
abbrev bl(b:List Nat):List (List AV):=b.map U8
def Ih{b:V_}(h:xN b)(k:Nat):xN (b.drop k):=λx a=>h x (QG a)
def uU{b:V_}(h:xN b)(k:Nat):xN (b.take k):=λx a=>h x (C8 a)
def kN{a b:V_}(h:xN a)(k:xN b):xN (a++b):=λx c=>(cG.1 c).elim (h x) (k x)
structure BoxM where
 To:Nat
 Eph:Nat
 Body:Nat
 Tag:Nat
 deriving DecidableEq,Inhabited
structure NodeM where
 Pub:Nat
 Boxes:List BoxM
 deriving DecidableEq,Inhabited
structure SealM where
 Of:Id
 Body:List Nat
 deriving DecidableEq,Inhabited
structure OpM where
 By:Int
 Seq:Int
 Kind:Int
 At:Int
 Past:List Id
 Device:Int
 Old:Int
 Member:Int
 Role:Int
 Path:List NodeM
 Epoch:Id
 N:Int
 Body:List Nat
 Refs:List Nat
 Of:Id
 Guards:List Int
 Need:Int
 Wait:Int
 Boxes:List BoxM
 Pub:Nat
 Hist:List SealM
 SR:Nat
 SS:Nat
 deriving DecidableEq,Inhabited
def BoxM.A(b:BoxM):O_:=[uv b.To,uv b.Eph,uv b.Body,uv b.Tag]
abbrev F5(l:List BoxM):AV:=.ls 4 (l.map BoxM.A)
def NodeM.A(n:NodeM):O_:=[uv n.Pub,F5 n.Boxes]
def SealM.A(x:SealM):O_:=[iv x.Of.a,iv x.Of.b,.v (.int .u64 x.Of.c),.ls 1 (bl x.Body)]
abbrev rG(l:List Int):AV:=.ls 1 (l.map λn=>[iv n])
def OpM.A(o:OpM):O_:=[iv o.By,iv o.Seq,iv o.Kind,iv o.At,ids o.Past,iv o.Device,iv o.Old,iv o.Member,iv o.Role,.ls 2 (o.Path.map NodeM.A),
 iv o.Epoch.a,iv o.Epoch.b,.v (.int .u64 o.Epoch.c),iv o.N,.ls 1 (bl o.Body),.ls 1 (ul o.Refs),iv o.Of.a,iv o.Of.b,.v (.int .u64 o.Of.c),rG o.Guards,
 iv o.Need,iv o.Wait,F5 o.Boxes,uv o.Pub,.ls 4 (o.Hist.map SealM.A),uv o.SR,uv o.SS]
def OpM.A_def(o:OpM):o.A=[iv o.By,iv o.Seq,iv o.Kind,iv o.At,ids o.Past,iv o.Device,iv o.Old,iv o.Member,iv o.Role,.ls 2 (o.Path.map NodeM.A),
 iv o.Epoch.a,iv o.Epoch.b,.v (.int .u64 o.Epoch.c),iv o.N,.ls 1 (bl o.Body),.ls 1 (ul o.Refs),iv o.Of.a,iv o.Of.b,.v (.int .u64 o.Of.c),rG o.Guards,
 iv o.Need,iv o.Wait,F5 o.Boxes,uv o.Pub,.ls 4 (o.Hist.map SealM.A),uv o.SR,uv o.SS]:=fI rfl rfl
def oI(n lo a:Int):Bool:=decide (lo<=n)&&decide (n<=a)
def HK(n:Nat):Bool:=decide ((1:Int)<=(n:Int))&&decide ((n:Int)<2305843009213693951)
def okM(n:Int):Bool:=decide (n<2305843009213693951)
def jP(x:Id):Bool:=oI x.a 1 12&&(oI x.b 1 2147483647&&okM x.c)
def wA(b:BoxM):Bool:=HK b.To&&(HK b.Eph&&(okM (b.Body:Int)&&okM (b.Tag:Int)))
def mZ(n:Int):Prop:=-9223372036854775808<=n/\n<=(2^63-1)
def BoxM.ok(b:BoxM):Prop:=b.To<2^64/\b.Eph<2^64/\b.Body<2^64/\b.Tag<2^64
def jQ(o:OpM):List (Int×Bool):=[(1,o.Device !=0),(2,o.Old !=0),(4,o.Member !=0),(8,o.Role !=0),(16,decide ((o.Path.length:Int)>0)),(32,!(o.Epoch.a==0&&(o.Epoch.b==0&&o.Epoch.c==0))),(64,o.N !=0),(128,decide ((o.Body.length:Int)>0)),(256,decide ((o.Refs.length:Int)>0)),(512,!(o.Of.a==0&&(o.Of.b==0&&o.Of.c==0))),
 (1024,decide ((o.Guards.length:Int)>0)),(2048,o.Need !=0),(4096,o.Wait !=0),(8192,decide ((o.Boxes.length:Int)>0)),(16384,((o.Pub:Int)!=0)),(32768,decide ((o.Hist.length:Int)>0))]
def Id.ok(x:Id):Prop:=mZ x.a/\mZ x.b/\0<=x.c/\x.c<2^64
def NodeM.ok(n:NodeM):Prop:=n.Pub<2^64/\n.Boxes.length<=100/\∀b∈n.Boxes,b.ok
def SealM.ok(x:SealM):Prop:=x.Of.ok/\x.Body.length<=1000/\xN x.Body
structure OpM.ok(o:OpM):Prop where
 ints:∀n∈[o.By,o.Seq,o.Kind,o.At,o.Device,o.Old,o.Member,o.Role,o.N,o.Need,o.Wait],mZ n
 nums:∀n∈[o.Pub,o.SR,o.SS],n<2^64
 epoch:o.Epoch.ok
 of:o.Of.ok
 past:o.Past.length<=1000/\∀x∈o.Past,x.ok
 path:o.Path.length<=10/\∀x∈o.Path,x.ok
 body:o.Body.length<=1000/\xN o.Body
 refs:o.Refs.length<=1000/\∀x∈o.Refs,x<2^64
 guards:o.Guards.length<=1000/\∀x∈o.Guards,mZ x
 boxes:o.Boxes.length<=1000/\∀x∈o.Boxes,x.ok
 hist:o.Hist.length<=100/\∀x∈o.Hist,x.ok
def OpM.g0(o:OpM):o.A[0]?=some (iv o.By):=fI rfl rfl
def OpM.g1(o:OpM):o.A[1]?=some (iv o.Seq):=fI rfl rfl
def OpM.g2(o:OpM):o.A[2]?=some (iv o.Kind):=fI rfl rfl
def OpM.g3(o:OpM):o.A[3]?=some (iv o.At):=fI rfl rfl
def OpM.g4(o:OpM):o.A[4]?=some (ids o.Past):=fI rfl rfl
def OpM.g5(o:OpM):o.A[5]?=some (iv o.Device):=fI rfl rfl
def OpM.g6(o:OpM):o.A[6]?=some (iv o.Old):=fI rfl rfl
def OpM.g7(o:OpM):o.A[7]?=some (iv o.Member):=fI rfl rfl
def OpM.g8(o:OpM):o.A[8]?=some (iv o.Role):=fI rfl rfl
def OpM.g9(o:OpM):o.A[9]?=some (.ls 2 (o.Path.map NodeM.A)):=fI rfl rfl
def OpM.g13(o:OpM):o.A[13]?=some (iv o.N):=fI rfl rfl
def OpM.g14(o:OpM):o.A[14]?=some (.ls 1 (bl o.Body)):=fI rfl rfl
def OpM.g15(o:OpM):o.A[15]?=some (.ls 1 (ul o.Refs)):=fI rfl rfl
def OpM.g19(o:OpM):o.A[19]?=some (rG o.Guards):=fI rfl rfl
def OpM.g20(o:OpM):o.A[20]?=some (iv o.Need):=fI rfl rfl
def OpM.g21(o:OpM):o.A[21]?=some (iv o.Wait):=fI rfl rfl
def OpM.g22(o:OpM):o.A[22]?=some (F5 o.Boxes):=fI rfl rfl
def OpM.g23(o:OpM):o.A[23]?=some (uv o.Pub):=fI rfl rfl
def OpM.g24(o:OpM):o.A[24]?=some (.ls 4 (o.Hist.map SealM.A)):=fI rfl rfl
def OpM.g25(o:OpM):o.A[25]?=some (uv o.SR):=fI rfl rfl
def OpM.g26(o:OpM):o.A[26]?=some (uv o.SS):=fI rfl rfl
def OpM.len(o:OpM):o.A.length=27:=fI rfl rfl
def OpM.dEpoch(o:OpM):(o.A.drop 10).take 3=o.Epoch.A:=fI rfl rfl
def OpM.dOf(o:OpM):(o.A.drop 16).take 3=o.Of.A:=fI rfl rfl
def OpM.dSig(o:OpM):(o.A.drop 25).take 2=[uv o.SR,uv o.SS]:=fI rfl rfl
def OpM.t27(o:OpM):o.A.take 27=o.A:=fI rfl rfl
def OpM.ids0(o:OpM):iZ o.A=[]:=fI rfl rfl
attribute [go_sem] OpM.g0 OpM.g1 OpM.g2 OpM.g3 OpM.g4 OpM.g5 OpM.g6 OpM.g7 OpM.g8 OpM.g9 OpM.g13 OpM.g14 OpM.g15 OpM.g19 OpM.g20 OpM.g21 OpM.g22 OpM.g23 OpM.g24 OpM.g25 OpM.g26 OpM.len OpM.dEpoch OpM.dOf OpM.dSig OpM.t27 OpM.ids0
def OpM.one0(o:OpM):o.A.all gS=true:=by simp[OpM.A,gS]
@[go_sem] def OpM.one(o:OpM):o.A.all gS=true:=OpM.one0 o
def OpM.closed0(o:OpM):o.A.all aX=true:=by simp[OpM.A,aX]
def OpM.closed(o:OpM):o.A.all aX=true:=OpM.closed0 o
def OpM.rn(L:V_)(o:OpM):xF L o.A=o.A:=fI rfl rfl
def OpM.bk(L:V_)(n:Nat)(o:OpM):EJ L n o.A=o.A:=fI rfl rfl
def OpM.sl(i k:Nat)(es:N_)(o:OpM):IB i k es o.A=o.A:=fI rfl rfl
def Id.ids0(x:Id):iZ x.A=[]:=fI rfl rfl
def Id.rn(L:V_)(x:Id):xF L x.A=x.A:=fI rfl rfl
def Id.bk(L:V_)(n:Nat)(x:Id):EJ L n x.A=x.A:=fI rfl rfl
def Id.sl(i k:Nat)(es:N_)(x:Id):IB i k es x.A=x.A:=fI rfl rfl
def Id.len(x:Id):x.A.length=3:=fI rfl rfl
attribute [go_sem] OpM.closed OpM.rn OpM.bk OpM.sl Id.ids0 Id.rn Id.bk Id.sl Id.len
def Id.one0(x:Id):x.A.all gS=true:=by simp[Id.A,gS]
@[go_sem] def Id.one(x:Id):x.A.all gS=true:=Id.one0 x
def Id.closed0(x:Id):x.A.all aX=true:=by simp[Id.A,aX]
@[go_sem] def Id.closed(x:Id):x.A.all aX=true:=Id.closed0 x
@[go_sem] def Id.t3(x:Id):x.A.take 3=x.A:=fI rfl rfl
@[go_sem] def Id.eqC(x y:Id):Hud.eqC [.int .i64,.int .i64,.int .u64] x.A y.A=some (decide (x=y)):=by simp_all[Hud.eqC,Id.A_def,yH,Id.beq]
@[go_sem] def Id.eq0(x:Id):Hud.eqC [.int .i64,.int .i64,.int .u64] x.A [iv 0,iv 0,.v (.int .u64 0)]=some (x.a==0&&(x.b==0&&x.c==0)):=by simp_all[Hud.eqC,Id.A_def,yH]
structure CardM where
 Device:Int
 Member:Int
 Lead:Nat
 Keep:Nat
 Sign:Nat
 deriving DecidableEq,Inhabited
def CardM.A(c:CardM):O_:=[iv c.Device,iv c.Member,uv c.Lead,uv c.Keep,uv c.Sign]
def CardM.A_def(c:CardM):c.A=[iv c.Device,iv c.Member,uv c.Lead,uv c.Keep,uv c.Sign]:=fI rfl rfl
def CardM.ok(c:CardM):Prop:=mZ c.Device/\mZ c.Member/\c.Lead<2^64/\c.Keep<2^64/\c.Sign<2^64
noncomputable abbrev PQ:=Go.Proofs.Tryz.prog
noncomputable abbrev cF:=tF PQ
theorem eVf{α:Type}(a:α){b:α}(h:a=b:=by conv=>lhs;reduce;try simp only[Int.ofNat_eq_natCast,Int.cast_ofNat_Int,Int.reduceNegSucc]):a=b:=h
namespace W
def zm(d t:Nat):HOper:=⟨some d,.mov (.tmp t),none⟩
def zo(d:Nat)(o:HOp):HOper:=⟨some d,o,none⟩
def zl(d a:Nat):HOper:=⟨some d,.ld none (.tmp a),none⟩
def zv(d k a:Nat):HOper:=⟨some d,.ld (some k) (.tmp a),none⟩
def zf(d a k:Nat):HOper:=⟨some d,.fad (.tmp a) k,none⟩
def zw(n:Int):Operand:=.const (.int .i64 n)
def zt(n:Nat):Operand:=.tmp n
def zq(a:HOper)(b:HD):HD:=.q a b
def zA(a:HOper)(c:List HOper)(b d:HD):HD:=.alt a c b d
def zS:Value:=.slice none 0 0
def z0:Value:=.int .i64 0
def zU:Value:=.int .u64 0
def zI:C_:=[z0,z0,zU]
abbrev TE(α:Type):=HOper->α->α
abbrev TH(α:Type):=List HOper->HOper->α->α
abbrev TG(_:Type):=Option (Nat×Bool)
abbrev TK(α:Type):=Operand->Nat->α
abbrev EE(α:Type):=TE α->TH α->TG α->TK α->Nat->α
section
variable{α:Type}
def cc(c:Operand)(_:TE α)(_:TH α)(_:TG α)(a:TK α)(b:Nat):α:=a c b
def u0(c:HOp)(em:TE α)(_:TH α)(d:TG α)(b:TK α)(a:Nat):α:=em ⟨some a,c,d⟩ (b (.tmp a) (a+1))
def h0(c:HOp)(_:TE α)(d:TH α)(e:TG α)(b:TK α)(a:Nat):α:=d [] ⟨some a,c,e⟩ (b (.tmp a) (a+1))
def u1(c:Operand->HOp)(x:EE α)(em:TE α)(e:TH α)(a:TG α)(b:TK α)(f:Nat):α:=x em e a (λo d=>em ⟨some d,c o,a⟩ (b (.tmp d) (d+1))) f
def u2(c:Operand->Operand->HOp)(x y:EE α)(em:TE α)(b:TH α)(a:TG α)(e:TK α)(f:Nat):α:=x em b a (λo d=>y em b a (λp d=>em ⟨some d,c o p,a⟩ (e (.tmp d) (d+1))) d) f
def h1(c:Operand->HOp)(x:EE α)(em:TE α)(a:TH α)(b:TG α)(e:TK α)(f:Nat):α:=x em a b (λo d=>a [] ⟨some d,c o,b⟩ (e (.tmp d) (d+1))) f
def h2(c:Operand->Operand->HOp)(x y:EE α)(em:TE α)(a:TH α)(b:TG α)(e:TK α)(f:Nat):α:=x em a b (λo d=>y em a b (λp d=>a [] ⟨some d,c o p,b⟩ (e (.tmp d) (d+1))) d) f
def h3(c:Operand->Operand->Operand->HOp)(x y z:EE α)(em:TE α)(a:TH α)(b:TG α)(e:TK α)(f:Nat):α:=x em a b (λo d=>y em a b (λp d=>z em a b (λq d=>a [] ⟨some d,c o p q,b⟩ (e (.tmp d) (d+1))) d) d) f
def s(n:Nat)(x y:EE α)(em:TE α)(a:TH α)(b:TG α)(c:TK α)(e:Nat):α:=x em a b (λo d=>y em a b (λp d=>a [] ⟨none,.st n o p,b⟩ (c o d)) d) e
def A(j:Nat)(x:EE α)(em:TE α)(c:TH α)(a:TG α)(b:TK α)(e:Nat):α:=x em c a (λo d=>em ⟨some j,.mov o,a⟩ (b o d)) e
def Y(c:HOp)(em:TE α)(_:TH α)(b:TG α)(a:TK α)(d:Nat):α:=em ⟨none,c,b⟩ (a (.tmp 0) d)
def Yh(c:HOp)(_:TE α)(b:TH α)(d:TG α)(a:TK α)(e:Nat):α:=b [] ⟨none,c,d⟩ (a (.tmp 0) e)
def G(j:Nat)(b:Bool)(x:EE α)(em:TE α)(c:TH α)(_:TG α)(a:TK α)(d:Nat):α:=x em c (some (j,b)) a d
def J(n:Nat)(x:EE α)(em:TE α)(b:TH α)(c:TG α)(a:TK α)(_:Nat):α:=x em b c a n
def K(c:List HOper)(x:EE α)(em:TE α)(b:TH α)(d:TG α)(a:TK α)(e:Nat):α:=x em (λ_=>b c) d a e
def N(x y:EE α)(em:TE α)(b:TH α)(a:TG α)(c:TK α)(f:Nat):α:=x em b a (λo d=>em ⟨some d,.mov o,a⟩ (y em b (some (d,true)) (λp e=>em ⟨some e,.pick (.tmp d) p (.const (.bool false)),a⟩ (c (.tmp e) (e+1))) (d+1))) f
def O(x y:EE α)(em:TE α)(b:TH α)(a:TG α)(c:TK α)(f:Nat):α:=x em b a (λo d=>em ⟨some d,.mov o,a⟩ (y em b (some (d,false)) (λp e=>em ⟨some e,.pick (.tmp d) (.const (.bool true)) p,a⟩ (c (.tmp e) (e+1))) (d+1))) f
end
section
variable{α:Type}
def t(n:Nat):EE α:=cc (.tmp n) 
def v(n:Nat):EE α:=u0 (.mov (.tmp n)) 
def w(n:Int):EE α:=cc (.const (.int .i64 n)) 
def u(n:Int):EE α:=cc (.const (.int .u64 n)) 
def T:EE α:=cc (.const (.bool true)) 
def z:EE α:=cc (.const (.slice none 0 0)) 
def kc(c:Operand):EE α:=cc c 
def x(c:HOp):EE α:=u0 c 
def xh(c:HOp):EE α:=h0 c 
def M(a:EE α):EE α:=u1 .mov a
def l(a:EE α):EE α:=u1 (.ld none) a
def L(k:Nat)(a:EE α):EE α:=u1 (.ld (some k)) a
def f(k:Nat)(b:EE α):EE α:=u1 (λa=>.fad a k) b
def i(k:Nat)(d c:EE α):EE α:=u2 (λa b=>.iad a b k) d c
def n(a:EE α):EE α:=u1 .lenL a
def e(k:Nat)(b:EE α):EE α:=u1 (λa=>.ext a k) b
def B(o:BinOp)(b a:EE α):EE α:=u2 (.bin o) b a
def o(a:EE α):EE α:=u1 (.un .not) a
def b(a:EE α):EE α:=u1 .box a
def y(a:EE α):EE α:=u1 .nilc a
def cw(k:IntKind)(a:EE α):EE α:=u1 (.conv k) a
def ea(g:Bool)(k:List LK)(b a:EE α):EE α:=u2 (.eqa g k) b a
def mm(g:Bool)(b a:EE α):EE α:=u2 (.mm g) b a
def a(k m:Nat)(d c:EE α):EE α:=h2 (λa b=>.app a b k m) d c
def al(c:C_):EE α:=h0 (.alloc c) 
def ba(k:Nat)(c:C_)(b:EE α):EE α:=h1 (λa=>.bsl k c [(0,(k,a))] 1) b
def c1(i:Nat)(b:EE α):EE α:=h1 (λa=>.call (.func i) [a]) b
def c2(i:Nat)(d c:EE α):EE α:=h2 (λa b=>.call (.func i) [a,b]) d c
def c3(i:Nat)(f e d:EE α):EE α:=h3 (λa b c=>.call (.func i) [a,b,c]) f e d
def q2(z:C_)(d c:EE α):EE α:=u2 (λa b=>.bld z [(0,(1,a)),(1,(1,b))]) d c
def ad(b a:EE α):EE α:=B .add b a
def ls(b a:EE α):EE α:=B .lss b a
def gt(b a:EE α):EE α:=B .gtr b a
def ge(b a:EE α):EE α:=B .geq b a
def eq(b a:EE α):EE α:=B .eql b a
def ne(b a:EE α):EE α:=B .neq b a
def t1:EE α:=t 1
def t2:EE α:=t 2
def t4:EE α:=t 4
def t8:EE α:=t 8
def t9:EE α:=t 9
def v0:EE α:=v 0
def v2:EE α:=v 2
def v5:EE α:=v 5
def v6:EE α:=v 6
def v8:EE α:=v 8
def v9:EE α:=v 9
def v10:EE α:=v 10
def v11:EE α:=v 11
def v12:EE α:=v 12
def v13:EE α:=v 13
def v14:EE α:=v 14
def v15:EE α:=v 15
def v16:EE α:=v 16
def v29:EE α:=v 29
def w0:EE α:=w 0
def w1:EE α:=w 1
def w2:EE α:=w 2
def w3:EE α:=w 3
end
def lis{α:Type}(em:HOper->α->α)(a:List HOper->HOper->α->α)(z:α):List (EE α)->Nat->α|[],_=>z|x::l,d=>x em a none (λ_ d=>lis em a z l d) d
def ds(d:Nat):Nat->V_|0=>[]|n+1=>(d+n)::ds d n
def kl:V_->Nat->Nat->V_|x::l,d,n=>x::kl l d n|[],d,n=>ds d n
def ap:V_->Nat->V_|x::l,d=>x::ap l d|[],d=>[d]
def S:List HC->HC|[]=>.skip|a::[]=>a|a::b::l=>.seq a (S (b::l))
def E(d:Nat)(l:List (EE (List HOper))):HC:=.reg (lis (λo a=>o::a) (λ_ o a=>o::a) [] l d)
def E0(l:List (EE (List HOper))):HC:=E 0 l
def i0(j:Nat):HC:=.reg [⟨some j,.mov (.const (.int .i64 0)),none⟩]
def iz(j:Nat):HC:=.reg [⟨some j,.mov (.const (.slice none 0 0)),none⟩]
def R(d n:Nat)(xs:V_)(l:List (EE (List HOper))):HC:=.seq (E d l) (.kill (kl xs d n))
def R0(d n:Nat)(l:List (EE (List HOper))):HC:=R d n [] l
def P(d:Nat)(l:List (EE HD))(g:Bool):HC:=.regd (lis .q (λc o a=>.alt o c a .no) (.done g) l d)
def D(d n:Nat)(xs:V_)(l:List (EE HD)):HC:=.seq (P d l false) (.kill (kl xs d n))
def Z(xs:V_)(c:HC):HC:=.seq (.kill xs) c
def Ie(n:Nat)(xs:V_)(a:HC)(c:V_)(b:HC):HC:=.cond (.tmp n) (.seq (.kill (ap xs n)) a) (.seq (.kill (ap c n)) b)
def Iz(n:Nat)(xs:V_)(a:HC)(b:V_):HC:=Ie n xs a b .skip
def If(n:Nat)(xs:V_)(a:HC):HC:=Ie n xs a [] .skip
def bw(n:Nat)(a:HC):HC:=.block n a
def lo(n:Nat)(a:HC):HC:=.block n (.loop [] a)
def ex(n:Nat):HC:=.exit n
def ow(j k:Nat):HC:=.own j none k
def ra(i j:Nat)(m:EE (List HOper))(n:Nat)(xs:V_)(e:Nat)(b:HC):HC :=
 lo i (.seq (E n [ls (t j) m]) (.seq (Ie n [] .skip xs (.exit i)) (.seq (.block (i+1) b) (R e 1 [] [A j (ad (t j) w1)]))))
end W
attribute [go_sem] W.A W.B W.D W.E W.E0 W.G W.Ie W.If W.Iz W.J W.K W.L W.M W.N W.O W.P W.R W.R0 W.S W.T W.Y W.Yh W.Z W.a W.ad W.al W.ap W.b W.ba W.bw W.c1 W.c2 W.c3 W.cc W.cw W.ds W.e W.ea W.eq W.ex W.f W.ge W.gt W.h0 W.h1 W.h2 W.h3 W.i W.i0 W.iz W.kc W.kl W.l W.lis W.lo W.ls W.mm W.n W.ne W.o W.ow W.q2 W.ra W.s W.t W.t1 W.t2 W.t4 W.t8 W.t9 W.u W.u0 W.u1 W.u2 W.v W.v0 W.v10 W.v11 W.v12 W.v13 W.v14 W.v15 W.v16 W.v2 W.v29 W.v5 W.v6 W.v8 W.v9 W.w W.w0 W.w1 W.w2 W.w3 W.x W.xh W.y W.z W.z0 W.zA W.zI W.zS W.zU W.zf W.zl W.zm W.zo W.zq W.zt W.zv W.zw
abbrev Ii:Nat:=0
abbrev NY:Nat:=1
abbrev aID:Nat:=7
abbrev aJa:Nat:=10
abbrev Ew:Nat:=11
abbrev aEV:Nat:=12
abbrev zR:Nat:=13
abbrev aF0:Nat:=14
abbrev uV:Nat:=15
abbrev aE5:Nat:=17
abbrev aFc:Nat:=18
abbrev aJG:Nat:=19
abbrev aCZ:Nat:=20
abbrev aIz:Nat:=21
abbrev Bi:Nat:=22
abbrev oK:Nat:=23
abbrev uW:Nat:=24
abbrev eZ:Nat:=26
abbrev bY:Nat:=28
abbrev wB:Nat:=29
abbrev HL:Nat:=32
abbrev Am:Nat:=35
abbrev oJ:Nat:=36
abbrev sH:Nat:=39
abbrev aJb:Nat:=45
abbrev Ci:Nat:=47
abbrev xP:Nat:=48
abbrev zT:Nat:=49
abbrev mA:Nat:=50
abbrev jK:Nat:=51
abbrev Al:Nat:=52
abbrev AU:Nat:=53
abbrev qR:Nat:=54
abbrev aHf:Nat:=55
abbrev aJ7:Nat:=56
abbrev oQ:Nat:=57
abbrev aAO:Nat:=58
abbrev aJc:Nat:=59
abbrev aH3:Nat:=60
abbrev F8:Nat:=61
abbrev DP:Nat:=62
abbrev cT:Nat:=63
abbrev kK:Nat:=64
abbrev tG:Nat:=65
abbrev HR:Nat:=66
abbrev pO:Nat:=67
abbrev Ik:Nat:=68
abbrev E1:Nat:=69
abbrev nB:Nat:=70
abbrev yN:Nat:=71
abbrev nM:Nat:=72
abbrev pE:Nat:=73
abbrev lL:Nat:=74
abbrev F6:Nat:=75
abbrev oO:Nat:=76
abbrev nJ:Nat:=77
abbrev bD:Nat:=78
abbrev DM:Nat:=79
abbrev aFd:Nat:=80
abbrev bJ:Nat:=81
abbrev tX:Nat:=82
abbrev pD:Nat:=83
abbrev tM:Nat:=84
abbrev kJ:Nat:=85
abbrev pN:Nat:=86
abbrev bR:Nat:=89
abbrev iL:Nat:=90
abbrev mK:Nat:=91
abbrev nK:Nat:=92
abbrev eU:Nat:=93
abbrev lM:Nat:=94
abbrev qE:Nat:=95
abbrev nL:Nat:=96
abbrev sI:Nat:=101
abbrev lU:Nat:=102
abbrev aC1:Nat:=109
abbrev aEQ:Nat:=110
abbrev qV:Nat:=111
abbrev aBD:Nat:=112
abbrev AW:Nat:=113
abbrev rP:Nat:=114
abbrev Bk:Nat:=115
abbrev DN:Nat:=116
abbrev Ij:Nat:=117
abbrev HN:Nat:=118
abbrev xQ:Nat:=119
abbrev HO:Nat:=120
abbrev DO:Nat:=121
abbrev zV:Nat:=122
abbrev zW:Nat:=123
abbrev rO:Nat:=124
abbrev An:Nat:=125
abbrev aCE:Nat:=126
abbrev pF:Nat:=128
abbrev DW:Nat:=130
abbrev wC:Nat:=131
abbrev E7:Nat:=132
abbrev Jq:Nat:=133
abbrev bF:Nat:=134
abbrev fO:Nat:=135
abbrev fU:Nat:=136
abbrev dC:Nat:=137
abbrev gZ:Nat:=138
abbrev fJ:Nat:=139
abbrev zZ:Nat:=140
abbrev F9:Nat:=141
abbrev rQ:Nat:=142
abbrev DX:Nat:=143
abbrev bE:Nat:=144
abbrev dX:Nat:=145
abbrev zX:Nat:=146
abbrev jW:Nat:=147
abbrev nC:Nat:=148
abbrev mJ:Nat:=149
abbrev Bh:Nat:=150
abbrev uX:Nat:=151
abbrev mL:Nat:=152
abbrev CG:Nat:=153
abbrev mM:Nat:=154
abbrev uY:Nat:=155
abbrev fR:Nat:=156
abbrev qF:Nat:=157
abbrev bB:Nat:=158
abbrev Bj:Nat:=159
abbrev gB:Nat:=160
abbrev F7:Nat:=166
abbrev iN:Nat:=170
abbrev qU:Nat:=173
abbrev kO:Nat:=174
abbrev bT:Nat:=175
abbrev oT:Nat:=180
abbrev wD:Nat:=181
abbrev zY:Nat:=182
abbrev E3:Nat:=183
abbrev DT:Nat:=184
abbrev E4:Nat:=185
abbrev E5:Nat:=186
abbrev Bl:Nat:=187
abbrev MA:Nat:=188
abbrev E6:Nat:=189
abbrev MB:Nat:=190
abbrev kY:Nat:=191
abbrev wE:Nat:=192
abbrev qS:Nat:=193
abbrev uH:Nat:=194
abbrev Bm:Nat:=195
abbrev iM:Nat:=196
abbrev DU:Nat:=197
abbrev DV:Nat:=198
abbrev Ao:Nat:=199
abbrev DS:Nat:=200
abbrev DR:Nat:=201
abbrev Il:Nat:=211
abbrev uZ:Nat:=212
abbrev bM:Nat:=221
abbrev fC:Nat:=222
abbrev jS:Nat:=223
abbrev wP:Nat:=224
abbrev nO:Nat:=225
abbrev wF:Nat:=226
abbrev wQ:Nat:=227
abbrev wR:Nat:=228
abbrev AA:Nat:=229
abbrev tN:Nat:=230
abbrev Da:Nat:=231
abbrev oR:Nat:=232
abbrev jX:Nat:=233
abbrev iU:Nat:=234
abbrev Bp:Nat:=235
abbrev Bq:Nat:=236
abbrev GA:Nat:=237
abbrev nP:Nat:=238
abbrev AB:Nat:=239
abbrev uI:Nat:=240
abbrev cD:Nat:=241
abbrev kZ:Nat:=242
abbrev fD:Nat:=243
abbrev tY:Nat:=244
abbrev fL:Nat:=245
abbrev vA:Nat:=246
abbrev xS:Nat:=247
abbrev rR:Nat:=248
abbrev tO:Nat:=249
abbrev yO:Nat:=250
abbrev Db:Nat:=251
abbrev sJ:Nat:=252
abbrev xT:Nat:=253
abbrev Ap:Nat:=254
abbrev E9:Nat:=255
abbrev xU:Nat:=256
abbrev qW:Nat:=257
abbrev kH:Nat:=258
abbrev bK:Nat:=259
abbrev DQ:Nat:=260
abbrev Jp:Nat:=261
abbrev wN:Nat:=262
abbrev Kw:Nat:=263
abbrev nD:Nat:=264
abbrev nN:Nat:=278
abbrev kP:Nat:=279
abbrev eE:Nat:=280
abbrev AX:Nat:=289
abbrev E8:Nat:=290
abbrev DY:Nat:=291
abbrev wO:Nat:=292
abbrev Bn:Nat:=293
abbrev DZ:Nat:=294
abbrev Bo:Nat:=295
abbrev nQ:Nat:=297
abbrev oS:Nat:=298
abbrev fE:Nat:=305
abbrev jH:Nat:=306
abbrev dI:Nat:=307
abbrev nR:Nat:=308
abbrev fS:Nat:=309
abbrev jY:Nat:=310
abbrev gU:Nat:=311
abbrev dY:Nat:=312
abbrev iV:Nat:=313
abbrev dJ:Nat:=314
abbrev fW:Nat:=315
abbrev jZ:Nat:=316
abbrev gV:Nat:=317
abbrev iB:Nat:=318
abbrev nS:Nat:=319
abbrev lX:Nat:=320
abbrev FA:Nat:=321
abbrev yQ:Nat:=322
abbrev vD:Nat:=323
abbrev bO:Nat:=324
abbrev jR:Nat:=325
abbrev qT:Nat:=326
abbrev pG:Nat:=327
abbrev CH:Nat:=328
abbrev iA:Nat:=341
abbrev yP:Nat:=342
abbrev uO:Nat:=343
abbrev vS:Nat:=344
abbrev vB:Nat:=345
abbrev pT:Nat:=346
abbrev vC:Nat:=347
abbrev tZ:Nat:=348
abbrev xX:Nat:=349
abbrev GB:Nat:=353
abbrev Dc:Nat:=354
abbrev dP:Nat:=355
abbrev jT:Nat:=356
abbrev kQ:Nat:=357
abbrev xV:Nat:=358
abbrev xW:Nat:=359
abbrev gC:Nat:=362
abbrev gY:Nat:=363
abbrev iC:Nat:=364
abbrev fM:Nat:=365
abbrev dU:Nat:=366
abbrev Br:Nat:=367
abbrev kS:Nat:=368
abbrev vE:Nat:=369
abbrev eK:Nat:=370
abbrev gO:Nat:=371
abbrev eM:Nat:=372
abbrev fK:Nat:=373
abbrev fB:Nat:=374
abbrev dA:Nat:=375
abbrev cQ:Nat:=376
abbrev dL:Nat:=377
abbrev dR:Nat:=385
abbrev bW:Nat:=386
abbrev eF:Nat:=387
abbrev cY:Nat:=397
abbrev wS:Nat:=422
abbrev kA:Nat:=423
abbrev wT:Nat:=424
abbrev wU:Nat:=425
abbrev wV:Nat:=426
abbrev wW:Nat:=427
abbrev wX:Nat:=428
abbrev tQ:Nat:=429
abbrev mB:Nat:=430
abbrev wY:Nat:=431
abbrev wZ:Nat:=432
abbrev yR:Nat:=433
end Hud
namespace Hud
set_option maxRecDepth 99999
open Go
def EQ:=eVf (cF oT [])
def Av:=eVf (cF nQ [])
def BV:=eVf (cF oS [])
end Hud
