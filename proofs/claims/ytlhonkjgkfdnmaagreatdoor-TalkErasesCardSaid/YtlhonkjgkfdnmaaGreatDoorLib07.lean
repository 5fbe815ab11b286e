import Derived.Test.YtlhonkjgkfdnmaaGreatDoorLib05
set_option linter.all false
namespace Hud
open Go
section
variable{P:Program}{G:L_}{h:GH}{φ:Nat->Value}{T:aK}{w:World}{s:List (Nat×AV)}{a:Act}
def Qd{n:Nat}:∀{cs:O_}{us kc:C_},G6 cs=some kc->cC h φ n cs us->us=kc
 |[],us,kc,e,a=>by
  grind[G6,Option.some.injEq,cC]
 |c::cs,us,kc,e,a=>by
  cases c<;>simp only[G6]at e<;>(try (simp at e;done))
  simp only[cC,Rp]at a;obtain⟨u,b,rfl,rfl,h2⟩:=a;split at e;rename_i l d;cases e;rw[Qd d h2];simp at e
def Ly {n:Nat} {x:AV} {u:Value} {ag:Bool} {ls:List LK} {kc:C_} (g:Rp h φ n x u) (e:LF ag ls x=some kc):u=iY ag kc/\∃b,rJ ls kc kc=some b:=by
 unfold LF at e;split at e;rename_i k c;split at e;rename_i b j;cases e;refine⟨?_,b,j⟩;split at c;rename_i f;subst f;split at c;rename_i l a;have:∃d:Array Value,u=.agg d/\cC h φ n l d.toList:=by unfold Vu at a;split at a;grind[Rp];cases a;simp only[Rp]at g;exact⟨_,g,Mw h φ n _⟩;simp at a
 obtain⟨d,rfl,i⟩:=this;have:=Qd c i;simp[iY,<-this];simp at c;grind[Rp,iY];simp at e;simp at e
def DH(hI:Inv h φ w T){i:Nat}{ag:Bool}{ks:List C_}{vs:O_}{bs:V_}{cl:Nat}(a:cR T i=some (.map ag ks vs bs cl)):
 ∃(g:Nat)(ens:Array MapEntry),φ i=.map (some g)/\w.heap[g]?=some (.map ens cl)/\h g=none /\
  ens.toList.map (·.key)=ks.map (iY ag)/\ens.toList.map (·.born)=bs/\cC h φ T.length vs (ens.toList.map (·.val)):=hI.obj i _ (bH a)
def lK{r:Nat}{es:Array MapEntry}{a:Nat}(b:w.heap[r]?=some (.map es a)):(getObj r).run P w=.ok (.map es a) w:=by simp[getObj,Sem.run,b]
def tW{r:Nat}{es:Array MapEntry}{a:Nat}(o:Obj)(b:w.heap[r]?=some (.map es a)):(setObj r o).run P w=.ok () {w with heap:=w.heap.setIfInBounds r o}:=by simp[setObj,Sem.run,b]
def DI(hI:Inv h φ w T){i:Nat}{ag:Bool}{ks:List C_}{vs:O_}{bs:V_}{cl:Nat}(f:cR T i=some (.map ag ks vs bs cl)){g:Nat}{ens:Array MapEntry}(a:φ i=.map (some g))(k:w.heap[g]?=some (.map ens cl))
 {ens':Array MapEntry} {ks':List C_} {vs':O_} {bs':V_} {cl':Nat} (h1:ens'.toList.map (·.key)=ks'.map (iY ag)) (h2:ens'.toList.map (·.born)=bs') (h3:cC h φ T.length vs' (ens'.toList.map (·.val))):
 Inv h φ {w with heap:=w.heap.setIfInBounds g (.map ens' cl')} (T.set i (some (.map ag ks' vs' bs' cl'))) /\
 Evo h φ T w h φ (T.set i (some (.map ag ks' vs' bs' cl'))) {w with heap:=w.heap.setIfInBounds g (.map ens' cl')}:=by
 have d:g<w.heap.size:=m_;have j:=(iT (hI.obj i _ (bH f)) (g:=g) (by rw[a];rfl)).2;refine Fw (w':={w with heap:=w.heap.setIfInBounds g (.map ens' cl')}) hI rfl rfl rfl s_ (bH f) (λb _ c=>?_) ⟨g,ens',a,gf,j,h1,h2,h3⟩;have:g≠b:=λe=>c (by rw[a,e];rfl);simp_all
def Z0(hI:Inv h φ w T)(t:TypeId)(ag:Bool):jD h φ T w ((Instr.makeMap t none).run P w) (.mp T.length) (T++[some (.map ag [] [] [] 0)]):=by
 have a:h w.heap.size=none:=Fx hI;have:=tL (w':=w.alloc (.map #[] 0)) (o:=.map ag [] [] [] 0) (v:=.map (some w.heap.size)) hI rfl rfl rfl s_ (λb d=>kX w _ b d)
  (λg c=>by simp only[kI,E_]at c;omega)
  ⟨w.heap.size,#[],bI,heap_alloc_new w _,a,s_,s_,sg⟩
 refine⟨_,_,h,_,by simp[Instr.makeMap];rfl,this.2,this.1,?_⟩;simp only[Rp];exact⟨s_,bI.symm,w.heap.size,rfl⟩
def Z3{ens:Array MapEntry}{vs:O_}{n:Nat}(b:cC h φ n vs (ens.toList.map (·.val))){j:Nat}{out:Option (Nat×Value)}(c:Ek ens.toList 0 (some j) out){x:AV}(a:vs[j]?=some x):
 ∃e,ens[j]?=some e/\out=some (j,e.val)/\Rp h φ n x e.val:=by
 obtain⟨_,e,h1,h2⟩:=c;obtain⟨u,h3,d⟩:=b.get a;simp_all
def Z4 {t A W:TypeId} (K:P.underlying t=some (.map A W)) {ag:Bool} {ls:List LK} (J:iF P 20 A=some (ag,ls)) {i:TypeInfo} (hi:P.info? W=some i) {z:Value} (hz:i.zero=some z) {u:Bool}
 (S:tU G h) (hI:Inv h φ w T) (R:uN h φ T.length s a) {m k:Operand} {x:AV} {T':aK} (f:cE T (dW G s) (.lku ag ls z m k u)=some (x,T')):
 T'=T/\∃v,(Instr.lookup t (a.eval m) (a.eval k) u).run P w=.ok v w/\Rp h φ T.length x v:=by
 have L:=dN S R m;have M:=dN S R k;simp only[cE]at f;split at f;rename_i ks Z kc c N;obtain⟨n,b,hb⟩:=Ly M N;have D:∀X,(Instr.checkKey X 10000 A (a.eval k)).run P w=.ok () w:=λX=>by rw[n];exact Ts 20 A ag ls J 10000 o_ kc b hb
 have H:(zeroValue W).run P w=.ok z w:=by simp[zeroValue,typeInfo,hi,hz]
 have O:∃ens:Array MapEntry,ens.toList.map (·.key)=ks.map (iY ag)/\cC h φ T.length Z (ens.toList.map (·.val)) /\
  ∀out,(Instr.findKey A (a.eval k) ens.toList).run P w=.ok out w->(Instr.lookup t (a.eval m) (a.eval k) u).run P w=.ok (match out with|some (_,v)=>if u then .tuple #[v,.bool true] else v|none=>if u then .tuple #[z,.bool false] else z) w:=by
  unfold aC2 at c;split at c;rename_i C;cases c;refine⟨#[],rfl,sg,λout d=>?_⟩;have:out=none:=by
   have:(Instr.findKey A (a.eval k) []).run P w=.ok none w:=by obtain⟨o,h1,h2⟩:=zP (w:=w) (kc:=kc) (ens:=[]) (ks:=[]) (r:=none) J d_ rfl rfl;rw[n,h2];simp only[Ek]at h1;rw[h1]
   rw[this]at d;injection d with d _;exact d.symm
  subst this;rw[lW S R C];have I:(Instr.findKey A (a.eval k) (#[]:Array MapEntry).toList).run P w=.ok none w:=d;simp[Instr.lookup,run_underlying K,D,I,H];rename_i i C;split at c;rename_i ab aa Y bs cl hg;split at c;rename_i Q;subst Q;cases c;obtain⟨g,ens,h1,h2,h3,V,U,h6⟩:=DH hI hg;refine⟨ens,V,h6,λout d=>?_⟩;rw[C]at L;simp only[Rp]at L;rw[L.2.1,h1]
  cases out with
  |none=>simp[Instr.lookup,run_underlying K,lK h2,D,d,H]|some p=>simp[Instr.lookup,run_underlying K,lK h2,D,d]
  simp at c;simp at c;simp at c
 obtain⟨ens,l,B,q⟩:=O;split at f;rename_i I;cases f;obtain⟨out,h1,h2⟩:=zP (w:=w) J d_ l I;simp only[Ek]at h1;subst h1;refine⟨rfl,_,q none (by rw[n];exact h2),?_⟩;cases u<;>simp[Rp,cC];rename_i j I;split at f;rename_i y hy;cases f;obtain⟨out,h1,h2⟩:=zP (w:=w) J d_ l I;obtain⟨e,h3,V,U⟩:=Z3 B h1 hy;subst V;refine⟨rfl,_,q _ (by rw[n];exact h2),?_⟩;cases u;simpa using U;simp only[if_true,Rp,cC];exact⟨_,rfl,_,_,rfl,U,_,_,rfl,rfl,rfl⟩;simp at f;simp at f;simp at f
def Tu{ls:List LK}{kc:C_}:∀(ks:List C_)(i:Nat){j:Nat},eR ls kc ks i=some (some j)->i<=j|[],i,j,h=>by simp[eR]at h|k::ks,i,j,h=>by simp only[eR]at h;split at h;simp_all;have:=Tu ks (i+1) h;omega;simp at h
def M7{ls:List LK}{kc:C_}:∀(ks:List C_)(i:Nat){j:Nat},eR ls kc ks i=some (some j)->∀{a:C_},ks[j-i]?=some a->rJ ls kc a=some true|[],i,j,h,a,_=>by simp[eR]at h|k::ks,i,j,h,a,b=>by simp only[eR]at h;split at h;simp_all;have c:=Tu ks (i+1) h;rw[(o_:j-i=(j-(i+1))+1),oX]at b;exact M7 ks (i+1) h b;simp at h
def mH(ens:Array MapEntry)(j:Nat)(f:MapEntry->MapEntry):(ens.modify j f).toList=ens.toList.modify j f:=s_
def El(l:List MapEntry)(j:Nat)(f:MapEntry->MapEntry)(a:∀e,l[j]?=some e->(f e).key=e.key):(l.modify j f).map (·.key)=l.map (·.key):=by apply EW;grind
def yL(l:List MapEntry)(j:Nat)(f:MapEntry->MapEntry)(a:∀e,(f e).born=e.born):(l.modify j f).map (·.born)=l.map (·.born):=by apply EW;grind
def Em(l:List MapEntry)(j:Nat)(f:MapEntry->MapEntry)(v:Value)(a:∀e,(f e).val=v):(l.modify j f).map (·.val)=(l.map (·.val)).set j v:=by apply EW;grind
def cC.setv{n:Nat}{vs:O_}{us:C_}(b:cC h φ n vs us){j:Nat}{x:AV}{v:Value}(g:Rp h φ n x v):cC h φ n (vs.set j x) (us.set j v):=
 cC.mk (by simp[b.length]) λi c u a e=>by rw[Hx]at a e;rw[b.length]at a;split at a;simp_all;rename_i d;rw[if_neg d]at e;obtain⟨f,h1,h2⟩:=b.get a;simp_all
def Qe {t r et:TypeId} (X:P.underlying t=some (.map r et)) {ag:Bool} {ls:List LK} (B:iF P 20 r=some (ag,ls))
 (Q:tU G h) (hI:Inv h φ w T) (O:uN h φ T.length s a) {m k q:Operand} {x:AV} {T':aK} (d:cE T (dW G s) (.mup ag ls m k q)=some (x,T')):
 ∃H,(Instr.mapUpdate t (a.eval m) (a.eval k) (a.eval q)).run P w=.ok () H/\x=.v undef/\Evo h φ T w h φ T' H/\Inv h φ H T':=by
 have I:=dN Q O m;have J:=dN Q O k;have Y:=dN Q O q;simp only[cE]at d;split at d;rename_i i M;rw[M]at I;simp only[Rp]at I;split at d;rename_i aa u W bs F kc L K;split at d;rename_i N;subst N;obtain⟨f,b,Z⟩:=Ly J K;have z:∀em,(Instr.checkKey em 10000 r (a.eval k)).run P w=.ok () w:=λem=>by rw[f];exact Ts 20 r ag ls B 10000 o_ kc b Z
 obtain⟨g,l,h1,h2,h3,D,h5,h6⟩:=DH hI L;rw[I.2.1,h1];split at d;rename_i C;cases d;obtain⟨out,E,A⟩:=zP (w:=w) B d_ D C;simp only[Ek]at E;subst E;rw[<-f]at A;have c:=DI hI L h1 h2 (ens':=l.push {key:=a.eval k,val:=a.eval q,born:=F}) (ks':=u++[kc]) (vs':=W++[dW G s q]) (bs':=bs++[F]) (cl':=F+1)
  (by simp[D,f]) (by simp[h5]) (by simp only[Array.toList_push,bZ,fG,uP];exact h6.app (by simp[cC,Y]))
 exact⟨_,by simp[Instr.mapUpdate,run_underlying X,lK h2,z,A,tW _ h2],rfl,c.2,c.1⟩;rename_i j C;cases d;obtain⟨out,E,A⟩:=zP (w:=w) B d_ D C;obtain⟨_,e,S,f4⟩:=E;subst f4;rw[<-f]at A;simp only[QO]at S;have y:e.key=a.eval k:=by
  have n:(u.map (iY ag))[j]?=some e.key:=m_;rw[gE]at n
  cases p:u[j]? with
  |none=>simp[p]at n|some k'=>
   simp only[p,iX,E_]at n;have:rJ ls kc k'=some true:=M7 u 0 C (by simpa using p);rw[<-n,f,Ej this]
 have R:l[j]?=some e:=by simpa using S
 have nG:(Instr.keyThatStays e.key (a.eval k)).run P w=.ok (a.eval k) w:=by rw[y,f];exact Tt Z (Fv (P:=P) (w:=w) 20 r ag ls B).1
 have c:=DI hI L h1 h2 (ens':=l.modify j λe=>{e with key:=a.eval k,val:=a.eval q}) (ks':=u) (vs':=W.set j (dW G s q)) (bs':=bs) (cl':=F)
  (by rw[mH,El _ _ _ (λe' o=>by rw[S]at o;cases o;exact y.symm)];exact D)
  (by rw[mH,yL l.toList j (λe=>{e with key:=a.eval k,val:=a.eval q}) (λ_=>rfl)];exact h5)
  (by rw[mH,Em l.toList j (λe=>{e with key:=a.eval k,val:=a.eval q}) (a.eval q) (λ_=>rfl)];exact h6.setv Y)
 exact⟨_,by simp[Instr.mapUpdate,run_underlying X,lK h2,z,A,R,nG,tW _ h2],rfl,c.2,c.1⟩;simp at d;simp at d;simp at d;simp at d
def WA {t o z ty:TypeId} (l:P.underlying t=some (.map o z)) {ts:Array TypeId} (d:ts[0]?=some t)
 (n:tU G h) (hI:Inv h φ w T) (m:uN h φ T.length s a) {p:Operand} {x:AV} {T':aK} (b:cE T (dW G s) (.lenM p)=some (x,T')):
 T'=T/\∃v,(Builtin.len_ ts ty #[a.eval p]).run P w=.ok v w/\Rp h φ T.length x v:=by
 have f:=dN n m p;simp only[cE]at b;split at b;rename_i c;cases b;rw[lW n m c];exact⟨rfl,goInt 0,by simp[Builtin.len_,d,run_underlying l],ku⟩;rename_i i c;rw[c]at f;simp only[Rp]at f;split at b;rename_i E q A bs D u;cases b;obtain⟨g,e,h1,h2,h3,y,C,B⟩:=DH hI u;have r:e.size=q.length:=by have:=congrArg List.length y;simpa using this
 rw[f.2.1,h1];exact⟨rfl,goInt e.size,by simp[Builtin.len_,d,run_underlying l,lK h2],by simp[Rp,goInt,r]⟩;simp at b;simp at b
end
end Hud
