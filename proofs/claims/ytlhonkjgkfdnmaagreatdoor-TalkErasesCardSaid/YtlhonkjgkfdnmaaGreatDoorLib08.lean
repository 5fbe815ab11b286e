import Derived.Test.YtlhonkjgkfdnmaaGreatDoorLib05
set_option linter.all false
set_option maxHeartbeats 40000000
namespace Hud
open Go
section
variable{P:Program}{G:L_}{h:GH}{φ:Nat->Value}{w:World}{a:Act}{st:St}{K:AV->aK->Prop}{next:Act->World->Prop}{Q:Exit->Act->World->Prop}
def rL(P:Program)(o:Oper)(a:Act)(w:World)(next:Act->World->Prop):Prop :=
 match(execOp a.eval o).run P w with
 |.ok (.value v) c=>next (a.put o.dst v) c|.ok .skip c=>next (a.put o.dst undef) c|.ok (.enter f h) c=>Calls P f h c λe b=>∃v,e=.returned v/\next (a.put o.dst v) b|.ok (.round l f d i g) c=>RoundIn Fence.wide 0 P l f d i g c λe b=>∃v,e=.returned v/\next (a.put o.dst v) b|_=>False
def uT{o:Oper}{sv:Sem Value}(d:execOp a.eval o=(do pure (.value (<-sv)))){v:Value}{w':World}(b:sv.run P w=.ok v w')(c:next (a.put o.dst v) w'):rL P o a w next:=by unfold rL;rw[d];simp only[Sem.run_bind,b,Result.andThen_ok,Sem.run_pure];exact c
def tE{T:aK}(hI:Inv h φ w T){x:AV}{v:Value}(a:Rp h φ T.length x v){K:AV->aK->Prop}(b:K x T):CS h φ T w K v w :=
 ⟨x,T,h,φ,b,Evo.refl,hI,a⟩
def Cb{T T':aK}{x:AV}{r:Result Value}(c:jD h φ T w r x T'){K:AV->aK->Prop}(d:K x T'):∃v a,r=.ok v a/\CS h φ T w K v a :=
 let⟨v,a,e,b,j,i,g,f⟩:=c
 ⟨v,a,j,x,T',e,b,d,i,g,f⟩
def GZ{c:HOp}(a:(∀f l,c≠.call f l)/\(∀p,c≠.nxt p)/\∀n k x,c≠.nilS n k x)(b:yF P G st c K):∃x d,cE st.T (dW G st.s) c=some (x,d)/\K x d:=by unfold yF at b;split at b;exact absurd rfl (a.1 _ _);exact absurd rfl (a.2.1 _);exact absurd rfl (a.2.2 _ _ _);split at b;rename_i x d e;exact⟨x,d,e,b⟩;exact b.elim
def Lw{n:Nat}{x:AV}{u:Value}{cs:O_}(a:Rp h φ n x u)(e:Vu x=some cs):∃b:Array Value,u=.agg b/\cC h φ n cs b.toList:=by unfold Vu at e;split at e;cases e;simpa only[Rp]using a;cases e;simp only[Rp]at a;exact⟨_,a,Mw h φ n _⟩;simp at e
def M4 {n:Nat}:∀{ks:List LK}{cs ds:O_}{us vs:C_}{b:Bool},eqC ks cs ds=some b->cC h φ n cs us->cC h φ n ds vs->rJ ks us vs=some b
 | [],cs,ds,us,vs,b,e,h1,h2=>by
  cases cs with
  |nil=>
   cases ds with
   |nil=>simp only[cC]at h1 h2;subst h1;subst h2;simpa[eqC,rJ]using e|cons d ds=>simp[eqC]at e
  |cons c cs=>simp[eqC]at e
 | k::ks,cs,ds,us,vs,b,e,h1,h2=>by unfold eqC at e;split at e;rename_i g;simp at g;rename_i k l w p cs t q ds g;cases g;simp only[cC,Rp]at h1 h2;obtain⟨u,j,rfl,rfl,h3⟩:=h1;obtain⟨v,i,rfl,rfl,o⟩:=h2;split at e;rename_i s;split at e;rename_i r m;have:=M4 m h3 o;simp only[rJ,s,this,and_self,if_true];exact e;simp at e;simp at e;rename_i l p cs q ds g;cases g;simp only[cC,Rp]at h1 h2;obtain⟨u,j,rfl,rfl,h3⟩:=h1;obtain⟨v,i,rfl,rfl,o⟩:=h2;split at e;rename_i r m;have:=M4 m h3 o;simp only[rJ,this];exact e;simp at e;rename_i l p cs q ds g;cases g;simp only[cC,Rp]at h1 h2;obtain⟨u,j,rfl,rfl,h3⟩:=h1;obtain⟨v,i,rfl,rfl,o⟩:=h2;split at e;rename_i r m;have:=M4 m h3 o;simp only[rJ,this];exact e;simp at e;simp at e
def PT{n:Nat}{t:TypeId}{c:Array Field}(b:P.underlying t=some (.struct c)){ag:Bool}{ks:List LK}(a:iF P n t=some (ag,ks)):ag=true:=by
 cases n with
 |zero=>simp[iF]at a| succ n=>
  simp only[iF,b]at a;split at a;simp at a;split at a;injection a with a;injection a with a _;exact a.symm;simp at a
def V5{n:Nat}:∀{x:AV}{u:Value},Rp h φ n x u->Rp h φ n (fnA x) u:=by intro x u e;unfold fnA;split;rename_i g a b;split;rename_i c;simp only[Rp]at e⊢;subst e;have f:a=#[]:=QA c.1;have d:b=#[]:=QA c.2;subst f d;exact⟨#[],rfl,sg⟩;exact e;exact e
def Zx {o:Oper} {ho:HOp} (q:gG P o=some ho) (hw:yF P G st ho K) (B:tU G h) (hI:Inv h φ w st.T) (C:uN h φ st.T.length st.s a)
  (hn:∀v S,CS h φ st.T w K v S->next (a.put o.dst v) S):rL P o a w next:=by
 have A:∀{sv:Sem Value}(_:execOp a.eval o=(do pure (.value (<-sv))))(_:(∀f l,ho≠.call f l)/\(∀p,ho≠.nxt p)/\∀n k x,ho≠.nilS n k x)(_:∀x E,cE st.T (dW G st.s) ho=some (x,E)->E=st.T/\∃v,sv.run P w=.ok v w/\Rp h φ st.T.length x v),rL P o a w next:=by intro sv H Y aa;obtain⟨x,E,e,V⟩:=GZ Y hw;obtain⟨rfl,v,h1,h2⟩:=aa x E e;exact uT H h1 (hn v w (tE hI h2 V))
 have J:∀{sv:Sem Value}(_:execOp a.eval o=(do pure (.value (<-sv))))(_:(∀f l,ho≠.call f l)/\(∀p,ho≠.nxt p)/\∀n k x,ho≠.nilS n k x)(_:∀x E,cE st.T (dW G st.s) ho=some (x,E)->jD h φ st.T w (sv.run P w) x E),rL P o a w next:=by intro sv H Y aa;obtain⟨x,E,e,V⟩:=GZ Y hw;obtain⟨v,S,h1,h2⟩:=Cb (aa x E e) V;exact uT H h1 (hn v S h2)
 obtain⟨dst,op,Z,pos,after,guard⟩:=o
 cases op with
 |move x=>
  simp only[gG,E_]at q;subst q;refine A (sv:=pure (a.eval x)) rfl s_ λy E e=>?_;simp only[cE,E_,Prod.mk.injEq]at e;obtain⟨rfl,rfl⟩:=e;exact⟨rfl,_,rfl,dN B C x⟩
 |assign x=>
  simp only[gG,E_]at q;subst q;refine A (sv:=pure (a.eval x)) rfl s_ λy E e=>?_;simp only[cE,E_,Prod.mk.injEq]at e;obtain⟨rfl,rfl⟩:=e;exact⟨rfl,_,rfl,dN B C x⟩
 | pick c x y=>
  simp only[gG,E_]at q;subst q;obtain⟨z,E,e,V⟩:=GZ s_ hw;simp only[cE]at e;split at e
  ·rename_i t I;simp only[E_,Prod.mk.injEq]at e;obtain⟨rfl,rfl⟩:=e;unfold rL;have:execOp a.eval {dst:=dst,op:=.pick c x y,type:=Z,pos:=pos,after:=after,guard:=guard}=(do pure (.value (if <-asBool (a.eval c) then a.eval x else a.eval y))):=rfl;rw[this,lW B C I];simp only[Sem.run_bind,asBool,Sem.run_pure,Result.andThen_ok];refine hn _ _ (tE hI ?_ V);cases t
   ·exact dN B C y
   ·exact dN B C x
  ·simp at e
 | binOp op t x y au=>
  simp only[gG]at q;split at q
  ·rename_i ab;split at q
   ·injection q with q;subst q;refine A (sv:=do eqGuard op t x y (a.eval x) (a.eval y);binOp op t (a.eval x) (a.eval y)) rfl s_ λz E e=>?_;simp only[cE]at e;split at e
    ·rename_i u v L hv;split at e
     ·rename_i r U;simp only[E_,Prod.mk.injEq]at e;obtain⟨rfl,rfl⟩:=e;rw[lW B C L,lW B C hv];exact⟨rfl,r,Rm U,z_⟩
     ·simp at e
    ·simp at e
   ·rename_i I;injection q with q;subst q;refine A (sv:=do eqGuard op t x y (a.eval x) (a.eval y);binOp op t (a.eval x) (a.eval y)) rfl s_ λz E e=>?_;simp only[cE]at e;split at e
    ·rename_i u v L hv;simp only[E_,Prod.mk.injEq]at e;obtain⟨rfl,rfl⟩:=e;rw[lW B C L,lW B C hv];exact⟨rfl,_,aEW ab I,z_⟩
    ·simp at e
   ·rename_i I;split at q;rotate_left
    ·simp at q
    injection q with q;subst q;refine A (sv:=do eqGuard op t x y (a.eval x) (a.eval y);binOp op t (a.eval x) (a.eval y)) rfl s_ λz E e=>?_;simp only[cE]at e;split at e
    ·rename_i L hv;simp only[E_,Prod.mk.injEq]at e;obtain⟨rfl,rfl⟩:=e;rw[lW B C L,lW B C hv];exact⟨rfl,_,aPk ab I,z_⟩
    ·simp at e
   ·injection q with q;subst q;refine A (sv:=do eqGuard op t x y (a.eval x) (a.eval y);binOp op t (a.eval x) (a.eval y)) rfl s_ λz E e=>?_;simp only[cE]at e;split at e
    ·rename_i u v L hv;split at e
     ·rename_i r U;simp only[E_,Prod.mk.injEq]at e;obtain⟨rfl,rfl⟩:=e;rw[lW B C L,lW B C hv];exact⟨rfl,r,Rm U,z_⟩
     ·simp at e
    ·simp at e
   ·
    rename_i fs I;split at q
    ·rename_i ag ks V;split at q
     ·simp at q
     ·rename_i an;injection q with q;subst q;refine A (sv:=do eqGuard op t x y (a.eval x) (a.eval y);binOp op t (a.eval x) (a.eval y)) rfl s_ λz E e=>?_;simp only[cE]at e;split at e
      ·rename_i cs ds h1 h2;split at e
       ·rename_i b hb;simp only[E_,Prod.mk.injEq]at e;obtain⟨rfl,rfl⟩:=e;obtain⟨N,e1,r1⟩:=Lw (dN B C x) h1;obtain⟨vs,e2,r2⟩:=Lw (dN B C y) h2;have ap:ag=true:=PT I V;subst ap;have hq:=(Fv (P:=P) (w:=w) 20 t true ks V).2 10000 o_ N.toList vs.toList b (M4 hb r1 r2);simp only[iY,if_true,YD]at hq;rw[e1,e2];have ah:P.eqGuardType P.depth t=false:=by simpa[aNh]using an
        refine⟨rfl,.bool (if op==.neq then !b else b),?_,z_⟩;rcases ab with rfl|rfl
        ·simp only[Sem.run_bind,run_eqGuard_agg w .eql t x y N vs ah,Result.andThen_ok,run_eql_struct w t N vs,hq];rfl
        ·simp only[Sem.run_bind,run_eqGuard_agg w .neq t x y N vs ah,Result.andThen_ok,run_neq_struct w t N vs,hq];rfl
       ·simp at e
      ·simp at e
    ·simp at q
   ·simp at q
  ·injection q with q;subst q;refine A (sv:=do eqGuard op t x y (a.eval x) (a.eval y);binOp op t (a.eval x) (a.eval y)) rfl s_ λz E e=>?_;simp only[cE]at e;split at e
   ·rename_i u v L hv;split at e
    ·rename_i r U;simp only[E_,Prod.mk.injEq]at e;obtain⟨rfl,rfl⟩:=e;rw[lW B C L,lW B C hv];exact⟨rfl,r,Rm U,z_⟩
    ·simp at e
   ·simp at e
 | unOp op t x=>
  simp only[gG,E_]at q;subst q;refine A (sv:=Op.unary op (a.eval x)) rfl s_ λz E e=>?_;simp only[cE]at e;split at e
  ·rename_i u L;split at e
   ·rename_i r U;simp only[E_,Prod.mk.injEq]at e;obtain⟨rfl,rfl⟩:=e;rw[lW B C L];exact⟨rfl,r,aHj U,z_⟩
   ·simp at e
  ·simp at e
 | convert aj d x=>
  simp only[gG]at q;split at q
  ·rename_i sd k hs hd;injection q with q;subst q;refine A (sv:=convert aj d (a.eval x)) rfl s_ λz E e=>?_;simp only[cE]at e;split at e
   ·rename_i kk n L;simp only[E_,Prod.mk.injEq]at e;obtain⟨rfl,rfl⟩:=e;rw[lW B C L];exact⟨rfl,_,by simp[convert,run_underlying hs,run_underlying hd,Conv.intToInt];rfl,z_⟩
   ·simp at e
  ·simp at q
 |box e x=>
  simp only[gG,E_]at q;subst q;exact J (sv:=Instr.box e (a.eval x)) rfl s_ λz E H=>Zq B hI C H
 | alloc e=>
  simp only[gG]at q;split at q
  ·rename_i i hi;split at q
   ·rename_i z hz;split at q
    ·injection q with q;subst q;exact J (sv:=Instr.alloc e true (.tuple #[])) rfl s_ λz E H=>Tg hI hi hz H
    ·simp at q
   ·simp at q
  ·simp at q
 | build t W=>
  simp only[gG]at q;split at q
  ·rename_i fs i I hi;split at q
   ·rename_i z l hz hl;split at q
    ·rename_i ai;injection q with q;subst q;exact A (sv:=Instr.build t (W.map λ(i,x)=>(i,a.eval x))) rfl s_ λy E H=>V1 I hi hz hl ai B C H
    ·simp at q
   ·simp at q
  ·simp at q
 | buildSlice t len W=>
  simp only[gG]at q;split at q
  ·rename_i e I;split at q
   ·rename_i i hi;split at q
    ·rename_i z hz;split at q
     ·rename_i X;injection q with q;subst q;exact J (sv:=Instr.buildSlice t len (W.map λ(i,x)=>(i,a.eval x))) rfl s_ λy E H=>Zt I hi hz X.1 X.2.1 X.2.2.1 X.2.2.2 B hI C H
     ·simp at q
    ·simp at q
   ·simp at q
  ·simp at q
 |load t x=>
  simp only[gG]at q;split at q
  ·rename_i n I;injection q with q;subst q;exact A (sv:=Instr.loadAt t (a.eval x)) rfl s_ λy E H=>Mu I B hI C H
  ·simp at q
 |store t x y=>
  simp only[gG]at q;split at q
  ·rename_i n I;injection q with q;subst q;obtain⟨z,E,e,V⟩:=GZ s_ hw;obtain⟨S,h1,rfl,h2,h3⟩:=aC7 I B hI C e;unfold rL;have:execOp a.eval {dst:=dst,op:=.store t x y,type:=Z,pos:=pos,after:=after,guard:=guard}=(do Instr.storeAt t (a.eval x) (a.eval y);pure .skip):=rfl;rw[this];simp only[Sem.run_bind,h1,Result.andThen_ok,Sem.run_pure];exact hn undef S ⟨_,E,h,φ,V,h2,h3,z_⟩
  ·simp at q
 | fieldAddr t x f=>
  simp only[gG]at q;split at q
  ·rename_i fs I;split at q
   ·rename_i fd Q;split at q
    ·rename_i n am;split at q
     ·simp at q
     ·rename_i h0;injection q with q;subst q;exact A (sv:=Instr.fieldAt t (a.eval x) f) rfl s_ λy E H=>Zl I Q am h0 B C H
    ·simp at q
   ·simp at q
  ·simp at q
 | field t x f=>
  simp only[gG]at q;split at q
  ·rename_i fs I;split at q
   ·rename_i fd Q;split at q
    ·rename_i m hm;injection q with q;subst q;exact A (sv:=Instr.field t (a.eval x) f) rfl s_ λy E H=>Zm I Q hm B C H
    ·simp at q
   ·simp at q
  ·simp at q
 | indexAddr t x ix=>
  simp only[gG]at q;split at q
  ·rename_i e I;split at q
   ·rename_i k V;split at q
    ·simp at q
    ·injection q with q;subst q;exact A (sv:=Instr.indexAt t (a.eval x) (a.eval ix)) rfl s_ λy E H=>Zn I V B hI C H
   ·simp at q
  ·rename_i len e I;split at q
   ·rename_i k V;injection q with q;subst q;exact A (sv:=Instr.indexAt t (a.eval x) (a.eval ix)) rfl s_ λy E H=>Vx I V B C H
   ·simp at q
  ·simp at q
 |index t x ix=>
  simp only[gG]at q;split at q
  ·rename_i I;injection q with q;subst q;exact A (sv:=Instr.index t (a.eval x) (a.eval ix)) rfl s_ λy E H=>Zo I B C H
  ·simp at q
 | extract x i=>
  simp only[gG,E_]at q;subst q;refine A (sv:=Instr.extract (a.eval x) i) rfl s_ λy E e=>?_;have M:=dN B C x;simp only[cE]at e;split at e
  ·rename_i vs F;rw[F]at M;simp only[Rp]at M;obtain⟨N,L,U⟩:=M;split at e
   ·rename_i z hz;simp only[E_,Prod.mk.injEq]at e;obtain⟨rfl,rfl⟩:=e;obtain⟨u,h1,h2⟩:=U.get hz;have:N[i]?=some u:=by simpa using h1
    rw[L];exact⟨rfl,u,by simp[Instr.extract,this],h2⟩
   ·simp at e
  ·rename_i N F;rw[lW B C F];split at e
   ·rename_i z hz;simp only[E_,Prod.mk.injEq]at e;obtain⟨rfl,rfl⟩:=e;have:N[i]?=some z:=by simpa using hz
    exact⟨rfl,z,by simp[Instr.extract,this],z_⟩
   ·simp at e
  ·simp at e
 | nilCheck x=>
  simp only[gG,E_]at q;subst q;obtain⟨z,E,e,V⟩:=GZ s_ hw;have M:=dN B C x;have ak:z=dW G st.s x/\E=st.T/\∃ad,a.eval x=.pointer (some ad):=by
   simp only[cE]at e;split at e
   ·rename_i i o F;simp only[E_,Prod.mk.injEq]at e;rw[F]at M;simp only[Rp]at M;obtain⟨_,g,_,L⟩:=M;exact⟨by rw[F];exact e.1.symm,e.2.symm,_,L⟩
   ·rename_i i k j o F;simp only[E_,Prod.mk.injEq]at e;rw[F]at M;simp only[Rp]at M;obtain⟨_,g,_,_,_,L⟩:=M;exact⟨by rw[F];exact e.1.symm,e.2.symm,_,L⟩
   ·rename_i cs F;simp only[E_,Prod.mk.injEq]at e;rw[F]at M;simp only[Rp]at M;obtain⟨_,_,L,_⟩:=M;exact⟨by rw[F];exact e.1.symm,e.2.symm,_,L⟩
   ·simp at e
  obtain⟨rfl,rfl,ad,L⟩:=ak;unfold rL;have:execOp a.eval {dst:=dst,op:=.nilCheck x,type:=Z,pos:=pos,after:=after,guard:=guard}=pure (.value (a.eval x)):=by simp only[execOp,L]
  rw[this];simp only[Sem.run_pure];exact hn _ _ (tE hI M V)
 | makeFunc fn first R=>
  cases fn with
  | func f=>
   simp only[gG]at q;split at q
   ·rename_i h0;injection q with q;subst q;refine A (sv:=Instr.makeFunc (.func f) (first.map a.eval) (R.map a.eval)) rfl s_ λy E e=>?_;simp only[cE,E_,Prod.mk.injEq]at e;obtain⟨rfl,rfl⟩:=e;have Q:first=#[]:=QA h0
    subst Q;refine⟨rfl,.func (.func f) #[] (R.map a.eval),by simp[Instr.makeFunc],?_⟩;simp only[Rp];exact⟨_,rfl,by simpa using Mq B C R.toList⟩
   ·simp at q
  |_=>simp[gG]at q
 | call c=>
  obtain⟨callee,args,argTypes⟩:=c;simp only[gG]at q
  cases callee with
  | value f=>
   simp only[E_]at q;subst q;unfold yF at hw;simp only at hw;split at hw
   ·rename_i g R F;have Q:=V5 (dN B C f);rw[F]at Q;simp only[Rp]at Q;obtain⟨N,L,U⟩:=Q;have D:cC h φ st.T.length (args.toList.map (dW G st.s)++R) (args.map a.eval++N).toList:=by simpa using(Mq B C args.toList).app U
    unfold rL;have M:∀wx,(execOp a.eval {dst:=dst,op:=.call {callee:=.value f,args:=args,argTypes:=argTypes},type:=Z,pos:=pos,after:=after,guard:=guard}).run P wx=(callFunc g (args.map a.eval++N)).run P wx:=by intro wx;simp only[execOp,resolve,L,Deferred.ofValue,Sem.run_bind,Sem.run_pure,Result.andThen_ok,invoke,YG]
    rw[M];rcases Ei hw B hI D with⟨e1,c⟩|⟨v,S,e1,c⟩
    ·rw[e1];show Calls P g _ w _;exact c.mono λe S ⟨v,H,O⟩=>⟨v,H,hn v S O⟩
    ·rw[e1];exact hn v S c
   ·rename_i g k cs F;have Q:=V5 (dN B C f);rw[F]at Q;simp only[Rp]at Q;obtain⟨N,L,U⟩:=Q;have D:cC h φ st.T.length (cs.take k++args.toList.map (dW G st.s)++cs.drop k) ((N.toList.take k).toArray++args.map a.eval++(N.toList.drop k).toArray).toList:=by simpa using((U.take k).app (Mq B C args.toList)).app (U.drop k)
    unfold rL;have M:∀wx,(execOp a.eval {dst:=dst,op:=.call {callee:=.value f,args:=args,argTypes:=argTypes},type:=Z,pos:=pos,after:=after,guard:=guard}).run P wx=(callFunc g ((N.toList.take k).toArray++args.map a.eval++(N.toList.drop k).toArray)).run P wx:=by intro wx;simp only[execOp,resolve,L,Deferred.ofValue,Sem.run_bind,Sem.run_pure,Result.andThen_ok,invoke]
    rw[M];rcases Ei hw B hI D with⟨e1,c⟩|⟨v,S,e1,c⟩
    ·rw[e1];show Calls P g _ w _;exact c.mono λe S ⟨v,H,O⟩=>⟨v,H,hn v S O⟩
    ·rw[e1];exact hn v S c
   ·rename_i i F;have Q:=V5 (dN B C f);rw[F]at Q;simp only[Rp]at Q;obtain⟨av,L,l,hl⟩:=Q;have D:cC h φ st.T.length (args.toList.map (dW G st.s)) (args.map a.eval).toList:=by simpa using Mq B C args.toList
    obtain⟨f',aq,aw,ar,hy,U⟩:=hw h φ w (args.map a.eval) l B hI D (by rw[<-L,hl]);unfold rL;have M:(execOp a.eval {dst:=dst,op:=.call {callee:=.value f,args:=args,argTypes:=argTypes},type:=Z,pos:=pos,after:=after,guard:=guard}).run P w=(Instr.yield l (args.map a.eval)).run P w:=by simp only[execOp,resolve,hl,Deferred.ofValue,Sem.run_bind,Sem.run_pure,Result.andThen_ok,invoke,YG]
    rw[M,hy];exact U.mono λe S ⟨v,H,O⟩=>⟨v,H,hn v S O⟩
   ·exact hw.elim
  | builtin b=>
   cases b with
   | len=>
    simp only at q;split at q
    ·rename_i t x ac D;have ha:args=#[x]:=EY.1 (by rw[D]);subst ha;have ae:execOp a.eval {dst:=dst,op:=.call {callee:=.builtin .len,args:=#[x],argTypes:=argTypes},type:=Z,pos:=pos,after:=after,guard:=guard}=(do pure (.value (<-Builtin.len_ argTypes Z #[a.eval x]))):=K_;split at q
     ·rename_i I;injection q with q;subst q;exact A (sv:=Builtin.len_ argTypes Z #[a.eval x]) ae s_ λy E H=>Vy I B C ac H
     ·rename_i e I;injection q with q;subst q;exact A (sv:=Builtin.len_ argTypes Z #[a.eval x]) ae s_ λy E H=>Vz I B hI C ac H
     ·simp at q
    ·simp at q
   | append=>
    simp only at q;split at q
    ·rename_i t t' x y ac D;have ha:args=#[x,y]:=EY.1 (by rw[D]);subst ha;split at q
     ·simp at q
     ·rename_i al;have af:t'=t:=by simpa using al
      subst af;have ao:argTypes=#[t',t']:=EY.1 (by rw[ac]);subst ao;split at q
      ·rename_i e I;split at q
       ·rename_i i hi;split at q
        ·rename_i z hz;split at q
         ·rename_i X;injection q with q;subst q;have ae:execOp a.eval {dst:=dst,op:=.call {callee:=.builtin .append,args:=#[x,y],argTypes:=#[t',t']},type:=Z,pos:=pos,after:=after,guard:=guard}=(do pure (.value (<-Builtin.append_ #[t',t'] Z #[a.eval x,a.eval y]))):=K_;exact J (sv:=Builtin.append_ #[t',t'] Z #[a.eval x,a.eval y]) ae s_ λr E H=>Zv I hi hz X.1 X.2 B hI C H
         ·simp at q
        ·simp at q
       ·simp at q
      ·simp at q
    ·simp at q
   |_=>simp at q
  |invoke _ _=>simp at q
 |_=>simp[gG]at q
end
end Hud
