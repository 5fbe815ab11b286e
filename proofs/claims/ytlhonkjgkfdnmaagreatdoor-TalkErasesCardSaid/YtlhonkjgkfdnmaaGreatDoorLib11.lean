import Derived.Test.YtlhonkjgkfdnmaaGreatDoorLib10
set_option linter.all false
namespace Hud
open Go
def aN9{T:aK}{i:Nat}{o:AObj}(e:T[i]?=some (some o)):i<T.length:=by rcases eD i T.length with a|a;exact a;rw[sX a]at e;simp at e
def F2{w:World}{l:Nat}{o:Obj}(e:w.heap[l]?=some o):l<w.heap.size:=by rcases eD l w.heap.size with a|a;exact a;rw[Hz a]at e;simp at e
section
variable{h h' h2:GH}{φ φ' φ2:Nat->Value}{T T' X:aK}{w w' w3:World}{l:Nat}
def R1(hI:Inv h φ w T)(f:∀i x,T[i]?=some (some x)->kI (φ i)≠some l)(j:h l=none)(o:Obj):Inv h φ (w.putObj l o) T:=by refine⟨λb m e=>?_,λi x e=>?_,hI.dis⟩;obtain⟨E,k,d⟩:=hI.gh b m e;refine⟨E,k,?_⟩;rw[World.putObj_heap_other (λa=>by subst a;rw[j]at e;simp at e)];exact d;have h1:=hI.obj i x e;exact qN h1 (CA.refl h) (cN _) (λ_ _=>rfl) (aN9 e) λg a=>⟨World.putObj_heap_other λc=>f i x e (c ▸ a),(iT h1 a).2⟩
def aF5(a:Evo h φ T w h' φ' T' w')(o:Obj):Evo h φ T (w.putObj l o) h' φ' T' (w'.putObj l o):=by refine⟨a.os,a.tape,a.output,by simpa using a.size,λb d f=>?_,a.le,λb g e=>?_,a.phi,λi o b e d=>?_,a.len,a.drawn⟩;rw[World.putObj_size]at d;by_cases c:b=l;subst c;rw[World.putObj_heap_same d,World.putObj_heap_same (CV d a.size)];rw[World.putObj_heap_other c,World.putObj_heap_other c];exact a.frame b d f;rw[World.putObj_size];exact a.gfr b g e;rw[World.putObj_size];exact a.org i o b e d
def aCq(hI:Inv h φ w T){i:Nat}{r:Loop}{s:List (Nat×AV)}(a:cR T i=some (.lp r s)):
 ∃l:Nat,φ i=.func (.yield l) #[] #[]/\w.heap[l]?=some (.loop r)/\h l=none/\(∀i x y,(i,x)∈s->(i,y)∈s->x=y)/\∀p∈s,Rp h φ T.length p.2 (r.tmps.getD p.1 undef):=hI.obj i _ (bH a)
def aCr(hI:Inv h φ w T){i:Nat}{r:Loop}{s:List (Nat×AV)}(d:cR T i=some (.lp r s))(a:φ i=.func (.yield l) #[] #[]):∀j x,(T.set i none)[j]?=some (some x)->kI (φ j)≠some l:=by
 intro j x e f;rcases oM e with⟨_,c⟩|⟨b,c⟩
 simp at c;exact b (hI.dis j i x _ l c (bH d) f (by rw[a];rfl))
def R2(hI:Inv h φ w T){i:Nat}{r:Loop}{s:List (Nat×AV)}(E:cR T i=some (.lp r s))(g:φ i=.func (.yield l) #[] #[]){R:Obj}
 (a:Evo h φ (T.set i none) (w.putObj l R) h2 φ2 X w3) (Q:Inv h2 φ2 w3 X) (y:Loop) (S:y.tmps=r.tmps):
 Evo h φ T w h2 φ2 (X.set i (some (.lp y s))) (w3.putObj l (.loop y))/\Inv h2 φ2 (w3.putObj l (.loop y)) (X.set i (some (.lp y s))):=by
 obtain⟨l',z,e2,e3,e4,Z⟩:=aCq hI E;rw[g]at z;injection z with z _ _;cases z;have V:l<w.heap.size:=F2 e2;have D:=YR E;have u:=aCr hI E g;have v:T.length<=X.length:=by have:=a.len;rwa[cL]at this
 have C:l<w3.heap.size:=by have:=a.size;rw[World.putObj_size]at this;omega
 have d:φ2 i=.func (.yield l) #[] #[]:=by rw[a.phi i (by rw[cL];exact D)];exact g
 have J:∀j x b,(T.set i none)[j]?=some (some x)->kI (φ j)=some b->∃j o,T[j]?=some (some o)/\kI (φ j)=some b:=by
  intro j x b e t;rcases oM e with⟨_,n⟩|⟨_,n⟩
  simp at n;exact⟨j,x,n,t⟩
 have f:∀j o,X[j]?=some (some o)->kI (φ2 j)≠some l:=by
  intro j o e t;rcases a.org j o l e t with h1|⟨B,A,h1,h2⟩
  rw[World.putObj_size]at h1;omega;exact u B A h1 h2
 have F:h2 l=none:=by
  cases W:h2 l with
  |none=>rfl|some M=>
   rcases a.gfr l M W with h1|h1|⟨j,o,h1,h2⟩
   rw[e3]at h1;simp at h1;rw[World.putObj_size]at h1;omega;exact absurd h2 (u j o h1)
 have G:=R1 Q f F (.loop y);refine⟨⟨a.os,a.tape,a.output,by have:=a.size;simpa using this,λb t P=>?_,a.le,λb M e=>?_,λj K=>a.phi j (by rw[cL];exact K),λj o b e t=>?_,by rw[cL];exact v,a.drawn⟩,⟨G.gh,λj o e=>?_,λj k O N b L Y c m=>?_⟩⟩;have q:b≠l:=λq=>P i _ (bH E) (by rw[g,q];rfl);rw[World.putObj_heap_other q,a.frame b (by rw[World.putObj_size];exact t) λj o L c=>?_,World.putObj_heap_other q];obtain⟨B,A,h1,h2⟩:=J j o b L c;exact P B A h1 h2;rcases a.gfr b M e with h1|h1|⟨j,o,h1,h2⟩
 exact .inl h1;rw[World.putObj_size]at h1;exact .inr (.inl h1);exact .inr (.inr (J j o b h1 h2));rcases oM e with⟨rfl,_⟩|⟨_,n⟩
 rw[d]at t;exact .inr ⟨j,_,bH E,by rw[g];exact t⟩;rcases a.org j o b n t with h1|⟨B,A,h1,h2⟩
 rw[World.putObj_size]at h1;exact .inl h1;exact .inr (J B A b h1 h2);rw[cL];rcases oM e with⟨rfl,n⟩|⟨_,n⟩
 cases n;refine⟨l,d,World.putObj_heap_same C,F,e4,λp U=>?_⟩;rw[S];exact(Z p U).mono a.le v λj K=>a.phi j (by rw[cL];exact K);exact G.obj j o n;rcases oM L with⟨rfl,_⟩|⟨_,I⟩<;>rcases oM Y with⟨rfl,_⟩|⟨_,H⟩
 rfl;rw[d]at c;simp only[kI,E_]at c;subst c;exact absurd m (f k N H);rw[d]at m;simp only[kI,E_]at m;subst m;exact absurd c (f j O I);exact Q.dis j k O N b I H c m
def NT{d:V_}{q:Nat×AV}:∀{s:List (Nat×AV)},q∈Gr d s->q∈s|[],h=>by simp[Gr]at h| (i,x)::s,h=>by simp only[Gr]at h;split at h;rcases cS.1 h with h|h;simp[h];simp[NT h];simp[NT h]
def WN{n:Nat}{s:List (Nat×AV)}{t:Array Value}(a:∀p∈s,Rp h φ n p.2 (t.getD p.1 undef)):uN h φ n s ⟨t,[]⟩:=by intro i;rcases Rw (l:=s) (i:=i) with e|e;rw[e];simp[Rp];exact a _ e
def Qi{n:Nat}:∀{ps:V_}{xs:O_}{us:C_}{s:List (Nat×AV)}{t:Array Value},uN h φ n s ⟨t,[]⟩->Jc s->cC h φ n xs us->xs.length=ps.length->(∀p∈ps,p<t.size) ->
 uN h φ n (yJ s ps xs) ⟨(ps.zip us).foldl (λt(p,u)=>t.setIfInBounds p u) t,[]⟩/\Jc (yJ s ps xs)/\((ps.zip us).foldl (λt(p,u)=>t.setIfInBounds p u) t).size=t.size
 |[],[],us,s,t,a,c,b,_,_=>by simpa[yJ]using⟨a,c⟩|[],x::xs,us,s,t,a,c,b,d,_=>by simp at d|p::ps,[],us,s,t,a,c,b,d,_=>by simp at d|p::ps,x::xs,us,s,t,a,c,b,d,g=>by simp only[cC]at b;obtain⟨u,i,rfl,h1,h2⟩:=b;have e:=IT (o:=some p) a h1 (λj f=>by cases f;exact g p s_);have:=Qi (t:=t.setIfInBounds p u) (s:=GW s p x) e (NF c p x) h2 ke (λq k=>by rw[aBU];exact g q (by simp[k]));simpa only[yJ,List.zip_cons_cons,CW,aBU]using this
end
def IY(L:V_):V_->V_|[]=>L|i::r=>if L.contains i then IY L r else IY (i::L) r
def LI(L d:V_):V_:=L.filter λi=>!d.contains i
def R3(b:Array Oper):List Oper->V_->V_->V_->V_×V_×V_
 |[],e,w,a=>(e,w,a)
 |o::f,e,w,a=>
  let g:=match o.guard with|some (j,_)=>(match(b[j]?).bind (·.dst) with|some d=>[d]|none=>[])|none=>[]
  let c:=LI (g++o.op.operands.toList.flatMap bG) w
  match o.dst with
  |some d=>R3 b f (IY e c) (d::w) (d::a)
  |none=>R3 b f (IY e c) w a
def atE:List (Nat×V_)->Nat->V_|[],_=>[]|(i,x)::r,j=>if i=j then x else atE r j
def qQ(ex:List (Nat×V_))(d:V_):Code->V_->V_
 |.region _ e _,out=>let u:=R3 e e.toList [] [] [];IY u.1 (LI out u.2.1)|.seq a b,out=>qQ ex d a (qQ ex d b out)|.cond c a b,out=>IY (IY (bG c) (qQ ex d a out)) (qQ ex d b out)|.block i a,out=>qQ ((i,out)::ex) d a out|.loop a,_=>qQ ex d a []|.exit i,_=>atE ex i|.ret,_=>d|.scope a,out=>qQ ex d a out|.rangeFunc g ps a b,out=>
  let f:=ex.map λp=>(p.1,([]:V_))
  IY (IY (IY (bG g) (LI (qQ f [] a (qQ f [] b [])) ps.toList)) out) (IY d (ex.flatMap (·.2)))
 |_,out=>out
def Yl(d:V_)(h:HC):HC:=match d with|[]=>h|d=>.seq h (.kill d)
def Ym(d:V_)(h:HC):HC:=match d with|[]=>h|d=>.seq (.kill d) h
def aA9(a:V_):List (Nat×Option Nat×Nat)->HC->HC|[],h=>h|(j,c,k)::r,h=>aA9 a r (if a.contains j&&decide (k<1000) then .seq h (match k with|0=>.shut (c.getD j)|k=>.own j c k) else h)
def aHo(H:List (Nat×Option Nat×Nat)):Option Nat->Option Nat|none=>none|some d=>match H.find? λx=>x.1==d&&x.2.2==1000 with|some x=>some (x.2.1.getD d)|none=>none
def aCs(H:List (Nat×Option Nat×Nat)):List HOper->List HOper->HC|a,[]=>.reg a|a,o::b=>match aHo H o.dst with|some j=>.seq (.seq (.reg (a++[o])) (.shut j)) (aCs H [] b)|none=>aCs H (a++[o]) b
def cV(P:Program)(N:Nat)(H:List (Nat×Option Nat×Nat)):Code->List (Nat×V_)->V_->V_->Option HC
 |.skip,_,_,_=>some .skip|.region id f q,ex,e,out=>
  let u:=R3 f f.toList [] [] []
  let k:=LI (IY u.2.2 (qQ ex e (.region id f q) out)) out
  if q then(if P.follows .mixedOrders then(IW P N H f).map λd=>aA9 (LI u.2.2 k) H (Yl k (.regd d)) else none)
  else(gH P N f f.toList).map λl=>aA9 (LI u.2.2 k) H (Yl k (aCs H [] l))
 |.seq a b,ex,e,out=>match cV P N H a ex e (qQ ex e b out),cV P N H b ex e out with|some x,some y=>some (.seq x y)|_,_=>none
 |.cond c a b,ex,e,out=>
  let o:=qQ ex e a out
  let n:=qQ ex e b out
  let m:=IY (IY (bG c) o) n
  match cV P N H a ex e out,cV P N H b ex e out with
  |some x,some y=>some (.cond c (Ym (LI m o) x) (Ym (LI m n) y))|_,_=>none
 |.block i a,ex,e,out=>(cV P N H a ((i,out)::ex) e out).map λh=>aA9 [1000000+i] H (.block i h)|.loop a,ex,e,_=>(cV P N H a ex e (qQ ex e a [])).map (.loop [])|.exit i,_,_,_=>some (.exit i)|.ret,_,_,_=>some .ret|.scope a,ex,e,out=>cV P N H a ex e out|.label _,_,_,_=>some .skip|.rangeFunc g ps a b,ex,_,_=>
  let j:=ex.map λp=>(p.1,([]:V_))
  match cV P N H a j [] (qQ j [] b []),cV P N H b j [] []with
  |some x,some y=>if ps.toList.all (· < N) then some (.rng g ps.toList (LI (qQ j [] a (qQ j [] b [])) ps.toList) x y) else none|_,_=>none
 |_,_,_,_=>none
structure HFun where
 nt:Nat
 res:List (Nat×Option (Option Nat))
 code:HC
 deriving Inhabited
def NU(P:Program):List ResultVar->Option (List (Nat×Option (Option Nat)))|[]=>some []|.tmp t::r=>(NU P r).map ((t,none)::·)|.cell a t::r=>match GY P t with|some n=>(NU P r).map ((a,some n)::·)|none=>none
def tF (P:Program) (f:FuncId) (H:List (Nat×Option Nat×Nat)):Option HFun :=
 match P.funcs[f]? with
 |none=>none| some a=>if a.name == "runtime.NumGoroutine" then none else match a.body,NU P a.results.toList with
  | some c,some d=>let b:=d.map (·.1)
   (cV P a.ntmps H c [] b b).map λh=>⟨a.ntmps,d,Ym (LI (List.range (a.params.size+a.nfree)) (qQ [] b c b)) h⟩
  |_,_=>none
section
variable{P:Program}{G:L_}{N:Nat}{H:List (Nat×Option Nat×Nat)}{h0:GH}{φ0:Nat->Value}{T0:aK}{w0:World}{a:Act}{w:World}
def exQ(Q:Ex->St->Prop):Exit->St->Prop|.normal,s=>Q .normal s|.exit i,s=>Q (.exit i) s|.ret,s=>Q .ret s|_,_=>False
def T9{p:Nat->Prop}(h:∃n,p n):∃n,p n/\∀m,m<n->¬p m:=by
 obtain⟨n,d⟩:=h
 induction n using Nat.strongRecOn with
 |_ n ih=>
  by_cases c:∃m,m<n/\p m;obtain⟨m,b,a⟩:=c;exact ih m b a;exact⟨n,d,λm b a=>c ⟨m,b,a⟩⟩
def SInv.kill{st:St}(p:SInv P G N h0 φ0 T0 w0 st a w)(d:V_):SInv P G N h0 φ0 T0 w0 ⟨st.r,mV d st.s,st.T⟩ a w:=by obtain⟨n,b,⟨h,j,q,t,hI,g⟩,c,f⟩:=p;have o:Jc (mV d st.s):=λi x y m k=>b i x y (IQ m) (IQ k);refine⟨n,o,⟨h,j,q,t,hI,λi=>?_⟩,c,f⟩;show Rp h j st.T.length (bA (mV d st.s) i) _;rcases Rw (l:=mV d st.s) (i:=i) with e|e;rw[e];simp[Rp];rw[<-NE b (IQ e)];exact g i
def aAa{d:V_}{c:HC}{Q:Ex->St->Prop}{st:St}(h:fZ P G (Yl d c) Q st):∃R:Ex->St->Prop,fZ P G c R st/\∀s,R .normal s->Q .normal s\/Q .normal ⟨s.r,mV d s.s,s.T⟩:=by
 cases d with
 |nil=>exact⟨Q,h,λs a=>.inl a⟩|cons i d=>exact⟨_,h,λs a=>.inr a⟩
def Ji {ro:Option Nat} {b:Array Oper} {Q:Exit->Act->World->Prop} {K:Ex->St->Prop}:∀{os acc:List HOper}{l1 l2:List Oper}{st:St}{a:Act}{w:World},gH P N b l1=some acc->gH P N b l2=some os->fZ P G (aCs H acc os) K st->SInv P G N h0 φ0 T0 w0 st a w ->
 (∀d l h,K .normal d->SInv P G N h0 φ0 T0 w0 d l h->Q .normal l h)->wpListIn (fe ro) 0 P b Q (l1++l2) a w
 |[],acc,l1,[],st,a,w,h1,h2,c,g,f=>by rw[jO];exact aA7 h1 c g f|[],acc,l1,o::l2,st,a,w,h1,h2,c,g,f=>by obtain⟨x,y,_,_,e⟩:=IV h2;simp at e
 |o::os,acc,l1,[],st,a,w,h1,h2,c,g,f=>by simp[gH]at h2|o::os,acc,l1,i::l2,st,a,w,h1,h2,c,g,f=>by
  obtain⟨x,y,r,m,e⟩:=IV h2;cases e;have h3:gH P N b (l1++[i])=some (acc++[o]):=Ks h1 (by simp[gH,r]);have p:l1++i::l2=(l1++[i])++l2:=s_;rw[p];simp only[aCs]at c;split at c;rename_i j s;simp only[fZ]at c;exact DJ h3 c g λd l h n k=>by have:=Ji (ro:=ro) (l1:=[]) (acc:=[]) rfl m n (k.shut j) f;simpa using this
  exact Ji (ro:=ro) h3 m c g f
def WO{d:V_}{l:HD}{Q:Ex->St->Prop}{st:St}(h:fZ P G (Yl d (.regd l)) Q st):
 ∃K:St->Prop,JV P G l st K/\∀s,K s->Q .normal s\/Q .normal ⟨s.r,mV d s.s,s.T⟩:=by
 cases d with
 |nil=>exact⟨Q .normal,h,λs a=>.inl a⟩|cons i d=>exact⟨_,h,λs a=>.inr a⟩
def R4{d:V_}{c:HC}{Q:Ex->St->Prop}{st:St}(h:fZ P G (Ym d c) Q st):fZ P G c Q st\/fZ P G c Q ⟨st.r,mV d st.s,st.T⟩:=by
 cases d with
 |nil=>exact .inl h|cons i d=>exact .inr h
def SInv.own {st:St} (t:SInv P G N h0 φ0 T0 w0 st a w) (j:Nat) (c:Option Nat) (k:Nat):SInv P G N h0 φ0 T0 w0 (QT st j c k) a w:=by
 have x:∀{h:GH}{φ:Nat->Value},Inv h φ w st.T->Evo h0 φ0 T0 w0 h φ st.T w ->
   Inv h (upd φ st.T.length (.slice none 0 0)) w (st.T++[some (.arr k [])])/\Evo h0 φ0 T0 w0 h (upd φ st.T.length (.slice none 0 0)) (st.T++[some (.arr k [])]) w:=by
  intro h φ hI y;have:=tL (w':=w) (o:=.arr k []) (v:=.slice none 0 0) hI rfl rfl rfl (cN _) (λ_ _=>rfl) (λg J=>by simp[kI]at J) ⟨s_,.inl ⟨none,bI,rfl⟩⟩;exact⟨this.1,y.trans this.2⟩
 cases c with
 | none=>
  simp only[QT];split;rename_i L;obtain⟨F,b,⟨h,φ,K,y,hI,f⟩,q,s⟩:=t;obtain⟨z,C⟩:=x hI y;have d:=f j;rw[L]at d;simp only[Rp]at d;refine⟨F,NF b _ _,⟨h,_,K,C,z,λi=>?_⟩,q,s⟩;rw[IP];split;rename_i e;subst e;simp only[Rp];exact⟨s_,by rw[d,bI],none,0,0,d⟩;exact(f i).mono (CA.refl h) s_ (λi I=>gN I);exact t
 | some c=>
  simp only[QT];split;rename_i i o L;split;rename_i O J;split;rename_i Q;obtain⟨F,b,⟨h,φ,K,y,hI,f⟩,q,s⟩:=t;obtain⟨z,C⟩:=x hI y;have r:=bH J;have H:i<st.T.length:=by rcases eD i st.T.length with A|A;exact A;rw[sX A]at r;simp at r
  have n:(st.T++[some (.arr k [])])[i]?=some (some (.box O)):=by rw[mY H];exact r
  obtain⟨g,B,E,U,S,R,M⟩:=z.obj i _ n
  have l:=Fw (w':=w) (o':=.box (O.set c (.own st.T.length))) z rfl rfl rfl (cN _) n (λ_ _ _=>rfl) (by
   refine⟨g,B,E,U,S,R,?_⟩;obtain⟨u,D,p⟩:=M.get Q;simp only[Rp]at p
   have:=M.set (m:=c) (c:=.own st.T.length) (u:=u) (by
    simp only[Rp]
    exact⟨s_,by rw[p,bI],none,0,0,p⟩)
   rwa[show B.toList.set c u=B.toList from by
    apply EW;intro m;rw[Hx];split;rename_i e;subst e;split;exact D.symm;rename_i A;rw[sX o_]
    rfl]at this)
  refine⟨F,b,⟨h,_,K,C.trans l.2,l.1,λi=>?_⟩,q,s⟩;exact(f i).mono (CA.refl h) s_ (λi I=>gN I);exact t;exact t;exact t
def R5 {l:V_}:∀{H:List (Nat×Option Nat×Nat)}{c:HC}{Q:Ex->St->Prop}{st:St},fZ P G (aA9 l H c) Q st->∃R:Ex->St->Prop,fZ P G c R st /\
 (∀s,R .normal s->∀(a:Act)(w:World),SInv P G N h0 φ0 T0 w0 s a w->∃g,Q .normal g/\SInv P G N h0 φ0 T0 w0 g a w)/\(∀i s,R (.exit i) s->Q (.exit i) s)/\(∀s,R .ret s->Q .ret s)
 |[],c,Q,st,h=>⟨Q,h,λs b a w e=>⟨s,b,e⟩,λ_ _ h=>h,λ_ h=>h⟩| (j,d,k)::r,c,Q,st,h=>by
  simp only[aA9]at h;obtain⟨R,h1,h2,h3,f⟩:=R5 h;split at h1
  cases k with
  |zero=>
   simp only[fZ]at h1;exact⟨_,h1,λs b a w e=>h2 _ b a w (e.shut _),λi s b=>h3 i s b,λs b=>f s b⟩
  |succ k=>
   simp only[fZ]at h1;exact⟨_,h1,λs b a w e=>h2 _ b a w (e.own j d (k+1)),λi s b=>h3 i s b,λs b=>f s b⟩
  exact⟨R,h1,h2,h3,f⟩
def rM{b:Frame}{x:Code}{k:List Item}{cs:List Frame}:step P (lone (b.atR a (.code (.scope x)::k)) cs w)=.next (lone (b.atR a (.code x::.inScope x::k)) cs w):=
 step_lone_go (by simp[stepG,stepG.exec,Frame.atR])
def NV{b:Frame}{x:Code}{k:List Item}{cs:List Frame}:step P (lone (b.atR a (.inScope x::k)) cs w)=.next (lone (b.atR a k) cs w):=
 step_lone_go (by simp[stepG,stepG.exec,Frame.atR])
def UA{F:Fence}{n:Nat}{c:Code}{Q:Exit->Act->World->Prop}(h:c.wpIn F n P Q a w)(u:∀l a w,¬Q (.goto l) a w):(Code.scope c).wpIn F n P Q a w:=by
 intro b k cs m r p;have h0:(lone (b.atR a (.code (.scope c)::k)) cs w).fenced P F:=fenced_calm r p rfl;obtain⟨e,g,d,i,f⟩:=h b (.inScope c::k) cs m r p
 cases e with
 |normal=>exact⟨.normal,g,d,i,.head h0 rM (StepsIn.trans f (.one (fenced_calm r p rfl) NV))⟩| exit id=>
  have s:exitTo id (.inScope c::k)=exitTo id k:=by simp[exitTo]
  exact⟨.exit id,g,d,i,λt q=>.head h0 rM (f.1 t (by rw[s];exact q)),
   λo q=>let⟨j,h1,h2⟩:=f.2 o (by rw[s];exact q);⟨j,h1,.head h0 rM h2⟩⟩
 |goto l=>exact absurd i (u l g d)|ret=>exact⟨_,g,d,i,.of_steps (.one h0 rM) f⟩|panic v=>exact⟨_,g,d,i,.of_steps (.one h0 rM) f⟩|outgrown=>exact⟨_,g,d,i,.of_steps (b:=b) (k:=k) (cs:=cs) (e:=.outgrown) (.one h0 rM) f⟩
def aF6(ro:Option Nat)(φ0:Nat->Value)(T0:aK)(w0:World):Prop:=∀l,ro=some l->(∃r,w0.heap[l]?=some (.loop r))/\∀i o,T0[i]?=some (some o)->kI (φ0 i)≠some l
def Jj(P:Program)(G:L_)(N:Nat)(H:List (Nat×Option Nat×Nat))(c:Code):Prop :=
 ∀{ro:Option Nat}{h0:GH}{φ0:Nat->Value}{T0:aK}{w0:World}{d:HC}{Q:Ex->St->Prop}{st:St}{a:Act}{w:World}{ex:List (Nat×V_)}{g out:V_},aF6 ro φ0 T0 w0->cV P N H c ex g out=some d->fZ P G d Q st->SInv P G N h0 φ0 T0 w0 st a w ->
  c.wpIn (fe ro) 0 P (λe h f=>∃b,exQ Q e b/\SInv P G N h0 φ0 T0 w0 b h f) a w
def UB {ca cb:Code} (ab:Jj P G N H ca) (aa:Jj P G N H cb) {ha hb:HC} {ps:V_} {Z:List (Nat×V_)} {ra oa q ob:V_} (ea:cV P N H ca Z ra oa=some ha) (eb:cV P N H cb Z q ob=some hb)
 (ae:∀p∈ps,p<N) {r:Loop} (r1:r.state=.ready) (r2:r.pending=none) (r3:r.params.toList=ps) (r4:r.assign=ca) (r5:r.body=cb) (r6:N<=r.tmps.size)
 (i:Nat) (s:List (Nat×AV)) (T:aK) (args:O_) (post:AV->aK->Prop) (E:cR T i=some (.lp r s)) (hl:args.length=ps.length)
 (hw:fZ P G ha (λe s1=>match e with|.normal=>fZ P G hb (JZ i r s T.length post) s1|_=>False) ⟨T.length,yJ s ps args,T.set i none⟩):DA P G i args T post:=by
 intro h φ W g l hG hI hA v;obtain⟨l',I,e2,e3,e4,e5⟩:=aCq hI E;rw[v]at I;injection I with I _ _;cases I;have y:=F2 e2;have ak:=hA.length;have U:r.params.size=ps.length:=by rw[<-r3,GV]
 have c:=aCr hI E v;have al:=YR E;refine⟨_,_,_,_,run_yield e2 (by rw[U,<-hl,ak,GV]),?_⟩;obtain⟨p1,p2,p3⟩:=Qi (h:=h) (φ:=φ) (n:=T.length) (ps:=ps) (xs:=args) (us:=g.toList) (s:=s) (t:=r.tmps) (WN e5) e4 hA hl (λp hp=>CV (ae p hp) r6);have B:(r.params.zip g).foldl (λO(x:Tmp×Value)=>O.setIfInBounds x.1 x.2) r.tmps=(ps.zip g.toList).foldl (λt(p,u)=>t.setIfInBounds p u) r.tmps:=by rw[<-Array.foldl_toList,Array.toList_zip,r3]
 rw[B];revert p1 p2 p3;generalize(ps.zip g.toList).foldl (λt(p,u)=>t.setIfInBounds p u) r.tmps=tm;intro p1 p2 p3;obtain⟨d1,d2⟩:=xI hI i
 have aj:SInv P G N h φ (T.set i none) W ⟨T.length,yJ s ps args,T.set i none⟩ ⟨tm,[]⟩ W :=
  ⟨s_,p2,⟨h,φ,hG,Evo.refl,d1,by simpa using p1⟩,by rw[p3];exact r6,gu⟩
 have ac:aF6 (some l) φ (T.set i none) W:=by intro l2 h2;cases h2;exact⟨⟨r,e2⟩,c⟩
 rw[r4,r5];refine roundIn_of_wpIn (F:=Fence.wide) trivial (wpIn_mono (ab (ro:=some l) ac ea hw aj) ?_);rintro e a1 w1 ⟨Q,z,Y⟩
 cases e with
 | normal=>
  simp only[exQ]at z;have V:w1.heap[l]?=some (.loop r):=by obtain⟨_,_,⟨_,_,_,hE,_,_⟩,_,_⟩:=Y;rw[hE.frame l y c];exact e2
  refine⟨_,run_beginRound V r1,?_⟩;let q:Loop:={r with state:=.busy}
  have ai:SInv P G N h φ (T.set i none) (W.putObj l (.loop q)) Q a1 (w1.putObj l (.loop q)):=by
   obtain⟨q1,q2,⟨h1,m,q3,C,q5,q6⟩,q7,q8⟩:=Y;have R:∀j o,Q.T[j]?=some (some o)->kI (m j)≠some l:=by
    intro j o e hb;rcases C.org j o l e hb with h1|⟨j',o',h1,h2⟩
    omega;exact c j' o' h1 h2
   have af:h1 l=none:=by
    cases hh:h1 l with
    |none=>rfl|some cs=>
     rcases C.gfr l cs hh with h1|h1|⟨j,o,h1,h2⟩
     rw[e3]at h1;simp at h1;omega;exact absurd h2 (c j o h1)
   refine⟨q1,q2,⟨h1,m,q3,aF5 C _,R1 q5 R af _,q6⟩,q7,q8.1,λd hd=>?_⟩;obtain⟨D,f1,f2,f3⟩:=q8.2 d hd;refine⟨D,f1,by simpa using f2,?_⟩;rw[World.putObj_heap_other (λhD=>by subst hD;rw[V]at f3;simp at f3)];exact f3
  have S:aF6 (some l) φ (T.set i none) (W.putObj l (.loop q)):=by intro l2 h2;cases h2;exact⟨⟨q,World.putObj_heap_same y⟩,c⟩
  apply wpIn_mono (aa (ro:=some l) S eb z ai);rintro e a3 w3 ⟨k,a,X⟩;have A:w3.heap[l]?=some (.loop q):=by obtain⟨_,_,⟨_,_,_,hE,_,_⟩,_,_⟩:=X;rw[hE.frame l (by rw[World.putObj_size];exact y) c];exact World.putObj_heap_same y
  have hX:∀w:Bool,∃h2 f,Evo h φ (T.set i none) (W.putObj l (.loop q)) h2 f (if w then(DB [] ⟨T.length,[],k.T⟩).T else k.T) w3/\Inv h2 f w3 (if w then(DB [] ⟨T.length,[],k.T⟩).T else k.T):=by
   intro w;obtain⟨q1,q2,⟨h1,m,q3,C,q5,q6⟩,q7,q8⟩:=X
   cases w with
   |false=>exact⟨h1,m,C,q5⟩|true=>
    have ah:SInv P G 0 h φ (T.set i none) (W.putObj l (.loop q)) ⟨T.length,[],k.T⟩ ⟨#[],[]⟩ w3:=⟨s_,λ_ _ _ hx=>by simp at hx,⟨h1,m,q3,C,q5,λ_=>by simp[bA,Rp]⟩,pR _,gu⟩
    obtain⟨_,_,⟨h4,φ4,_,g1,g2,_⟩,_,_⟩:=Ep (st:=⟨T.length,[],k.T⟩) [] ah;exact⟨h4,φ4,g1,g2⟩
  cases e with
  | normal=>
   simp only[exQ,JZ]at a;obtain⟨w,a⟩:=a;obtain⟨h2,f,M,L⟩:=hX w;have b:=run_endRound (P:=P) none A;have ad:({q with state:=if(none:Option Code).isNone then .ready else .done,pending:=none}:Loop)=r:=by cases r;simp_all[q]
   rw[ad]at b;refine⟨_,_,b,_,rfl,_,_,h2,f,a,?_⟩;obtain⟨K,J⟩:=R2 hI E v M L r rfl;exact⟨K,J,z_⟩
  |exit id=>
   simp only[exQ,JZ]at a;obtain⟨w,a⟩:=a;obtain⟨h2,f,M,L⟩:=hX w;have b:=run_endRound (P:=P) (some (.exit id)) A;refine⟨_,_,b,_,rfl,_,_,h2,f,a,?_⟩;obtain⟨K,J⟩:=R2 hI E v M L (left r (.exit id)) rfl;exact⟨K,J,z_⟩
  |ret=>
   simp only[exQ,JZ]at a;obtain⟨w,a⟩:=a;obtain⟨h2,f,M,L⟩:=hX w;have b:=run_endRound (P:=P) (some .ret) A;refine⟨_,_,b,_,rfl,_,_,h2,f,a,?_⟩;obtain⟨K,J⟩:=R2 hI E v M L (left r .ret) rfl;exact⟨K,J,z_⟩
  |_=>exact a.elim
 |exit id=>exact z.elim|goto id=>exact z.elim|ret=>exact z.elim|panic id=>exact z.elim|outgrown=>exact z.elim
def IZ{f:FuncId}(b:Rl P f)(a:Array Value)(w:World):(callFunc f a).run P w=.ok (.enter f a) w:=by obtain⟨d,c,h1,h2,h3⟩:=b;simp[callFunc,h1,h3,h2]
def UC {ca cb:Code} (iha:Jj P G N H ca) (ihb:Jj P G N H cb) {g:Operand} {params:Array Tmp}:Jj P G N H (.rangeFunc g params ca cb):=by
 intro ro h0 φ0 T0 w0 hc Q st a w exs rt out hroo e hw hS;simp only[cV]at e;split at e
 ·rename_i ha hb ea eb;split at e
  ·rename_i hall;injection e with e;subst e;simp only[fZ]at hw;have hps:∀p∈params.toList,p<N:=λp hp=>by simpa using oD.1 hall p hp
   obtain⟨hr,honce,⟨h,φ,hG,hE,hI,hSl⟩,hsz,hdf⟩:=hS;apply wpIn_rangeFunc;intro fn _;rw[T4];have hent:∃(l:Nat)(mark:List Deferred)(w1:World)(df:Nat),(Instr.enterLoop fn a.tmps params ca cb ro).run P w=.ok (l,mark) w1/\w.heap.size<=l/\w1.os=w.os/\w1.tape=w.tape/\w1.output=w.output/\w1.drawn=w.drawn/\w.heap.size<=w1.heap.size /\
     (∀b,b<w.heap.size->w1.heap[b]?=w.heap[b]?)/\w1.heap[l]?=some (.loop {state:=.ready,pending:=none,fn,tmps:=a.tmps,params,assign:=ca,body:=cb,defers:=df}) /\
     (mark=[]\/∃D,mark=[{target:=.collected D,args:=#[]}]/\w.heap.size<=D/\w1.heap[D]?=some (.deferred (some []))):=by
    cases ro with
    |none=>
     refine⟨_,_,_,w.heap.size,run_enterLoop_outer fn a.tmps params ca cb,o_,rfl,rfl,rfl,rfl,by simp only[World.size_alloc];omega,λb hb=>?_,?_,.inr ⟨_,rfl,cN _,?_⟩⟩;rw[kX _ _ b c_,kX _ _ b hb];have:=World.alloc_heap_new (w.alloc (.deferred (some []))) (.loop {state:=.ready,pending:=none,fn,tmps:=a.tmps,params,assign:=ca,body:=cb,defers:=w.heap.size});rwa[World.size_alloc]at this;rw[kX _ _ _ s_];exact World.alloc_heap_new w _
    | some l0=>
     obtain⟨⟨r0,e0⟩,hoff0⟩:=hroo l0 rfl;have hl0:w.heap[l0]?=some (.loop r0):=by rw[hE.frame l0 (F2 e0) hoff0];exact e0
     refine⟨w.heap.size,[],w.alloc (.loop {state:=.ready,pending:=none,fn,tmps:=a.tmps,params,assign:=ca,body:=cb,defers:=r0.defers}),r0.defers,?_,cN _,rfl,rfl,rfl,rfl,s_,λb hb=>kX _ _ b hb,World.alloc_heap_new w _,.inl rfl⟩;unfold Instr.enterLoop;simp only[Sem.run_bind,run_getLoop hl0,Result.andThen_ok,Sem.run_pure,run_newObj_alloc]
   obtain⟨l,mark,w1,df,n1,n2,n3,n4,n5,n6,n7,n8,n9,n10⟩:=hent;revert n1 n9;generalize hrec:({state:=.ready,pending:=none,fn,tmps:=a.tmps,params,assign:=ca,body:=cb,defers:=df}:Loop)=r;intro n1 n9;have r1:r.state=.ready:=by rw[<-hrec]
   have r2:r.pending=none:=by rw[<-hrec]
   have r3:r.params=params:=by rw[<-hrec]
   have r4:r.assign=ca:=by rw[<-hrec]
   have r5:r.body=cb:=by rw[<-hrec]
   have r6:r.tmps=a.tmps:=by rw[<-hrec]
   have hw:=hw r r1 r2 (by rw[r3,GV]) (λi s T args post hi hl hcw=>UB iha ihb ea eb hps r1 r2 (by rw[r3]) r4 r5 (by rw[r6];exact hsz) i s T args post hi hl hcw);split at hw
   ·rename_i f caps hev;obtain⟨hgb,hw⟩:=hw;have hf:=dN hG hSl g;rw[hev]at hf;simp only[Rp]at hf;obtain⟨us,hu,hcs⟩:=hf;have hk:∀q∈Gr (LI (qQ (exs.map λp=>(p.1,([]:V_))) [] ca (qQ (exs.map λp=>(p.1,([]:V_))) [] cb [])) params.toList) st.s,q∈st.s:=λq hq=>NT hq;revert hk hw;generalize Gr (LI (qQ (exs.map λp=>(p.1,([]:V_))) [] ca (qQ (exs.map λp=>(p.1,([]:V_))) [] cb [])) params.toList) st.s=s0;intro hw hk;obtain⟨i1,i2⟩:=tL (w':=w1) (o:=AObj.lp r s0) (v:=Value.func (.yield l) #[] #[]) hI n3 n4 n5 n7 n8 (λg' hg'=>by simp only[kI,E_]at hg';omega)
     ⟨l,bI,n9,by
      cases hh:h l with
      |none=>rfl
      |some cs=>have:=Ca hI hh;omega,λj x y hx hy=>honce j x y (hk _ hx) (hk _ hy),λp hp=>by
      rw[r6,<-NE honce (show(p.1,p.2)∈st.s from hk p hp)]
      exact(hSl p.1).mono (CA.refl h) o_ λi hi=>gN hi⟩ (by rw[n6];exact cN _)
    have hargs:cC h (upd φ st.T.length (Value.func (.yield l) #[] #[])) (st.T++[some (AObj.lp r s0)]).length (.yl st.T.length::caps) (#[Value.func (.yield l) #[] #[]]++us).toList:=by simp only[TV,jC,dM,cC];refine⟨_,_,rfl,?_,hcs.mono (CA.refl h) s_ λi hi=>gN hi⟩;simp only[Rp];exact⟨s_,bI.symm,l,rfl⟩
    refine⟨l,mark,w1,{target:=.fn (.func f) us,args:=#[.func (.yield l) #[] #[]]},w1,f,#[.func (.yield l) #[] #[]]++us,w1,n1,?_,λf' _=>Ye ro f',?_,λhh=>by rw[T5]at hh;simp at hh,?_⟩;simp only[resolve,hu];simp[go_sem];simp only[invoke];exact IZ hgb _ _
    ·rcases Ei hw hG i1 hargs with⟨_,hcall⟩|⟨v,w',e',_⟩
     rotate_left;rw[IZ hgb]at e';simp at e';refine(NG hcall).mono ?_;rintro e w3 ⟨v,rfl,rr,T2,h2,φ2,hK,hE2,hI2,_⟩;simp only[Vv]at hK;split at hK;rename_i rec s' hT2;obtain⟨hnb,hK⟩:=hK;obtain⟨l',e1,e2,e3,e4,e5⟩:=aCq hI2 hT2;have hφl:φ2 st.T.length=.func (.yield l) #[] #[]:=by rw[hE2.phi _ s_,bI]
     rw[hφl]at e1;injection e1 with e1 _ _;injection e1 with e1;subst e1;have hrun:=run_endLoop (P:=P) e2 hnb;have hset:=Fw (w':=w3.putObj l (.loop {rec with state:=.exhausted})) (o':=.lp {rec with state:=.exhausted} s') hI2 rfl rfl rfl s_ (bH hT2)
      (λb _ hne=>World.putObj_heap_other λhb=>hne (by rw[hφl,hb];rfl)) ⟨l,hφl,World.putObj_heap_same (F2 e2),e3,e4,e5⟩
     have hdrop:=xI hset.1 st.T.length;rw[List.set_set]at hdrop;have hEE:=((hE.trans i2).trans hE2).trans (hset.2.trans hdrop.2);have hdf4:Eo w0 {a with defers:=mark++a.defers} (w3.putObj l (.loop {rec with state:=.exhausted})):=by
      have hdf1:Eo w0 a w1:=by refine⟨hdf.1,λd hd=>?_⟩;obtain⟨D,f1,f2,f3⟩:=hdf.2 d hd;exact⟨D,f1,f2,by rw[n8 D (F2 f3)];exact f3⟩
      have hdf2:Eo w0 {a with defers:=mark++a.defers} w1:=by
       rcases n10 with rfl|⟨D,rfl,g1,g2⟩
       exact hdf1;refine⟨?_,λd hd=>?_⟩;rw[List.singleton_append,H5];refine⟨λd hd=>?_,hdf.1⟩;obtain⟨D',f1,f2,f3⟩:=hdf.2 d hd;rw[f1];intro hh;injection hh with hh;subst hh;have:=F2 f3;omega;rcases cG.1 hd with hd|hd;simp only[cA]at hd;subst hd;exact⟨D,rfl,by have:=hE.size;omega,g2⟩;exact hdf1.2 d hd
      exact((hdf2.keep i1 hE2).keep hI2 hset.2)
     have hSf:SInv P G N h0 φ0 T0 w0 ⟨st.r,st.s,T2.set st.T.length none⟩ {a with defers:=mark++a.defers} (w3.putObj l (.loop {rec with state:=.exhausted})):=by
      refine⟨hr,honce,⟨h2,φ2,hG.mono hE2.le,hEE,hdrop.1,λi=>?_⟩,hsz,hdf4⟩;have hl2:=hE2.len;exact(hSl i).mono hE2.le (by rw[cL];simp at hl2;omega) λj hj=>by rw[hE2.phi j c_,gN hj]
     revert hrun hSf;generalize w3.putObj l (.loop {rec with state:=.exhausted})=w4;intro hrun hSf;refine⟨rec.pending,_,hrun,?_⟩;split at hK;rename_i hp;rw[hp];exact⟨_,hK,hSf⟩;rename_i id hp;rw[hp];exact wpIn_exit ⟨_,hK,hSf⟩;rename_i hp;rw[hp];exact wpIn_ret ⟨_,hK,hSf⟩;exact hK.elim;exact hK.elim
   exact hw.elim
  simp at e
 simp at e
def NW:∀(c:Code),Jj P G N H c:=by
 intro c
 induction c with
 |skip=>
  intro ro h0 φ0 T0 w0 B Q q a w k u out b e d p;simp only[cV,E_]at e;subst e;exact wpIn_skip ⟨q,d,p⟩
 |label l=>
  intro ro h0 φ0 T0 w0 B Q q a w k u out b e d p;simp only[cV,E_]at e;subst e;exact wpIn_label ⟨q,d,p⟩
 |scope x ih=>
  intro ro h0 φ0 T0 w0 B Q q a w k u out b e d p;simp only[cV]at e;exact UA (ih b e d p) λl a w ⟨_,h,_⟩=>h
 |rangeFunc g ps x y z v=>exact UC z v| region id F S=>
  intro ro h0 φ0 T0 w0 B Q q a w k u out b e d p
  cases S with
  | true=>
   simp only[cV,if_true]at e;split at e;rename_i hm
   cases L:IW P N H F with
   |none=>simp[L]at e|some hd=>
    simp only[L,iX,E_]at e;subst e;obtain⟨R,d,h2,_,_⟩:=R5 (N:=N) (h0:=h0) (φ0:=φ0) (T0:=T0) (w0:=w0) d;obtain⟨K,d,hK⟩:=WO d;refine wpIn_region_any hm (WM L d p.drawn λf s r W j=>(hK f W).elim (λo=>h2 f o s r j) λo=>h2 _ o s r (j.kill _))
   simp at e
  | false=>
   simp only[cV,jJ,if_false]at e
   cases L:gH P N F F.toList with
   |none=>simp[L]at e|some hl=>
    simp only[L,iX,E_]at e;subst e;obtain⟨R,d,h2,_,_⟩:=R5 (N:=N) (h0:=h0) (φ0:=φ0) (T0:=T0) (w0:=w0) d;obtain⟨K,d,hK⟩:=aAa d;have:=Ji (H:=H) (ro:=ro) (l1:=[]) (acc:=[]) (Q:=λe s r=>∃f,exQ Q e f/\SInv P G N h0 φ0 T0 w0 f s r) rfl L d p λf s r W j=>(hK f W).elim (λo=>h2 f o s r j) λo=>h2 _ o s r (j.kill _);exact wpIn_region_list this
 | seq x y z v=>
  intro ro h0 φ0 T0 w0 B Q q a w k u out b e d p;simp only[cV]at e;split at e;rename_i C hy h1 h2;cases e;simp only[fZ]at d;refine wpIn_seq (wpIn_mono (z b h1 d p) λex s r ⟨f,o,j⟩=>?_)
  cases ex with
  |normal=>exact v b h2 o j|exit i=>exact⟨f,o,j⟩|ret=>exact⟨f,o,j⟩|_=>exact o.elim
  simp at e
 | cond c x y z v=>
  intro ro h0 φ0 T0 w0 B Q q a w k u out b e d p;simp only[cV]at e;split at e;rename_i C hy h1 h2;cases e;simp only[fZ]at d;split at d;rename_i t ht;have j:=p;obtain⟨hr,U,⟨h,φ,hG,hE,hI,Z⟩,ad,af⟩:=j;apply wpIn_cond (t:=t) (lW hG Z ht);cases t;rcases R4 d with d|d;exact v b h2 d p;exact v b h2 d (p.kill _);rcases R4 d with d|d;exact z b h1 d p;exact z b h1 d (p.kill _);exact d.elim;simp at e
 | block id x ih=>
  intro ro h0 φ0 T0 w0 B Q q a w k u out b e d p;simp only[cV]at e
  cases C:cV P N H x ((id,out)::k) u out with
  |none=>simp[C]at e| some T=>
   simp only[C,iX,E_]at e;subst e;obtain⟨R,d,h2,h3,h4⟩:=R5 (N:=N) (h0:=h0) (φ0:=φ0) (T0:=T0) (w0:=w0) d;simp only[fZ]at d;refine wpIn_block (wpIn_mono (ih b C d p) λex s r ⟨f,o,j⟩=>?_)
   cases ex with
   |normal=>exact h2 f o s r j|exit i=>
    simp only[exQ]at o;simp only[Exit.inBlock];split;rename_i X;rw[if_pos X]at o;exact h2 f o s r j;rename_i X;rw[if_neg X]at o;exact⟨f,h3 _ _ o,j⟩
   |ret=>exact⟨f,h4 _ o,j⟩|_=>exact o.elim
 | loop x ih=>
  intro ro h0 φ0 T0 w0 B Q q a w k u out b e d p;simp only[cV]at e
  cases C:cV P N H x k u (qQ k u x []) with
  |none=>simp[C]at e| some T=>
   simp only[C,iX,E_]at e;subst e;simp only[fZ]at d;obtain⟨I,⟨n0,ab⟩,D⟩:=d;let J:Act->World->Nat->Prop:=λa w n=>∃q,I n q/\SInv P G N h0 φ0 T0 w0 q a w;refine wpIn_loop (λa w=>∃n,J a w n) (λa w=>open Classical in if h:∃n,J a w n then(T9 h).choose else 0) ⟨n0,ab.elim (λh=>⟨_,h,Ep _ p⟩) λh=>⟨_,h,p⟩⟩ λa w hJ=>?_;obtain⟨f,ac,j⟩:=(T9 hJ).choose_spec.1;refine wpIn_mono (ih b C (D _ f ac) j) λex s r ⟨M,o,E⟩=>?_
   cases ex with
   | normal=>
    obtain⟨m,hm,aa⟩:=o;have O:J s r m:=aa.elim (λh=>⟨_,h,Ep _ E⟩) λh=>⟨_,h,E⟩
    have A:∃n,J s r n:=⟨m,O⟩
    refine⟨A,?_⟩;simp only[dif_pos A,dif_pos hJ];have ae:(T9 A).choose<=m:=by rcases eD m (T9 A).choose with V|Y;exact absurd O ((T9 A).choose_spec.2 m V);exact Y
    omega
   |exit i=>exact⟨M,o,E⟩|ret=>exact⟨M,o,E⟩|_=>exact o.elim
 |exit i=>
  intro ro h0 φ0 T0 w0 B Q q a w k u out b e d p;simp only[cV,E_]at e;subst e;exact wpIn_exit ⟨q,d,p⟩
 |ret=>
  intro ro h0 φ0 T0 w0 B Q q a w k u out b e d p;simp only[cV,E_]at e;subst e;exact wpIn_ret ⟨q,d,p⟩
 |_=>intro ro h0 φ0 T0 w0 B Q q a w k u out b e;simp[cV]at e
end
def sB:Nat->O_->List (Nat×AV)|_,[]=>[]|i,x::r=>(i,x)::sB (i+1) r
def Jk:O_->AV|[x]=>x|l=>.tup l
def aCt(st:St)(p:Nat×Option (Option Nat)):Option AV:=match p.2 with|none=>some (bA st.s p.1)|some n=>match cE st.T (dW (λ_=>none) st.s) (.ld n (.tmp p.1)) with|some (x,_)=>some x|none=>none
def R6(st:St):List (Nat×Option (Option Nat))->Option O_|[]=>some []| p::r=>match aCt st p with
  |some x=>match R6 st r with|some l=>some (x::l)|none=>none
  |none=>none
def UD(a:List (Nat×Option (Option Nat)))(post:AV->aK->Prop)(st:St):Prop :=
 match R6 st a with
 |some l=>
  let r:=Jk l
  let L:=Bc st.T (List.range st.r++gF r)
  post (Bd L r) (GX L st.T)\/post r st.T
 |none=>False
def aGU(b:List (Nat×Option (Option Nat)))(post:AV->aK->Prop):Ex->St->Prop|.normal,a=>UD b post a|.ret,a=>UD b post a|_,_=>False
def aJk(P:Program)(G:L_)(a:HFun)(args:O_)(T:aK)(post:AV->aK->Prop):Prop :=
 fZ P G a.code (aGU a.res post) ⟨T.length,sB 0 args,T⟩
def Jl:∀(i:Nat)(l:O_),Jc (sB i l)/\∀j x,(j,x)∈sB i l->i<=j|i,[]=>⟨λ_ _ _ h=>by simp[sB]at h,λ_ _ h=>by simp[sB]at h⟩| i,x::l=>by obtain⟨h1,h2⟩:=Jl (i+1) l;refine⟨λj a b c d=>?_,λj a c=>?_⟩;simp only[sB,cS,Prod.mk.injEq]at c d;rcases c with⟨rfl,rfl⟩|c<;>rcases d with⟨e,rfl⟩|d;rfl;have:=h2 _ _ d;omega;subst e;have:=h2 _ _ c;omega;exact h1 j a b c d;simp only[sB,cS,Prod.mk.injEq]at c;rcases c with⟨rfl,_⟩|c;exact cN _;have:=h2 _ _ c;omega
section
variable{P:Program}{G:L_}{h:GH}{φ:Nat->Value}{n:Nat}
def Ia {P:Program} {o:Func} {tmps:Array Value} {R:Ending->World->Prop} {h0:GH} {φ0:Nat->Value} {T0:aK} {w0:World} {h:GH} {φ:Nat->Value} {T:aK}
 (c:∀w,Inv h φ w T->Evo h0 φ0 T0 w0 h φ T w->∃v,(results o tmps).run P w=.ok v w/\R (.returned v) w):∀(ds:List Deferred)(w:World),(ds.Pairwise λx y=>x.target≠y.target) ->
 (∀d∈ds,∃D,d.target=.collected D/\w0.heap.size<=D/\w.heap[D]?=some (.deferred (some [])))->Inv h φ w T->Evo h0 φ0 T0 w0 h φ T w->LeavesInM Fence.wide 0 P o tmps R ds .returning w
 |[],w,_,_,hI,a=>c w hI a| d::ds,w,t,n,hI,a=>by
  obtain⟨D,q,I,k⟩:=n d s_;have z:=run_takeDeferred (P:=P) k;refine⟨s_,.inl ⟨D,_,q,z,?_⟩⟩;obtain⟨f,e⟩:=H5.1 t;refine Ia c ds _ e (λr m=>?_) ?_ ?_;obtain⟨G,p,C,B⟩:=n r (by simp[m]);refine⟨G,p,C,?_⟩;rw[World.putObj_heap_other λj=>f r m (by rw[q,p,j])];exact B;refine R1 hI (λi x s g=>NH (hI.obj i x s) g _ k) ?_ _
  cases A:h D with
  |none=>rfl|some F=>
   obtain⟨E,H,l⟩:=hI.gh D F A;rw[k]at l;simp at l
  refine⟨a.os,a.tape,a.output,by simpa using a.size,λb g u=>?_,a.le,a.gfr,a.phi,a.org,a.len,a.drawn⟩;rw[World.putObj_heap_other o_];exact a.frame b g u
def R7:∀(i:Nat)(l:O_)(a us post:C_),a.length=i->cC h φ n l us->uN h φ n (sB i l) ⟨(a++us++post).toArray,[]⟩
 |i,[],a,us,post,_,_=>λj=>by simp[sB,bA,Rp]
 | i,x::l,a,us,post,e,d=>by
  simp only[cC]at d;obtain⟨u,b,rfl,h1,h2⟩:=d;have:=R7 (i+1) l (a++[u]) b post az h2;intro j;simp only[sB,bA];split;rename_i c;subst c;have f:(a++u::b++post).toArray.getD i undef=u:=by subst e;simp[TR]
  rw[f];exact h1;have h3:=this j;simp only[eB,List.singleton_append]at h3⊢;exact h3
def aCu:C_->Value|[v]=>v|l=>.tuple l.toArray
def R8{t:TypeId}{u v:Value}{w w':World}(e:(Instr.loadAt t u).run P w=.ok v w'):(do loadVar t (<-asAddr u):Sem Value).run P w=.ok v w':=by
 have b:∀(s:String),¬((do loadVar t (<-stuck s):Sem Value).run P w=.ok v w'):=by intro s h;simp[stuck]at h
 cases u with
 |pointer a=>
  cases a with
  |none=>exact absurd e (b _)|some a=>exact e
 |_=>exact absurd e (b _)
def UE {E:Func} {T:aK} {st:St} {a:Act} {w:World} (O:tU G h) (hI:Inv h φ w st.T) (D:uN h φ st.T.length st.s a) {m:List (Nat×Option (Option Nat))} (J:NU P E.results.toList=some m) {l:O_} (L:R6 st m=some l):
 ∃c,(results E a.tmps).run P w=.ok (aCu c) w/\cC h φ st.T.length l c:=by
 have q:∀(g:ResultVar->Sem Value),(∀t,g (.tmp t)=pure (a.tmps.getD t undef))->(∀i t,g (.cell i t)=(do loadVar t (<-asAddr (a.tmps.getD i undef)):Sem Value)) ->
  ∀(j:List ResultVar)(m:List (Nat×Option (Option Nat)))(l:O_),NU P j=some m->R6 st m=some l->∃c,(j.mapM g).run P w=.ok c w/\cC h φ st.T.length l c:=by
  intro g M B j
  induction j with
  |nil=>
   intro m l d f;simp only[NU,E_]at d;subst d;simp only[R6,E_]at f;subst f;exact⟨[],s_,sg⟩
  | cons x j ih=>
   intro m l d f;have k:∀(p:Nat×Option (Option Nat))(b:List (Nat×Option (Option Nat))),NU P j=some b->m=p::b->(∀y,aCt st p=some y->∃v,(g x).run P w=.ok v w/\Rp h φ st.T.length y v)->∃c,((x::j).mapM g).run P w=.ok c w/\cC h φ st.T.length l c:=by intro p b h1 h2 h3;subst h2;simp only[R6]at f;split at f;rename_i y e;split at f;rename_i H A;injection f with f;subst f;obtain⟨v,I,u⟩:=h3 y e;obtain⟨c,r,z⟩:=ih b H h1 A;refine⟨v::c,?_,?_⟩;rw[List.mapM_cons];simp[I,r];simp only[cC];exact⟨v,c,rfl,u,z⟩;simp at f;simp at f
   cases x with
   | tmp t=>
    simp only[NU]at d
    cases o:NU P j with
    |none=>simp[o]at d
    |some b=>
     simp only[o,iX,E_]at d;refine k (t,none) b o d.symm λy e=>?_;simp only[aCt,E_]at e;subst e;exact⟨_,by rw[M];simp,D t⟩
   | cell i t=>
    simp only[NU]at d;split at d;rename_i n K
    cases o:NU P j with
    |none=>simp[o]at d
    |some b=>
     simp only[o,iX,E_]at d;refine k (i,some n) b o d.symm λy e=>?_;simp only[aCt]at e;split at e;rename_i F R N;injection e with e;subst e;have C:cE st.T (dW G st.s) (.ld n (.tmp i))=some (F,R):=N;obtain⟨_,v,h1,h2⟩:=Mu (P:=P) (w:=w) K O hI D C;exact⟨v,by rw[B];exact R8 h1,h2⟩;simp at e
    simp at d
 obtain⟨c,h1,h2⟩:=q (fun|.tmp t=>pure (a.tmps.getD t undef)|.cell Q t=>do loadVar t (<-asAddr (a.tmps.getD Q undef))) (λt=>rfl) (λi t=>rfl) _ _ _ J L;refine⟨c,?_,h2⟩;unfold results;rw[Sem.run_bind,aBS,Sem.run_map];erw[h1];simp only[Result.andThen_ok,Sem.run_pure]
 match c with
 |[]=>rfl
 |[t]=>rfl
 |t::S::l=>rfl
def aF7{l:O_}{vs:C_}(a:cC h φ n l vs):Rp h φ n (Jk l) (aCu vs):=by
 match l,vs,a with
 |[],vs,a=>simp only[cC]at a;subst a;simp only[Jk,aCu,Rp];exact⟨_,rfl,sg⟩|[x],vs,a=>simp only[cC]at a;obtain⟨u,d,rfl,h1,rfl⟩:=a;exact h1
 |x::y::l,vs,a=>
  have b:=a;simp only[cC]at a;obtain⟨u,d,rfl,h1,e,c,rfl,h2,h3⟩:=a;simp only[Jk,aCu,Rp];exact⟨_,rfl,T_⟩
def Yn {f:FuncId} {hf:HFun} {H:List (Nat×Option Nat×Nat)} (k:tF P f H=some hf) {args:O_} {T:aK} {post:AV->aK->Prop} (hT:True) (z:aJk P G hf args T post):aA P G f args T post:=by
 unfold tF at k;split at k;simp at k
 ·rename_i g C;split at k;simp at k
  ·rename_i p;split at k
   ·rename_i c L hb R
    cases m:cV P g.ntmps H c [] (L.map (·.1)) (L.map (·.1)) with
    |none=>simp[m]at k| some W=>
     simp only[m,iX,E_]at k;subst k;intro h φ w a hG hI hA;refine .inl ⟨?_,?_⟩;have hn:¬g.name = "runtime.NumGoroutine" := by simpa using p
     simp[callFunc,C,hn,hb]
     ·have E:SInv P G g.ntmps h φ T w ⟨T.length,sB 0 args,T⟩ ⟨a++Array.replicate (g.ntmps-a.size) undef,[]⟩ w:=by
       refine⟨rfl,(Jl 0 args).1,⟨h,φ,hG,Evo.refl,hI,?_⟩,c_,gu⟩;have:=R7 (h:=h) (φ:=φ) (n:=T.length) 0 args [] a.toList (List.replicate (g.ntmps-a.size) undef) rfl hA;have e:a++Array.replicate (g.ntmps-a.size) undef=(a.toList++List.replicate (g.ntmps-a.size) undef).toArray:=by apply EY.1;simp
       rw[e];simpa only[dM]using this
      have Q:c.wpIn Fence.wide 0 P (λe M q=>∃u,exQ (aGU L post) e u/\SInv P G g.ntmps h φ T w u M q) ⟨a++Array.replicate (g.ntmps-a.size) undef,[]⟩ w:=by
       have B:aF6 none φ T w:=λl hl=>by simp at hl
       rcases R4 z with z|z;exact NW (N:=g.ntmps) c (ro:=none) B m z E;exact NW (N:=g.ntmps) c (ro:=none) B m z (E.kill _)
      refine callsIn_wide.1 (callsIn_of_wp_marks (n:=0) C hb trivial (wpIn_mono Q ?_))
      ·rintro e M q ⟨st,d,hS⟩;have K:UD L post st->bodyPostM Fence.wide 0 P g (λe q=>∃v,e=.returned v/\CS h φ T w post v q) .ret M q:=by
        intro d;obtain⟨hr,U,⟨h2,t,I,o,j,X⟩,aa,D⟩:=hS;simp only[UD]at d;split at d;rotate_left;exact d.elim;rename_i s V;refine Ia (λwf j o=>?_) M.defers q D.1 D.2 j o;obtain⟨vs,A,S⟩:=UE (T:=st.T) I j X R V;refine⟨_,A,_,rfl,?_⟩;have b:=aF7 S;revert b;generalize aCu vs=v;intro b;rcases d with d|d;have Z:SInv P G 0 h φ T w ⟨st.r,[(0,Jk s)],st.T⟩ ⟨#[v],[]⟩ wf:=by refine⟨hr,λi x y hx hy=>?_,⟨h2,t,I,o,j,λi=>?_⟩,s_,gu⟩;simp only[cA,Prod.mk.injEq]at hx hy;rw[hx.2,hy.2];simp only[bA];split;rename_i hi;subst hi;exact b;simp[Rp]
        obtain⟨_,_,⟨h4,O,_,J,F,Y⟩,_,_⟩:=Ep (st:=⟨st.r,[(0,Jk s)],st.T⟩) [] Z;have h5:=Y 0;have hg:DB [] ⟨st.r,[(0,Jk s)],st.T⟩=⟨st.r,[(0,Bd (Bc st.T (List.range st.r++gF (Jk s))) (Jk s))],GX (Bc st.T (List.range st.r++gF (Jk s))) st.T⟩:=by simp[DB,mV,sA,LG,PS,Td]
        rw[hg]at J F h5;exact⟨_,_,h4,O,d,J,F,h5⟩;exact⟨_,_,h2,t,d,o,j,b⟩
       cases e with
       |normal=>exact K d|ret=>exact K d|_=>exact d.elim
   simp at k
end
end Hud
