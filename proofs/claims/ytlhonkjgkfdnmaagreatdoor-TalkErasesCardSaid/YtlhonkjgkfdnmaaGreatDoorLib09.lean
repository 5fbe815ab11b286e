import Derived.Test.YtlhonkjgkfdnmaaGreatDoorLib06
import Derived.Test.YtlhonkjgkfdnmaaGreatDoorLib07
import Derived.Test.YtlhonkjgkfdnmaaGreatDoorLib08
import Derived.Lib.ConvBytes
import Derived.Laws.BytesString
import Derived.Laws.MakeOwn
import Derived.Maps.RangeRun
set_option linter.all false
namespace Hud
open Go
section
variable{P:Program}{G:L_}{h:GH}{φ:Nat->Value}{T:aK}{w:World}{s:List (Nat×AV)}{a:Act}
def Bnd(o:Option Value)(d n:Nat):Prop:=(o=none/\n=d)\/∃k i,o=some (.int k i)/\0<=i/\n=i.toNat
def iH{k:IntKind}{i:Int}{y:Nat}{c:BoundsCode}(h0:0<=i)(h1:i.toNat<=y):(Instr.sliceBound (.int k i) y c).run P w=.ok i.toNat w:=by
 have:0<=i/\i<=y:=⟨h0,o_⟩
 simp[Instr.sliceBound,asIntOf,this]
def EC{b:Bool}{c a l m:Nat}{lo e:Option Value}(f:Bnd lo 0 l)(g:Bnd e c m)(h1:l<=m)(h2:m<=a):(Instr.sliceBounds b c a lo e none).run P w=.ok (l,m,a) w:=by
 rcases f with⟨rfl,rfl⟩|⟨k,i,rfl,h0,rfl⟩<;>rcases g with⟨rfl,rfl⟩|⟨h,j,rfl,d,rfl⟩
 rfl;simp[Instr.sliceBounds,iH d h2];simp[Instr.sliceBounds,iH h0 h1];simp[Instr.sliceBounds,iH h0 h1,iH d h2]
def Cc{t e:TypeId}(d:P.underlying t=some (.slice e)){k:Nat}(g:oZ P e=some k){A:Option Addr}{b a l m:Nat}{lo c:Option Value}(f:Bnd lo 0 l)(h:Bnd c b m)(h1:l<=m)(h2:m<=a):
 (Instr.sliceAt t (.slice A b a) lo c none).run P w=.ok (.slice (if a=l then A else A.map (·.add (l*k))) (m-l) (a-l)) w:=by
 simp[Instr.sliceAt,Instr.slice,run_underlying d,EC f h h1 h2,qM g]
def V6{t:TypeId}(c:P.underlying t=some .string){a:ByteArray}{l m:Nat}{lo b:Option Value}(d:Bnd lo 0 l)(e:Bnd b a.size m)(h1:l<=m)(h2:m<=a.size):
 (Instr.sliceAt t (.string a) lo b none).run P w=.ok (.string (a.extract l m)) w:=by
 simp[Instr.sliceAt,Instr.slice,run_underlying c,EC d e h1 h2]
def qD(ev:Operand->AV)(o:Option Operand)(d:Nat):Option Nat:=match o with|none=>some d|some o=>match ev o with|.v (.int _ n)=>if 0<=n then some n.toNat else none|_=>none
def pA(f:tU G h)(c:uN h φ T.length s a){o:Option Operand}{d n:Nat}(e:qD (dW G s) o d=some n):Bnd (o.map a.eval) d n:=by unfold qD at e;split at e;injection e with e;exact .inl ⟨rfl,e.symm⟩;rename_i x;split at e;rename_i k i b;split at e;rename_i h0;injection e with e;exact .inr ⟨k,i,by simp[lW f c b],h0,e.symm⟩;simp at e;simp at e
def Zy {t e:TypeId} (N:P.underlying t=some (.slice e)) {k:Nat} (O:oZ P e=some k)
 (r:tU G h) (hI:Inv h φ w T) (q:uN h φ T.length s a) {p:Operand} {lo L:Option Operand} {x:AV} {T':aK} (d:cE T (dW G s) (.slc p lo L k)=some (x,T')):
 T'=T/\∃v,(Instr.sliceAt t (a.eval p) (lo.map a.eval) (L.map a.eval) none).run P w=.ok v w/\Rp h φ T.length x v:=by
 have u:=dN r q p
 change (match dW G s p with
  |.ls B z=>match qD (dW G s) lo 0,qD (dW G s) L z.length with|some l,some h=>if k=B/\l<=h/\h<=z.length then some (.ls k ((z.drop l).take (h-l)),T) else none|_,_=>none
  | .own a=>match sZ (cR T a) with
   |some (B,z,_)=>match qD (dW G s) lo 0,qD (dW G s) L z.length with|some l,some h=>if k=B/\l<=h/\h<=z.length then some (.vw a k l (h-l),T) else none|_,_=>none
   |_=>none
  |.vw a B M m=>match qD (dW G s) lo 0,qD (dW G s) L m with|some l,some h=>if k=B/\l<=h/\h<=m then some (.vw a k (M+l) (h-l),T) else none|_,_=>none
  |.v (.slice none 0 0)=>match qD (dW G s) lo 0,qD (dW G s) L 0 with|some l,some h=>if l=0/\h=0 then some (.v (.slice none 0 0),T) else none|_,_=>none
  |_=>none)=some (x,T') at d
 split at d;rename_i B z f;rw[f]at u;simp only[Rp,oB]at u;obtain⟨A,c,R,h1,h2,h3⟩:=u;split at d;rename_i l m F C;split at d;rename_i I;obtain⟨rfl,j,H⟩:=I;cases d;rw[R];refine⟨rfl,_,Cc N O (pA r q F) (pA r q C) j o_,?_⟩;have D:((z.drop l).take (m-l)).length=m-l:=p_;simp only[Rp,oB];refine⟨_,c-l,by rw[D],by rw[D];omega,o_,?_⟩;by_cases h0:m-l=0;simp_all;rcases h3 with rfl|⟨b,o,rfl,W⟩
 simp;refine .inr ⟨b,o+l*k,sc,?_⟩;exact(W.drop l).take _;simp at d;simp at d;rename_i i f;rw[f]at u;simp only[Rp]at u;split at d;rename_i B z b V;split at d;rename_i l m F C;split at d;rename_i I;obtain⟨rfl,j,H⟩:=I;cases d;obtain⟨_,h1|⟨g,c,X,E,y,_,h2,h3,_⟩⟩:=rK hI V;obtain⟨A,h1,rfl⟩:=h1;rw[u.2.1,h1];refine⟨rfl,_,Cc N O (pA r q F) (pA r q C) j (by simpa using H),?_⟩;grind[Rp,List.length_nil];rw[u.2.1,y];refine⟨rfl,_,Cc N O (pA r q F) (pA r q C) j o_,?_⟩;simp only[Rp];refine⟨u.1,_,_,rfl,o_,o_,?_⟩;by_cases h0:m-l=0;exact .inl h0;exact .inr ⟨g,_,c+1,y,sc,o_⟩;simp at d;simp at d;simp at d;rename_i i B M n f;rw[f]at u;simp only[Rp]at u;obtain⟨S,A,c,R,h1,h2,h3⟩:=u;split at d;rename_i l m F C;split at d;rename_i I;obtain⟨rfl,j,H⟩:=I;cases d;rw[R];refine⟨rfl,_,Cc N O (pA r q F) (pA r q C) j o_,?_⟩;simp only[Rp];refine⟨S,_,_,rfl,o_,o_,?_⟩;by_cases h0:m-l=0;exact .inl h0;rcases h3 with rfl|⟨g,Q,Y,y,rfl,U⟩
 omega;exact .inr ⟨g,Q,Y,y,by rw[if_neg o_];simp[iG,aGg],o_⟩;simp at d;simp at d;rename_i f;rw[lW r q f];split at d;rename_i l m F C;split at d;rename_i I;obtain⟨rfl,rfl⟩:=I;cases d;exact⟨rfl,_,Cc N O (pA r q F) (pA r q C) (cN _) (cN _),z_⟩;simp at d;simp at d;simp at d
def V7{t:TypeId}(j:P.underlying t=some .string)
 (g:tU G h) (f:uN h φ T.length s a) {p:Operand} {lo d:Option Operand} {x:AV} {T':aK} (b:cE T (dW G s) (.slcS p lo d)=some (x,T')):
 T'=T/\∃v,(Instr.sliceAt t (a.eval p) (lo.map a.eval) (d.map a.eval) none).run P w=.ok v w/\Rp h φ T.length x v:=by
 change (match dW G s p with
  |.v (.string c)=>match qD (dW G s) lo 0,qD (dW G s) d c.size with|some l,some h=>if l<=h/\h<=c.size then some (.v (.string (c.extract l h)),T) else none|_,_=>none
  |_=>none)=some (x,T') at b
 split at b;rename_i c e;rw[lW g f e];split at b;rename_i l m n k;split at b;rename_i i;cases b;exact⟨rfl,_,V6 j (pA g f n) (pA g f k) i.1 i.2,z_⟩;simp at b;simp at b;simp at b
def V8(d:TypeDesc)(c:Value):Option Nat :=
 match d,c with
 |.pointer _,.pointer none=>some 0|.slice _,.slice none 0 0=>some 1|.func _ _ _,.nilFunc=>some 2|_,_=>none
def IN:Value->Prop|.pointer _=>True|.slice _ _ _=>True|.nilFunc=>True|.func _ _ _=>True|_=>False
def yK:∃d,Op.maxDepth=d+1:=⟨9999,rfl⟩
def Yc{t:TypeId}{d:TypeDesc}{c u:Value}{kd:Nat}(a:V8 d c=some kd){neg b:Bool}{p y:Operand}(h1:(Op.equal t u c).run P w=.ok b w)
 (h2:IN u):
 (do eqGuard (if neg then .neq else .eql) t p y u c;binOp (if neg then .neq else .eql) t u c).run P w=.ok (.bool (if neg then !b else b)) w:=by
 unfold V8 at a;split at a;cases u<;>simp only[IN]at h2<;>cases neg<;>simp[eqGuard,binOp,h1];cases u<;>simp only[IN]at h2<;>cases neg<;>simp[eqGuard,binOp,h1];cases u<;>simp only[IN]at h2<;>cases neg<;>simp[eqGuard,binOp,h1];simp at a
def V9 {t:TypeId} {d:TypeDesc} (B:P.underlying t=some d) {c:Value} {kd:Nat} (q:V8 d c=some kd) {neg:Bool} {p y:Operand}
 (J:tU G h) (hI:Inv h φ w T) (I:uN h φ T.length s a) {x:AV} {T':aK} (F:cE T (dW G s) (.nilS neg kd p)=some (x,T')):
 T'=T/\∃v,(do eqGuard (if neg then .neq else .eql) t p y (a.eval p) c;binOp (if neg then .neq else .eql) t (a.eval p) c).run P w=.ok v w/\Rp h φ T.length x v:=by
 have r:=dN J I p;have L:∀b:Bool,x=.v (.bool (if neg then !b else b))->(∀u,u=a.eval p->(∃g:Nat,(Op.equal t u c).run P w=.ok b w/\IN u)) ->
  ∃v,(do eqGuard (if neg then .neq else .eql) t p y (a.eval p) c;binOp (if neg then .neq else .eql) t (a.eval p) c).run P w=.ok v w/\Rp h φ T.length x v:=by
  intro b M H;obtain⟨g,h1,h2⟩:=H _ rfl;exact⟨.bool (if neg then !b else b),Yc q h1 h2,by rw[M];simp[Rp]⟩
 simp only[cE]at F;split at F
 ·rename_i b C;cases F;refine⟨rfl,L b rfl λu z=>?_⟩;subst z;unfold V8 at q;split at C
  all_goals
   (try injection C with C)
   (try subst C)
  rename_i m;rw[lW J I m];split at q<;>simp at q;exact⟨0,l_,trivial⟩;rename_i i o m;rw[m]at r;simp only[Rp]at r;obtain⟨_,g,_,z⟩:=r;rw[z];split at q<;>simp at q;exact⟨0,l_,trivial⟩;rename_i i k j o m;rw[m]at r;simp only[Rp]at r;obtain⟨_,g,l,cc,_,z⟩:=r;rw[z];split at q<;>simp at q;exact⟨0,l_,trivial⟩;rename_i U m;rw[m]at r;simp only[Rp]at r;obtain⟨V,o,z,_⟩:=r;rw[z];split at q<;>simp at q;exact⟨0,l_,trivial⟩;rename_i m;rw[lW J I m];split at q<;>simp at q;exact⟨1,l_,trivial⟩;rename_i i m;split at C;rename_i k e O b N;cases C;rw[m]at r;simp only[Rp]at r;obtain⟨_,h1|⟨g,cc,S,E,K,_⟩⟩:=rK hI N;simp at h1;rw[r.2.1,K];split at q<;>simp at q;exact⟨1,l_,trivial⟩;simp at C;rename_i k e O m;rw[m]at r;simp only[Rp,oB]at r;obtain⟨A,cc,z,_,_,h3⟩:=r;rcases h3 with h3|⟨V,o,rfl,_⟩
  simp at h3;rw[z];split at q<;>simp at q;exact⟨1,l_,trivial⟩;rename_i m;rw[lW J I m];split at q<;>simp at q;exact⟨2,l_,trivial⟩;rename_i f U m;rw[m]at r;simp only[Rp]at r;obtain⟨W,z,_⟩:=r;rw[z];split at q<;>simp at q;exact⟨3,l_,trivial⟩;rename_i f a b m;rw[lW J I m];split at q<;>simp at q;exact⟨3,l_,trivial⟩;simp at C
 simp at F
def Tq{ts:Array TypeId}{ty:TypeId}{mx:Bool}{p q:Operand}
 (e:tU G h) (d:uN h φ T.length s a) {x:AV} {T':aK} (c:cE T (dW G s) (.mm mx p q)=some (x,T')):
 T'=T/\∃v,(if mx then Builtin.max_ ts ty #[a.eval p,a.eval q] else Builtin.min_ ts ty #[a.eval p,a.eval q]).run P w=.ok v w/\Rp h φ T.length x v:=by
 simp only[cE]at c;split at c;rename_i k i m j h1 h2;split at c;rename_i l;subst l;cases c;rw[lW e d h1,lW e d h2];cases mx;simp_all[Builtin.min_,Builtin.min2,Rp];simp_all[Builtin.max_,Builtin.max2,Rp];simp at c;rename_i a b h1 h2;cases c;rw[lW e d h1,lW e d h2];cases mx;simp[Builtin.min_,Builtin.min2,Op.stringOp,asBool,Rp];simp[Builtin.max_,Builtin.max2,Op.stringOp,asBool,Rp];simp at c
end
def Lx(P:Program)(o:Oper):Option HOp :=
 match o.op with
 | .slice t x lo b none=>match P.underlying t with
  |some (.slice e)=>match oZ P e with|some k=>some (.slc x lo b k)|none=>none
  |some .string=>some (.slcS x lo b)|_=>none
 | .binOp a t x (.const c) _=>match P.underlying t with
  |some d=>match V8 d c with|some k=>if a=.eql then some (.nilS false k x) else if a=.neq then some (.nilS true k x) else none|none=>none
  |none=>none
 |.call c=>match c.callee,c.args.toList with|.builtin .max,[x,y]=>some (.mm true x y)|.builtin .min,[x,y]=>some (.mm false x y)|_,_=>none
 |_=>none
section
variable{P:Program}{G:L_}{h:GH}{φ:Nat->Value}{w:World}{a:Act}{st:St}{K:AV->aK->Prop}{next:Act->World->Prop}{Q:Exit->Act->World->Prop}
def aCi{kd:Nat}{x:AV}(a:Te kd x=true):kd=1/\∃k,x=.ls k []:=by unfold Te at a;grind
def Yd{t:TypeId}{d:TypeDesc}(l:P.underlying t=some d){c:Value}{kd:Nat}(g:V8 d c=some kd){neg:Bool}{p y:Operand}
 (q:tU G h) (hI:Inv h φ w st.T) (o:uN h φ st.T.length st.s a) (e:yF P G st (.nilS neg kd p) K):
 ∃x,K x st.T/\∃v,(do eqGuard (if neg then .neq else .eql) t p y (a.eval p) c;binOp (if neg then .neq else .eql) t (a.eval p) c).run P w=.ok v w/\Rp h φ st.T.length x v:=by
 simp only[yF]at e;split at e;rename_i r;obtain⟨rfl,k,n⟩:=aCi r;have m:=dN q o p;rw[n]at m;simp only[Rp,oB]at m;obtain⟨A,cc,j,_,_,_⟩:=m;have i:∀b:Bool,(Op.equal t (a.eval p) c).run P w=.ok b w->∃x,K x st.T/\∃v,(do eqGuard (if neg then .neq else .eql) t p y (a.eval p) c;binOp (if neg then .neq else .eql) t (a.eval p) c).run P w=.ok v w/\Rp h φ st.T.length x v:=λb z=>by refine⟨.v (.bool (if neg then !b else b)),?_,.bool (if neg then !b else b),Yc g z (by rw[j];trivial),z_⟩;cases(if neg then !b else b);exact e.2;exact e.1
 unfold V8 at g;split at g<;>simp at g
 cases A with
 |none=>exact i true d7
 |some b=>exact i false d7
 split at e;rename_i x C u;obtain⟨rfl,v,h1,h2⟩:=V9 (y:=y) l g q hI o u;exact⟨x,e,v,h1,h2⟩;exact e.elim
def Zz {o:Oper} {B:HOp} (b:Lx P o=some B) (J:yF P G st B K) (E:tU G h) (hI:Inv h φ w st.T) (D:uN h φ st.T.length st.s a)
 (L:∀v Q,CS h φ st.T w K v Q->next (a.put o.dst v) Q):rL P o a w next:=by
 have i:∀{sv:Sem Value}(_:execOp a.eval o=(do pure (.value (<-sv))))(_:(∀f l,B≠.call f l)/\(∀p,B≠.nxt p)/\∀n k x,B≠.nilS n k x)(_:∀x r,cE st.T (dW G st.s) B=some (x,r)->r=st.T/\∃v,sv.run P w=.ok v w/\Rp h φ st.T.length x v),rL P o a w next:=by intro sv m u F;obtain⟨x,r,e,C⟩:=GZ u J;obtain⟨rfl,v,h1,h2⟩:=F x r e;exact uT m h1 (L v w (tE hI h2 C))
 obtain⟨V,U,ty,S,O,N⟩:=o;unfold Lx at b;simp only at b;split at b;rename_i t x lo R;split at b;rename_i e A;split at b;rename_i k C;cases b;exact i (sv:=Instr.sliceAt t (a.eval x) (lo.map a.eval) (R.map a.eval) none) rfl s_ λy r m=>Zy A C E hI D m;simp at b;rename_i A;cases b;exact i (sv:=Instr.sliceAt t (a.eval x) (lo.map a.eval) (R.map a.eval) none) rfl s_ λy r m=>V7 A E D m;simp at b;rename_i U t x c W;split at b;rename_i d A;split at b;rename_i k C;split at b;rename_i cE;subst cE;cases b;obtain⟨y,I,v,h1,h2⟩:=Yd (neg:=false) (y:=.const c) A C E hI D J;exact uT (sv:=do eqGuard .eql t x (.const c) (a.eval x) c;binOp .eql t (a.eval x) c) rfl h1 (L v w (tE hI h2 I));split at b;rename_i cE;subst cE;cases b;obtain⟨y,I,v,h1,h2⟩:=Yd (neg:=true) (y:=.const c) A C E hI D J;exact uT (sv:=do eqGuard .neq t x (.const c) (a.eval x) c;binOp .neq t (a.eval x) c) rfl h1 (L v w (tE hI h2 I));simp at b;simp at b;simp at b;rename_i c;obtain⟨H,q,g⟩:=c;simp only at b;split at b;rename_i x y j;have M:q=#[x,y]:=EY.1 (by rw[j]);subst M;cases b;exact i (sv:=Builtin.max_ g ty #[a.eval x,a.eval y]) K_ s_ λz r m=>Tq (ts:=g) (ty:=ty) (mx:=true) E D m;rename_i x y j;have M:q=#[x,y]:=EY.1 (by rw[j]);subst M;cases b;exact i (sv:=Builtin.min_ g ty #[a.eval x,a.eval y]) K_ s_ λz r m=>Tq (ts:=g) (ty:=ty) (mx:=false) E D m;simp at b;simp at b
end
section
variable{P:Program}{G:L_}{h:GH}{φ:Nat->Value}{T:aK}{w:World}{s:List (Nat×AV)}{a:Act}
def WB{t e:TypeId}(f:P.underlying t=some (.slice e)){i:TypeInfo}(g:P.info? e=some i)
 (hI:Inv h φ w T) {ev:Operand->AV} {x:AV} {T':aK} (b:cE T ev (.bsl i.size [] [] 0)=some (x,T')):
 jD h φ T w ((Instr.buildSlice t 0 #[]).run P w) x T':=by
 simp only[cE,uP,JY,aGL,if_true,yI,E_,Prod.mk.injEq]at b;obtain⟨rfl,rfl⟩:=b;have a:(Instr.buildSlice t 0 #[]).run P w=.ok (.slice (some ⟨w.heap.size,0,none⟩) 0 0) (w.alloc (.cells #[] e)):=by simp[Instr.buildSlice,run_underlying f,Go.sizeOf,typeInfo,g,newRow,Instr.fill,Array.range_zero']
 rw[a];exact YU (n:=0) (c:=0) (es:=[]) (k:=i.size) hI rfl rfl rfl rfl (λd j=>absurd j s_) rfl (cN _) (pR _) s_ (by simp[cK]) e
def Ru(h:GH):∀a:C_,cK h (a.map .v) a|[]=>by simp[cK]|u::a=>by simp only[fG,cK];exact⟨u,a,rfl,by simp[oB],Ru h a⟩
def M8(z:Array Value)(n m:Nat)(e:0<z.size)(d:n<=m):(madeCells z (m*z.size)).toList.take (n*z.size)=(List.replicate n z.toList).flatten:=by
 have c:∀n,(List.replicate n z.toList).flatten=II z.toList n:=by
  intro n
  induction n with
  |zero=>rfl|succ n ih=>simp[TW,II,ih]
 rw[c];apply EW;intro j;have g:n*z.size<=m*z.size:=H2 _ d;by_cases b:j<n*z.size;have f:j<m*z.size:=o_;rw[BT,if_pos b,Array.getElem?_toList,madeCells,Array.getElem?_map,Array.getElem?_range,if_pos f,My z.toList X_ n j T_];have a:j%z.size<z.size:=zM _ e;simp[a];rw[BT,if_neg b,sX];rw[Mx];simpa using b
def Z5 {t e:TypeId} (C:P.underlying t=some (.slice e)) {i:TypeInfo} (F:P.info? e=some i) {z:Value} (r:i.zero=some z) (f:z.cells.size=i.size) (h0:0<i.size) (k:(z.cells.toList.all λx=>aX (.v x))=true)
 (o:tU G h) (hI:Inv h φ w T) (m:uN h φ T.length s a) {p q:Operand} {x:AV} {T':aK} (b:cE T (dW G s) (.mks i.size z.cells.toList i.bytes p q)=some (x,T')):
 jD h φ T w ((Instr.makeSlice t (a.eval p) (a.eval q)).run P w) x T':=by
 simp only[cE]at b;split at b;rename_i n c E D;split at b;rename_i I;obtain⟨c1,c2,c3,L⟩:=I;cases b;have l:c<=9223372036854775807:=by have:=L;simp only[maxLen]at this;omega
 rw[lW o m E,lW o m D,run_make w t e i z C F r .i64 .i64 n c c1 c2 (by rw[Int.mul_comm];omega) l];have g:n.toNat<=c.toNat:=o_;have j:c.toNat<=maxLen:=o_;refine YU hI rfl rfl rfl rfl (λd H=>?_) (QE) g j ?_ ?_ e;rw[(List.mem_replicate.1 H).2];refine⟨by simp[f],λy A=>?_⟩;obtain⟨u,B,rfl⟩:=dF.1 A;exact oD.1 k u B;rw[size_madeCells];rw[<-f,M8 z.cells _ _ o_ g];have:(List.replicate n.toNat (z.cells.toList.map AV.v)).flatten=((List.replicate n.toNat z.cells.toList).flatten).map AV.v:=by simp[List.map_flatten,YH]
 rw[this];exact Ru h _;simp at b;simp at b
def G9(h:GH)(b:Nat)(cs:Array Value):GH:=λg=>if g=b then some cs else h g
def Z6{w':World}(hI:Inv h φ w T)(l:w'.os=w.os)(j:w'.tape=w.tape)(a:w'.output=w.output)(k:w.heap.size<=w'.heap.size)
 (r:∀b,b<w.heap.size->w'.heap[b]?=w.heap[b]?) {cs:Array Value} {E:TypeId} {u:Nat×Nat} (y:w'.heap[w.heap.size]?=some (.cells cs E u)) (n:w.drawn<=w'.drawn):
 Inv (G9 h w.heap.size cs) φ w' T/\Evo h φ T w (G9 h w.heap.size cs) φ T w':=by
 have t:CA h (G9 h w.heap.size cs):=by intro b c e;unfold G9;rw[if_neg (by have:=Ca hI e;omega)];exact e
 have f:∀i x,T[i]?=some (some x)->i<T.length:=by intro i x e;rcases eD i T.length with m|m;exact m;rw[sX m]at e;simp at e
 refine⟨⟨?_,?_,?_⟩,⟨l,j,a,k,λb q _=>r b q,t,?_,λ_ _=>rfl,λi o b z p=>.inr ⟨i,o,z,p⟩,cN _,n⟩⟩;intro b c e;unfold G9 at e;split at e;rename_i d;subst d;cases e;exact⟨E,u,y⟩;obtain⟨B,s,v⟩:=hI.gh b c e;exact⟨B,s,by rw[r b (Ca hI e)];exact v⟩;intro i x e;have h1:=hI.obj i x e;refine qN h1 t (cN _) (λ_ _=>rfl) (f i x e) λg A=>?_;obtain⟨h2,h3⟩:=iT h1 A;exact⟨r g h2,by unfold G9;rw[if_neg o_];exact h3⟩;exact hI.dis;intro b c e;unfold G9 at e;split at e;rename_i d;exact .inr (.inl o_);exact .inl e
def M9{h:GH}{b:Nat}:∀(l:List UInt8)(o:Nat),(∀j u,l[j]?=some u->oY h b (o+j)=some (.int .u8 u.toNat))->kF h b 1 (l.map λb=>[.v (.int .u8 b.toNat)]) o|[],_,_=>by simp[kF]|u::l,o,a=>by simp only[fG,kF,mR];refine⟨rfl,⟨⟨_,rfl,by simpa using a 0 u rfl,by simp[oB]⟩,trivial⟩,M9 l (o+1) λj v c=>?_⟩;have:=a (j+1) v ox;rw[<-this];congr 1;omega
def Z7 {g d e:TypeId} {u:TypeDesc} (t:P.underlying g=some u) (y:P.underlying d=some (.slice e)) (i:P.underlying e=some (.int .u8))
 (C:tU G h) (hI:Inv h φ w T) (B:uN h φ T.length s a) {p:Operand} {x:AV} {T':aK} (f:cE T (dW G s) (.s2b p)=some (x,T')):
 jD h φ T w ((convert g d (a.eval p)).run P w) x T':=by
 simp only[cE]at f;split at f;rename_i c v;split at f;rename_i z;cases f;rw[lW C B v,Lib.run_convert_string_bytes w g d e c t y i];obtain⟨r,q⟩:=Z6 (w':=Lib.bytesWorld w e c) hI rfl rfl rfl (by rw[Lib.bytesWorld_size];omega) (λb A=>Lib.bytesWorld_at_old w e c b A) (Lib.bytesWorld_at_new w e c) (by simp[Lib.bytesWorld,World.freeze,World.alloc,World.drew,-World.alloc_eq,-World.drew_eq]);have o:(lJ c).length=c.size:=by simp[lJ]
 refine⟨_,_,_,_,rfl,q,r,?_⟩;simp only[Rp,oB];refine⟨_,_,by rw[o],by rw[o];exact grownCap_ge w c.size 0 e,grownCap_le_maxLen w c.size 0 e z,.inr ⟨_,0,rfl,?_⟩⟩;refine M9 _ 0 λj u m=>?_;have l:j<c.data.size:=by rcases eD j c.data.size with n|n;exact n;rw[sX (by simpa using n)]at m;simp at m
 have k:c.data[j]?=some u:=by simpa using m
 simp only[oY,G9,if_true,H6,pQ,Lib.bytesCells];rw[X5 Z_,Array.getElem?_map,k];rfl;simp at f;simp at f
end
section
variable{P:Program}{h:GH}{φ:Nat->Value}{T:aK}{w:World}
def aF1{t e:TypeId}(X:P.underlying t=some (.slice e))(G:P.underlying e=some (.int .u8))(hI:Inv h φ w T){i:Nat}{N:O_}{es:N_}(q:T[i]?=some (some (.arr 1 (N::es)))):
 jD h φ T w ((convert t t (φ i)).run P w) (.ls 1 (N::es)) (T.set i none):=by
 obtain⟨hc,y⟩:=hI.obj i _ q;rcases y with⟨A,_,h0⟩|⟨g,c,a,E,L,D,e3,e4,e5,e6,e7⟩
 simp at h0;have I:w.shape? g=some (E,a.size):=by unfold World.shape?;rw[D]
 have u:(convert t t (φ i)).run P w=.ok (φ i) (w.freeze ⟨g,a.size,none⟩ 1):=by rw[L];simp[convert,run_underlying X,run_underlying G,markStringish,I]
 have Z:g<w.heap.size:=by rcases eD g w.heap.size with n|n;exact n;rw[Hz n]at D;simp at D
 have f:w.freeze ⟨g,a.size,none⟩ 1={w with heap:=w.heap.modify g fun
  |.cells c B (lo,q)=>.cells c B (if lo==q then(a.size,a.size+1) else(min lo a.size,max q (a.size+1)))|o=>o}:=by
  unfold World.freeze;rw[if_neg d_];rfl
 have z:(w.freeze ⟨g,a.size,none⟩ 1).heap[g]?=some (.cells a E (a.size,a.size+1)):=by rw[f];simp only[YA,D,if_true,iX];rfl
 have m:∀b,b≠g->(w.freeze ⟨g,a.size,none⟩ 1).heap[b]?=w.heap[b]?:=by intro b s;rw[f];simp only[YA,if_neg (Ne.symm s)]
 have H:(w.freeze ⟨g,a.size,none⟩ 1).heap.size=w.heap.size:=by rw[f];simp
 have r:kI (φ i)=some g:=by rw[L];rfl
 have F:CA h (G9 h g a):=by intro b M l;unfold G9;rw[if_neg (by rintro rfl;rw[e6]at l;simp at l)];exact l
 have p:∀{j:Nat}{x:AObj},(T.set i none)[j]?=some (some x)->j≠i/\T[j]?=some (some x):=by intro j x C;rw[Hx]at C;split at C;split at C<;>simp at C;rename_i n;exact⟨λh=>n h.symm,C⟩
 refine⟨_,_,G9 h g a,φ,u,⟨by rw[f],by rw[f],by rw[f],by rw[H];exact cN _,λb _ Y=>m b (by rintro rfl;exact Y i _ q r),F,?_,λ_ _=>rfl,λj o b k s=>.inr ⟨j,o,(p k).2,s⟩,s_,by rw[f];exact cN _⟩,⟨?_,?_,?_⟩,?_⟩;intro b M l;unfold G9 at l;split at l;rename_i d;subst d;exact .inr (.inr ⟨i,_,q,r⟩);exact .inl l;intro b M l;unfold G9 at l;split at l;rename_i d;subst d;cases l;exact⟨E,_,z⟩;rename_i d;obtain⟨E',fr,W⟩:=hI.gh b M l;exact⟨E',fr,by rw[m b d];exact W⟩;intro j o k;obtain⟨K,k⟩:=p k;have J:j<T.length:=by rcases eD j T.length with n|n;exact n;rw[sX n]at k;simp at k
 refine qN (hI.obj j o k) F s_ (λ_ _=>rfl) J λb s=>?_;have d:b≠g:=by rintro rfl;exact K (hI.dis j i _ _ _ k q s r)
 refine⟨m b d,?_⟩;unfold G9;rw[if_neg d];exact(iT (hI.obj j o k) s).2;intro V U Q O b h1 h2 S R;exact hI.dis V U Q O b (p h1).2 (p h2).2 S R;simp only[Rp,oB];refine⟨_,c+1,L,e3,e4,.inr ⟨g,0,rfl,?_⟩⟩;refine kF.of_list (e7.mono F) hc λj v k=>?_;unfold oY G9;rw[if_pos rfl];rw[BT]at k;split at k;simpa using k;simp at k
def Z8 {G:L_} {s:List (Nat×AV)} {a:Act} {t e:TypeId} (g:P.underlying t=some (.slice e)) (d:P.underlying e=some (.int .u8))
 (q:tU G h) (hI:Inv h φ w T) (n:uN h φ T.length s a) {p:Operand} {x:AV} {T':aK} (b:cE T (dW G s) (.b2b p)=some (x,T')):
 jD h φ T w ((convert t t (a.eval p)).run P w) x T':=by
 simp only[cE]at b;split at b;rename_i i j;have f:=dN q n p;rw[j]at f;simp only[Rp]at f;split at b;rename_i k y v c;split at b;rename_i m;subst m;cases b;rw[f.2.1];apply aF1 g d hI;unfold cR at c;split at c;rename_i o l;rw[l];injection c with c;rw[c];simp at c;simp at b;simp at b;simp at b
end
section
variable{P:Program}{G:L_}{h:GH}{φ:Nat->Value}{T:aK}{w:World}{s:List (Nat×AV)}{a:Act}
def WC{T:aK}{k:Nat}{x:AV}{es:N_}(e:Rj T k x=some es):Zu T k x=some (es,true):=by unfold Rj at e;grind[Zu,sZ]
def Tv{h:GH}:∀{es:N_}{l:List UInt8}{us:C_},aKs es=some l->cK h es.flatten us->∃a:B_,us=a.map (Value.int .u8)/\l=a.map λn=>UInt8.ofNat n.toNat
 |[],l,us,e,b=>by
  simp_all[aKs,E_,B9,cK]
 |[.v (.int .u8 n)]::r,l,us,e,b=>by simp only[aKs]at e;split at e;rename_i g d;cases e;simp only[zK,jC,dM,cK,oB]at b;obtain⟨u,c,rfl,rfl,h2⟩:=b;obtain⟨a,h3,f⟩:=Tv d h2;exact⟨n::a,by simp[h3],by simp[f]⟩;simp at e
def NA:∀(a:B_)(s:ByteArray),a.foldl (λr n=>r.push (UInt8.ofNat n.toNat)) s=⟨(s.data.toList++a.map λn=>UInt8.ofNat n.toNat).toArray⟩|[],s=>by simp|n::a,s=>by rw[CW,NA a];simp
def Z9 {m d e:TypeId} (F:P.underlying m=some (.slice e)) (C:P.underlying d=some .string) (y:P.underlying e=some (.int .u8))
 (M:tU G h) (hI:Inv h φ w T) (L:uN h φ T.length s a) {p:Operand} {x:AV} {T':aK} (k:cE T (dW G s) (.b2s p)=some (x,T')):
 T'=T/\∃v,(convert m d (a.eval p)).run P w=.ok v w/\Rp h φ T.length x v:=by
 have H:=dN M L p;simp only[cE]at k;split at k;rename_i D B;split at k;rename_i l I;cases k;obtain⟨t,A,c,g,E,r,f⟩:=aC9 hI H (WC B);obtain⟨q,h1,h2⟩:=Tv I r;refine⟨rfl,.string ⟨l.toArray⟩,?_,z_⟩;rw[E,run_convert_bytes_string w m d e _ _ _ F y C];have i:q.length=D.length:=by have:=r.length;rw[Af λd C=>(t d C).1,h1]at this;simp_all
 cases A with
 |none=>
  rcases f with rfl|⟨b,o,u,_⟩
  have:q=[]:=Ae (by simpa using i);subst this;subst h2;rfl;simp at u
 | some A=>
  have n:(loadCells A D.length).run P w=.ok (q.map (Value.int .u8)).toArray w:=by
   rcases f with rfl|⟨b,o,u,K⟩
   have:q=[]:=Ae (by simpa using i);subst this;rfl;cases u;rw[<-h1];have z:D.length=g.length:=h_;rw[z];exact run_loadCells_list w ⟨b,o,none⟩ g λj v J=>by rw[iG];exact K j v J
  rw[run_bytesToString w A _ _ q n,NA,h2];simp
 simp at k;simp at k
def Rv(d:tU G h)(c:uN h φ T.length s a){o:Operand}{n:Nat}(e:Zj (dW G s o)=some n):∃k i,a.eval o=.int k i/\0<=i/\n=i.toNat:=by unfold Zj at e;split at e;rename_i k i b;split at e;rename_i h0;injection e with e;exact⟨k,i,lW d c b,h0,e.symm⟩;simp at e;simp at e
def Ag{t e:TypeId}(h:P.underlying t=some (.slice e)){k:Nat}(j:oZ P e=some k){A:Option Addr}{d c l m x:Nat}{lo:Option Value}(r:Bnd lo 0 l){o n:IntKind}{g f:Int}(q:0<=g/\m=g.toNat)(p:0<=f/\x=f.toNat)(h1:l<=m)(h2:m<=x)(h3:x<=c):
 (Instr.sliceAt t (.slice A d c) lo (some (.int o g)) (some (.int n f))).run P w=.ok (.slice (if x=l then A else A.map (·.add (l*k))) (m-l) (x-l)) w:=by
 obtain⟨b,rfl⟩:=q;obtain⟨a,rfl⟩:=p;rcases r with⟨rfl,rfl⟩|⟨s,i,rfl,h0,rfl⟩
 simp[Instr.sliceAt,Instr.slice,run_underlying h,Instr.sliceBounds,iH a h3,iH b h2,qM j];simp[Instr.sliceAt,Instr.slice,run_underlying h,Instr.sliceBounds,iH a h3,iH b h2,iH h0 h1,qM j]
def Cd(hI:Inv h φ w T)(A:Option Addr)(k:Nat):jD h φ T w (.ok (.slice A 0 0) w) (.own T.length) (T++[some (.arr k [])]):=by have:=tL (w':=w) (o:=.arr k []) (v:=.slice A 0 0) hI rfl rfl rfl (cN _) (λ_ _=>rfl) (λg a=>by cases A<;>simp[kI]at a) ⟨s_,.inl ⟨A,bI,rfl⟩⟩;refine⟨_,w,h,_,rfl,this.2,this.1,?_⟩;simp only[Rp];exact⟨s_,bI.symm,_,_,_,rfl⟩
def En(hI:Inv h φ w T){r:Result Value}{v:Value}{x:AV}(b:r=.ok v w)(a:Rp h φ T.length x v):jD h φ T w r x T:=⟨v,w,h,φ,b,Evo.refl,hI,a⟩
def o3 {t e:TypeId} (L:P.underlying t=some (.slice e)) {k:Nat} (M:oZ P e=some k)
 (O:tU G h) (hI:Inv h φ w T) (N:uN h φ T.length s a) {p:Operand} {lo:Option Operand} {V mx:Operand} {x:AV} {T':aK} (d:cE T (dW G s) (.slx p lo V mx k)=some (x,T')):
 jD h φ T w ((Instr.sliceAt t (a.eval p) (lo.map a.eval) (some (a.eval V)) (some (a.eval mx))).run P w) x T':=by
 have v:=dN O N p;simp only[cE]at d;split at d;rename_i l m y S hm hy;obtain⟨k1,i1,Y,K,J⟩:=Rv O N hm;obtain⟨k2,i2,X,I,H⟩:=Rv O N hy;have z:Bnd (lo.map a.eval) 0 l:=by
  cases lo with
  |none=>simp only[E_]at S;exact .inl ⟨rfl,S.symm⟩|some o=>obtain⟨Q,i',l1,l2,l3⟩:=Rv O N S;exact .inr ⟨Q,i',by simp[l1],l2,l3⟩
 rw[Y,X];split at d;rename_i Q W f;rw[f]at v;simp only[Rp,oB]at v;obtain⟨A,c,R,h1,h2,h3⟩:=v;split at d;rename_i F;obtain⟨rfl,u,r,C⟩:=F;rw[R,Ag L M z ⟨K,J⟩ ⟨I,H⟩ u r o_];split at d;rename_i aa;cases d;rw[(o_:m-l=0),(o_:y-l=0)];exact Cd hI _ _;cases d;apply En hI rfl;have D:((W.drop l).take (m-l)).length=m-l:=by rw[eC,vY];omega
 simp only[Rp,oB];refine⟨_,y-l,by rw[D],by rw[D];omega,o_,?_⟩;by_cases h0:m-l=0;exact .inl (by rw[h0];simp);rcases h3 with rfl|⟨b,o,rfl,hE⟩
 simp at C;omega;refine .inr ⟨b,o+l*k,sc,?_⟩;exact(hE.drop l).take _;simp at d;rename_i i f;rw[f]at v;simp only[Rp]at v;split at d;rename_i Q W hg;split at d;rename_i F;obtain⟨rfl,u,r,C⟩:=F;obtain⟨_,h1|⟨g,c,ab,E,B,_,h2,h3,_⟩⟩:=AS hI hg;obtain⟨A,h1,rfl⟩:=h1;rw[v.2.1,h1];simp only[gQ]at C;rw[Ag L M z ⟨K,J⟩ ⟨I,H⟩ u r o_];rw[if_pos o_]at d;cases d;rw[(o_:m-l=0),(o_:y-l=0)];exact Cd hI _ _;rw[v.2.1,B,Ag L M z ⟨K,J⟩ ⟨I,H⟩ u r o_];split at d;cases d;rw[(o_:m-l=0),(o_:y-l=0)];exact Cd hI _ _;cases d;apply En hI rfl;simp only[Rp];refine⟨v.1,_,_,rfl,o_,o_,?_⟩;by_cases h0:m-l=0;exact .inl h0;exact .inr ⟨g,_,c+1,B,sc,o_⟩;simp at d;simp at d;rename_i i Q Z n f;rw[f]at v;simp only[Rp]at v;obtain⟨U,A,c,R,h1,h2,h3⟩:=v;split at d;rename_i F;obtain⟨rfl,u,r,C⟩:=F;rw[R,Ag L M z ⟨K,J⟩ ⟨I,H⟩ u r o_];split at d;cases d;rw[(o_:m-l=0),(o_:y-l=0)];exact Cd hI _ _;cases d;apply En hI rfl;simp only[Rp];refine⟨U,_,_,rfl,o_,o_,?_⟩;by_cases h0:m-l=0;exact .inl h0;rcases h3 with rfl|⟨g,l',c',B,rfl,h4⟩
 omega;exact .inr ⟨g,l',c',B,by rw[if_neg o_];simp[iG,aGg],o_⟩;simp at d;rename_i f;split at d;rename_i F;obtain⟨rfl,rfl,rfl⟩:=F;cases d;rw[lW O N f,Ag L M z ⟨K,J⟩ ⟨I,H⟩ (cN _) (cN _) (cN _)];exact Cd hI _ _;simp at d;simp at d;simp at d
end
section
variable{P:Program}{G:L_}{h:GH}{φ:Nat->Value}{T:aK}{w:World}{s:List (Nat×AV)}{a:Act}
def o4 {t D et:TypeId} (ht:P.underlying t=some (.map D et)) {ag:Bool} {ls:List LK} (L:iF P 20 D=some (ag,ls)) {i0:TypeInfo} (Y:P.info? et=some i0) {z:Value} (hz:i0.zero=some z)
 (hG:tU G h) (hI:Inv h φ w T) (hS:uN h φ T.length s a) {m k:Operand} {x:AV} {T':aK} (d:cE T (dW G s) (.men ag ls z m k)=some (x,T')):
 jD h φ T w ((Instr.mapEntry t (a.eval m) (a.eval k)).run P w) x T':=by
 have U:=dN hG hS m;have V:=dN hG hS k;simp only[cE]at d;split at d;rename_i i Z;rw[Z]at U;simp only[Rp]at U;split at d;rename_i ae A Q bs C kc M W;split at d;rename_i ab;subst ab;obtain⟨l,b,hb⟩:=Ly V W;have I:∀em,(Instr.checkKey em 10000 D (a.eval k)).run P w=.ok () w:=λem=>by rw[l];exact Ts 20 D ag ls L 10000 o_ kc b hb
 obtain⟨g,f,h1,h2,h3,J,h5,h6⟩:=DH hI M;rw[U.2.1,h1];split at d;rename_i N;cases d;obtain⟨out,O,K⟩:=zP (w:=w) L d_ J N;simp only[Ek]at O;subst O;rw[<-l]at K;have c:=DI hI M h1 h2 (ens':=f.push {key:=a.eval k,val:=z,born:=C}) (ks':=A++[kc]) (vs':=Q++[.v z]) (bs':=bs++[C]) (cl':=C+1)
  (by simp[J,l]) (by simp[h5]) (by simp only[Array.toList_push,bZ,fG,uP];exact h6.app (by simp[cC,Rp]))
 refine⟨.tuple #[z,goInt C],_,h,φ,by simp[Instr.mapEntry,run_underlying ht,lK h2,I,K,zeroValue,typeInfo,Y,hz,tW _ h2],c.2,c.1,?_⟩;simp[Rp,cC,goInt];rename_i j N;split at d;rename_i x' b' R aa;cases d;obtain⟨out,O,K⟩:=zP (w:=w) L d_ J N;obtain⟨_,e,B,f4⟩:=O;subst f4;rw[<-l]at K;simp only[QO]at B;have H:e.key=a.eval k:=by
  have o:(A.map (iY ag))[j]?=some e.key:=by rw[<-J,gE,B];rfl
  rw[gE]at o
  cases r:A[j]? with
  |none=>simp[r]at o|some k'=>
   simp only[r,iX,E_]at o;have:rJ ls kc k'=some true:=M7 A 0 N kw;rw[<-o,l,Ej this]
 have ad:f[j]?=some e:=by simpa using B
 have nG:(Instr.keyThatStays e.key (a.eval k)).run P w=.ok (a.eval k) w:=by rw[H,l];exact Tt hb (Fv (P:=P) (w:=w) 20 D ag ls L).1
 have c:=DI hI M h1 h2 (ens':=f.modify j λe=>{e with key:=a.eval k}) (ks':=A) (vs':=Q) (bs':=bs) (cl':=C)
  (by rw[mH,El _ _ _ (λe' p=>by rw[B]at p;cases p;exact H.symm)];exact J)
  (by rw[mH,yL f.toList j (λe=>{e with key:=a.eval k}) (λ_=>rfl)];exact h5)
  (by
   rw[mH];have:(f.toList.modify j λe=>{e with key:=a.eval k}).map (·.val)=f.toList.map (·.val):=by apply EW;intro n;simp only[gE,List.getElem?_modify];by_cases F:j=n;subst F;simp only[if_true];cases f.toList[j]?<;>rfl;simp[F]
   rw[this]
   exact h6)
 have ac:T.set i (some (.map ag A Q bs C))=T:=by have:=bH M;apply EW;intro n;rw[Hx];split;rename_i X;subst X;split;exact this.symm;rename_i hh;rw[sX o_]at this;simp at this;rfl
 rw[ac]at c;have y:e.born=b':=by
  have:(f.toList.map (·.born))[j]?=some e.born:=by rw[gE,B];rfl
  rw[h5,aa]at this;exact(Option.some.inj this).symm
 have E:Rp h φ T.length x' e.val:=by obtain⟨u,q,S⟩:=h6.get R;rw[gE,B]at q;simp only[iX,E_]at q;rw[q];exact S
 refine⟨.tuple #[e.val,goInt e.born],_,h,φ,by simp[Instr.mapEntry,run_underlying ht,lK h2,I,K,ad,nG,tW _ h2],c.2,c.1,?_⟩;simp only[Rp,cC];exact⟨_,rfl,_,_,rfl,E,_,_,rfl,by simp[goInt,y],rfl⟩;simp at d;simp at d;simp at d;simp at d;simp at d
def Tw{bs:V_}{ens:List MapEntry}(h:ens.map (·.born)=bs)(n:Int):ens.findIdx? (λe=>(e.born:Int)==n)=bs.findIdx? (λ(b:Nat)=>(b:Int)==n):=by subst h;rw[List.findIdx?_map];rfl
def o5 {t:TypeId}
 (u:tU G h) (hI:Inv h φ w T) (r:uN h φ T.length s a) {m k q:Operand} {x:AV} {T':aK} (c:cE T (dW G s) (.mst m k q)=some (x,T')):
 ∃l,(Instr.entryStore t (a.eval m) (a.eval k) (a.eval q)).run P w=.ok () l/\x=.v undef/\Evo h φ T w h φ T' l/\Inv h φ l T':=by
 have o:=dN u r m;have C:=dN u r q;simp only[cE]at c;split at c;rename_i i M n p D;rw[p]at o;simp only[Rp]at o;split at c;rename_i N B A bs L y;split at c;rename_i j E;cases c;obtain⟨g,b,h1,h2,h3,I,z,H⟩:=DH hI y;have d:=DI hI y h1 h2 (ens':=b.modify j λe=>{e with val:=a.eval q}) (ks':=B) (vs':=A.set j (dW G s q)) (bs':=bs) (cl':=L)
  (by
   rw[mH];have:(b.toList.modify j λe=>{e with val:=a.eval q}).map (·.key)=b.toList.map (·.key):=by apply EW;intro n;simp only[gE,List.getElem?_modify];by_cases f:j=n;subst f;simp only[if_true];cases b.toList[j]?<;>rfl;simp[f]
   rw[this];exact I)
  (by rw[mH,yL b.toList j (λe=>{e with val:=a.eval q}) (λ_=>rfl)];exact z)
  (by rw[mH,Em b.toList j (λe=>{e with val:=a.eval q}) (a.eval q) (λ_=>rfl)];exact H.setv C)
 have F:b.findIdx? (λe=>(e.born:Int)==n)=some j:=by
  rw[show b.findIdx? (λe=>(e.born:Int)==n)=b.toList.findIdx? (λe=>(e.born:Int)==n) from by
   conv=>lhs;rw[show b=b.toList.toArray from by rw[YD]]
   rw[List.findIdx?_toArray],Tw z]
  exact E
 refine⟨_,?_,rfl,d.2,d.1⟩;rw[o.2.1,h1,lW u r D];simp[Instr.entryStore,lK h2,asInt,asIntOf,F,tW _ h2];simp at c;simp at c;simp at c
def HA{α:Type}(xs:Array α)(j:Nat):(xs.eraseIdxIfInBounds j).toList=xs.toList.eraseIdx j:=by unfold Array.eraseIdxIfInBounds;split;simp;rename_i a;rw[List.eraseIdx_of_length_le];simpa using a
def Ce{α a:Type}(f:α->a):∀(l:List α)(j:Nat),(l.eraseIdx j).map f=(l.map f).eraseIdx j|[],_=>rfl|_::l,0=>rfl|x::l,j+1=>by simp[Ce f l j]
def cC.erase{cs:O_}{us:C_}{n:Nat}:∀{j:Nat},cC h φ n cs us->cC h φ n (cs.eraseIdx j) (us.eraseIdx j):=by
 induction cs generalizing us with
 |nil=>intro j e;simp only[cC]at e;subst e;simp[cC]|cons c cs ih=>
  intro j e;simp only[cC]at e;obtain⟨u,a,rfl,h1,h2⟩:=e
  cases j with
  |zero=>simpa using h2|succ j=>simp only[X7,cC];exact⟨u,_,rfl,h1,ih h2⟩
def o6 {t r Y ty:TypeId} (O:P.underlying t=some (.map r Y)) {ag:Bool} {ls:List LK} (E:iF P 20 r=some (ag,ls)) {ts:Array TypeId} (l:ts[0]?=some t)
 (R:tU G h) (hI:Inv h φ w T) (Q:uN h φ T.length s a) {m k:Operand} {x:AV} {T':aK} (d:cE T (dW G s) (.del ag ls m k)=some (x,T')):
 jD h φ T w ((Builtin.delete_ ts ty #[a.eval m,a.eval k]).run P w) x T':=by
 have B:=dN R Q m;have C:=dN R Q k;simp only[cE]at d;split at d;rename_i i I;rw[I]at B;simp only[Rp]at B;split at d;rename_i Z A z bs N kc u D;split at d;rename_i J;subst J;obtain⟨f,b,W⟩:=Ly C D;have o:∀V,(Instr.checkKey V 10000 r (a.eval k)).run P w=.ok () w:=λV=>by rw[f];exact Ts 20 r ag ls E 10000 o_ kc b W
 obtain⟨g,q,h1,h2,h3,v,U,S⟩:=DH hI u;rw[B.2.1,h1];have K:T.set i (some (.map ag A z bs N))=T:=by have:=bH u;apply EW;intro n;rw[Hx];split;rename_i F;subst F;split;exact this.symm;rename_i hh;rw[sX o_]at this;simp at this;rfl
 split at d;rename_i H;cases d;obtain⟨out,y,p⟩:=zP (w:=w) E d_ v H;simp only[Ek]at y;subst y;rw[<-f]at p;have c:=DI hI u h1 h2 (ens':=q) (ks':=A) (vs':=z) (bs':=bs) (cl':=N) v U S;rw[K]at c;refine⟨.tuple #[],_,h,φ,by simp[Builtin.delete_,l,run_underlying O,lK h2,o,p,tW _ h2],c.2,c.1,z_⟩;rename_i j H;cases d;obtain⟨out,y,p⟩:=zP (w:=w) E d_ v H;obtain⟨_,e,f3,X⟩:=y;subst X;rw[<-f]at p;have c:=DI hI u h1 h2 (ens':=q.eraseIdxIfInBounds j) (ks':=A.eraseIdx j) (vs':=z.eraseIdx j) (bs':=bs.eraseIdx j) (cl':=N)
  (by rw[HA,Ce,v,<-Ce]) (by rw[HA,Ce,U]) (by rw[HA,Ce];exact S.erase)
 refine⟨.tuple #[],_,h,φ,by simp[Builtin.delete_,l,run_underlying O,lK h2,o,p,tW _ h2],c.2,c.1,z_⟩;simp at d;simp at d;simp at d;simp at d
end
section
variable{P:Program}{G:L_}{h:GH}{φ:Nat->Value}{T:aK}{w:World}{s:List (Nat×AV)}{a:Act}
def NB{T:aK}{j:Nat}{x:Option AObj}(h:T[j]?=some x):T.set j x=T:=by apply EW;grind
def o7 {t z C:TypeId} (r:P.underlying t=some (.map z C)) (y:tU G h) (hI:Inv h φ w T) (u:uN h φ T.length s a) {m:Operand} {x:AV} {T':aK} (d:cE T (dW G s) (.rgm m)=some (x,T')):
 jD h φ T w ((Instr.range t (a.eval m)).run P w) x T':=by
 have k:=dN y u m;have f:∀(o:AObj)(i:Option Nat)(c st:Nat),uF h (upd φ T.length (.pointer (some ⟨w.heap.size,0,none⟩))) (T.length+1) (w.alloc (.mapIter i c #[] st)) T.length o ->
  jD h φ T w (.ok (.pointer (some ⟨w.heap.size,0,none⟩)) (w.alloc (.mapIter i c #[] st))) (.ptr T.length 0) (T++[some o]):=by
  intro o i c st A;have:=tL (w':=w.alloc (.mapIter i c #[] st)) (o:=o) (v:=.pointer (some ⟨w.heap.size,0,none⟩)) hI rfl rfl rfl s_ (λb B=>kX w _ b B)
   (λg n=>by simp only[kI,E_]at n;omega) A
  refine⟨_,_,h,_,rfl,this.2,this.1,?_⟩;simp only[Rp];exact⟨s_,_,bI,rfl⟩
 simp only[cE]at d;split at d;rename_i e;cases d;rw[lW y u e];have:(Instr.range t (.map none)).run P w=.ok (.pointer (some ⟨w.heap.size,0,none⟩)) (w.alloc (.mapIter none 0 #[] 0)):=by simp[Instr.range,run_underlying r]
 rw[this];exact f _ none 0 0 ⟨w.heap.size,none,bI,heap_alloc_new w _,Fx hI,rfl⟩;rename_i j e;rw[e]at k;simp only[Rp]at k;split at d;rename_i K F E bs l n;cases d;obtain⟨g,D,h1,h2,h3,J,I,H⟩:=DH hI n;have:(Instr.range t (a.eval m)).run P w=.ok (.pointer (some ⟨w.heap.size,0,none⟩)) (w.alloc (.mapIter (some g) l #[] l)):=by rw[k.2.1,h1];simp[Instr.range,run_underlying r,lK h2]
 rw[this];exact f _ (some g) l l ⟨w.heap.size,some g,bI,heap_alloc_new w _,Fx hI,g,rfl,o_,by rw[gN k.1];exact h1⟩;simp at d;simp at d
def WD(hI:Inv h φ w T){i:Nat}{m:Option Nat}{a:Nat}{aAD:V_}{st:Nat}(d:cR T i=some (.mit m a aAD st)):
 ∃(g:Nat)(c:Option Nat),φ i=.pointer (some ⟨g,0,none⟩)/\w.heap[g]?=some (.mapIter c a aAD.toArray st)/\h g=none /\
  (match(generalizing:=false) m with|none=>c=none|some j=>∃b,c=some b/\j<T.length/\φ j=.map (some b)):=hI.obj i _ (bH d)
def aHn {st:St} {K:AV->aK->Prop} (hG:tU G h) (hI:Inv h φ w st.T) (hS:uN h φ st.T.length st.s a) {p:Operand} (l:yF P G st (.nxt p) K) (ty:TypeId):
 ∃v w',(Instr.next (a.eval p) false ty).run P w=.ok v w'/\CS h φ st.T w K v w':=by
 have S:=dN hG hS p;simp only[yF]at l;split at l;rename_i i Y;rw[Y]at S;simp only[Rp]at S;obtain⟨aa,g,f,Q⟩:=S;split at l;rename_i c aAD la I;obtain⟨g',mo,d,H,e3,e4⟩:=WD hI I;simp only at e4;subst e4;rw[f]at d;cases d;refine⟨.tuple #[.bool false],w,?_,_,st.T,h,φ,l,Evo.refl,hI,z_⟩;rw[Q];simp[Instr.next,getObj,Sem.run,H,Sem.run_bind,Result.andThen];rename_i j c aAD la I;split at l;rename_i ag ks vs bs A hm;obtain⟨w1,w2,w3,w4⟩:=l;obtain⟨g',mo,d,H,e3,b,rfl,e5,e6⟩:=WD hI I;rw[f]at d;cases d;obtain⟨gm,t,y,m2,m3,m4,M,Z⟩:=DH hI hm;rw[e6]at y;cases y;have C:∀x∈t.toList,x.born<c:=λx N=>w2 x.born (by rw[<-M];exact List.mem_map_of_mem N);rcases run_next_at (P:=P) w ty g b c la aAD.toArray t A H m2 C w1 with⟨q,L⟩|⟨e,q,n,L,n3⟩
 refine⟨_,w,by rw[Q];exact L,_,st.T,h,φ,w3 ?_,Evo.refl,hI,z_⟩;intro b' F;rw[<-M]at F;obtain⟨x,N,rfl⟩:=dF.1 F;have:=QA q;unfold leftOf at this;rw[Array.filter_eq_empty_iff]at this;have:=this x (by simpa using N);simpa using this;unfold leftOf at q;simp only[Array.toList_filter,gR]at q;obtain⟨q,n4⟩:=q;obtain⟨z,m⟩:=QF q;have hk:∃k,ks[z]?=some k/\e.key=iY ag k:=by
  have:(t.toList.map (·.key))[z]?=some e.key:=by rw[gE,m];rfl
  rw[m4,gE]at this
  cases D:ks[z]? with
  |none=>simp[D]at this|some k=>simp only[D,iX,E_]at this;exact⟨k,rfl,this.symm⟩
 obtain⟨k,W,V⟩:=hk;have hb:bs[z]?=some e.born:=by rw[<-M,gE,m];rfl
 have B:z<vs.length:=by rw[Z.length,aP];have:=(sV.1 m).1;exact this
 obtain⟨u,r,O⟩:=Z.get (jN B);rw[gE,m]at r;simp only[iX,E_]at r;subst r;have hK:=w4 z k _ e.born W (jN B) hb (by simpa using n4);have o:Inv h φ (Go.ChangeMaps.setBlock n g (.mapIter (some b) c (aAD.toArray.push e.born) A)) (st.T.set i (some (.mit (some j) c (aAD++[e.born]) A))) /\
  Evo h φ st.T w h φ (st.T.set i (some (.mit (some j) c (aAD++[e.born]) A))) (Go.ChangeMaps.setBlock n g (.mapIter (some b) c (aAD.toArray.push e.born) A)):=by
  have R:n.heap=w.heap/\n.os=w.os/\n.tape=w.tape/\n.output=w.output/\w.drawn<=n.drawn:=by rcases L with rfl|rfl;exact⟨rfl,rfl,rfl,rfl,cN _⟩;exact⟨rfl,rfl,rfl,rfl,Kl _⟩
  obtain⟨J,s2,s3,s4,s5⟩:=R;have X:g<w.heap.size:=by rcases eD g w.heap.size with E|E;exact E;rw[Hz E]at H;simp at H
  refine Fw (w':=Go.ChangeMaps.setBlock n g (.mapIter (some b) c (aAD.toArray.push e.born) A)) hI s2 s3 s4 (by simp[Go.ChangeMaps.setBlock,J]) (bH I) (λb' _ U=>?_) ⟨g,some b,f,?_,e3,b,rfl,e5,e6⟩ s5;have:b'≠g:=λE=>U (by rw[f,E];rfl);simp[Go.ChangeMaps.setBlock,J,Ne.symm this];simp[Go.ChangeMaps.setBlock,J,X]
 refine⟨_,_,by rw[Q];exact n3,_,_,h,φ,hK,o.2,o.1,?_⟩;rw[V];simp only[Rp,cC];rw[cL];exact⟨_,rfl,_,_,rfl,rfl,_,_,rfl,rfl,_,_,rfl,O,rfl⟩;exact l.elim;exact l.elim;exact l.elim
def o8 (Z:tU G h) (hI:Inv h φ w T) (Y:uN h φ T.length s a) {p:Operand} {x:AV} {T':aK} (d:cE T (dW G s) (.ent p)=some (x,T')):
 T'=T/\∃v,(Instr.entry (a.eval p)).run P w=.ok v w/\Rp h φ T.length x v:=by
 have B:=dN Z Y p;simp only[cE]at d;split at d;rename_i i C;rw[C]at B;simp only[Rp]at B;obtain⟨W,g,A,R⟩:=B;split at d;rename_i j z aAD la X;split at d;rename_i ag ks vs bs cl b V hb;split at d;rename_i F;subst F;split at d;rename_i e I;split at d;rename_i k v hk N;cases d;obtain⟨g',mo,f,H,e3,bm,rfl,e5,e6⟩:=WD hI X;rw[A]at f;cases f;obtain⟨gm,c,o,M,m3,m4,L,K⟩:=DH hI V;rw[e6]at o;cases o;have y:c.findIdx? (λx=>x.born==b)=some e:=by
  conv=>lhs;rw[show c=c.toList.toArray from by rw[YD]]
  rw[List.findIdx?_toArray];rw[<-L,List.findIdx?_map]at I;exact I
 have D:∃l,c[e]?=some l/\c.find? (λx=>x.born==b)=some l:=by rw[Array.findIdx?_eq_some_iff_getElem]at y;obtain⟨r,U,S⟩:=y;refine⟨c[e],Ri r,?_⟩;grind[Array.find?_eq_some_iff_getElem]
 obtain⟨l,E,m⟩:=D;have J:c.toList[e]?=some l:=by simpa using E
 have t:l.key=iY ag k:=by
  have:(c.toList.map (·.key))[e]?=some l.key:=m_;simp_all
 have q:Rp h φ T.length v l.val:=by obtain⟨u,Q,O⟩:=K.get N;simp_all
 have n:aAD.toArray.back?=some b:=h_;refine⟨rfl,.tuple #[l.key,l.val],?_,?_⟩;rw[R];simp[Instr.entry,getObj,Sem.run_bind,Sem.run,H,M,Result.andThen,n,m];rw[t];simp only[Rp,cC];exact⟨_,rfl,_,_,rfl,rfl,_,_,rfl,q,rfl⟩;simp at d;simp at d;simp at d;simp at d;simp at d;simp at d
def o9(z:Array Value)(b:0<z.size)(n:Nat):(Builtin.zeroCells z n).toList=(List.replicate n z.toList).flatten:=by
 have a:∀n,(List.replicate n z.toList).flatten=II z.toList n:=by
  intro n
  induction n with
  |zero=>rfl|succ n ih=>simp[TW,II,ih]
 rw[a];exact QZ z b n
def Tx(z:C_)(h:GH):∀n,cK h (List.replicate n (z.map AV.v)).flatten (List.replicate n z).flatten|0=>by simp[cK]|n+1=>by rw[TW,TW,zK,zK];exact(Ru h z).app (Tx z h n)
def aA0 {t e ty:TypeId} (ht:P.underlying t=some (.slice e)) {i:TypeInfo} (hi:P.info? e=some i) {z:Value} (hz:i.zero=some z) (ab:z.cells.size=i.size) (h0:0<i.size) (h1:(z.cells.toList.all λv=>gS (.v v))=true)
 (hG:tU G h) (hI:Inv h φ w T) (hS:uN h φ T.length s a) {p:Operand} {x:AV} {T':aK} (q:cE T (dW G s) (.clr p i.size z.cells.toList)=some (x,T')):
 jD h φ T w ((Builtin.clear_ #[t] ty #[a.eval p]).run P w) x T':=by
 have I:=dN hG hS p;have b:∀A c,(Builtin.clear_ #[t] ty #[.slice A 0 c]).run P w=.ok (.tuple #[]) w:=by intro A c;cases A<;>simp[Builtin.clear_,run_underlying ht]
 have S:∀n,∀v∈(List.replicate n z.cells.toList).flatten,v.oneCell'=true:=by intro n v hv;obtain⟨l,M,R⟩:=Kh.1 hv;rw[YM M]at R;have:=oD.1 h1 v R;exact Lr (h:=h) (φ:=φ) (n:=0) (x:=.v v) z_ this
 have u:∀n,(List.replicate n z.cells.toList).flatten.length=n*i.size:=h_;have aa:∀(g o n c:Nat)(f:Array Value)(E:TypeId),0<n->w.heap[g]?=some (.cells f E (0,0))->o+n*i.size<=f.size ->
  (Builtin.clear_ #[t] ty #[.slice (some ⟨g,o,none⟩) n c]).run P w=.ok (.tuple #[]) (w.setRow g (f.toList.take o++(List.replicate n z.cells.toList).flatten++f.toList.drop (o+n*i.size)).toArray):=by
  intro g o n c f E hn Q L;have nG:=run_storeCells_at P g o E (List.replicate n z.cells.toList).flatten 0 f w Q (by rw[u];omega) (S n);simp only[mG,u]at nG;obtain⟨m,rfl⟩:∃m,n=m+1:=⟨n-1,o_⟩
  simp[Builtin.clear_,run_underlying ht,zeroValue,typeInfo,hi,hz,o9 z.cells o_,nG]
 have D:∀(j k lo n c:Nat)(es:N_)(g:Nat),cR T j=some (.arr i.size es)->φ j=.slice (some ⟨g,0,none⟩) es.length c->lo+n<=es.length->(z.cells.toList.all λv=>aX (.v v))=true ->
  jD h φ T w ((Builtin.clear_ #[t] ty #[.slice (some ⟨g,lo*i.size,none⟩) n k]).run P w) (.v (.tuple #[])) (T.set j (some (.arr i.size (es.take lo++List.replicate n (z.cells.toList.map .v)++es.drop (lo+n))))):=by
  intro j k lo n c es g H r L ae;by_cases hn:n=0;subst hn;rw[b];have:T.set j (some (.arr i.size (es.take lo++List.replicate 0 (z.cells.toList.map .v)++es.drop (lo+0))))=T:=by simp only[aBP,jO,mG,LC];exact NB (bH H)
  rw[this];exact⟨_,w,h,φ,rfl,Evo.refl,hI,z_⟩;obtain⟨M,h2|⟨g',Y,f,E,y,Q,h3,h4,h5,h6,h7⟩⟩:=AS hI H;simp_all;rw[r]at y;injection y with C K e3;cases C;subst e3;have V:∀d∈es,d.length=i.size:=λd J=>(M d J).1;have U:(lo+n)*i.size<=es.length*i.size:=H2 _ L;have ad:es.length*i.size<=(Y+1)*i.size:=H2 _ h3;rw[aGg]at U;rw[aa g (lo*i.size) n k f E o_ Q o_];have W:f.toList.length=(Y+1)*i.size:=by rw[show f.toList.length=f.size from GV,h5]
  have ac:∀d∈es.take lo++List.replicate n (z.cells.toList.map AV.v)++es.drop (lo+n),d.length=i.size/\∀c∈d,aX c=true:=by intro d J;simp only[cG]at J;rcases J with(J|J)|J;exact M d (C8 J);rw[YM J];refine⟨by simp[ab],λc X=>?_⟩;obtain⟨v,hv,rfl⟩:=dF.1 X;exact oD.1 ae v hv;exact M d (QG J)
  have F:(es.take lo++List.replicate n (z.cells.toList.map AV.v)++es.drop (lo+n)).length=es.length:=by simp only[dZ,eC,QE,vY];omega
  have N:(es.take lo++List.replicate n (z.cells.toList.map AV.v)++es.drop (lo+n)).flatten=es.flatten.take (lo*i.size)++(List.replicate n (z.cells.toList.map AV.v)).flatten++es.flatten.drop (lo*i.size+n*i.size):=by rw[Kf,Kf,Fz V,Fy V,aGg]
  have:=Lt (o':=.arr i.size (es.take lo++List.replicate n (z.cells.toList.map AV.v)++es.drop (lo+n))) hI (bH H) Q (by rw[r];rfl)
   (new:=(f.toList.take (lo*i.size)++(List.replicate n z.cells.toList).flatten++f.toList.drop (lo*i.size+n*i.size)).toArray)
   ⟨ac,.inr ⟨g,Y,_,E,by rw[r,F],setRow_heap w g f _ E _ Q,by rw[F];exact h3,h4,by
    rw[Gn];simp only[dZ,eC,vY,u,W];omega,h6,by
    rw[N,F];have:=Mz f.toList (List.replicate n z.cells.toList).flatten (lo*i.size) (n*i.size) (es.length*i.size) o_ o_ (u n);show cK h _ (List.take _ (f.toList.take (lo*i.size)++(List.replicate n z.cells.toList).flatten++f.toList.drop (lo*i.size+n*i.size)));rw[this]
    exact((h7.take _).app (Tx _ h n)).app (h7.drop _)⟩⟩
  exact⟨_,_,h,φ,rfl,this.2,this.1,z_⟩
 simp only[cE]at q;split at q;rename_i k B;cases q;rw[B]at I;simp only[Rp,oB]at I;obtain⟨A,c,Z,_⟩:=I;rw[Z];simp only[gQ];rw[b];exact⟨_,w,h,φ,rfl,Evo.refl,hI,z_⟩;rename_i B;cases q;rw[lW hG hS B,b];exact⟨_,w,h,φ,rfl,Evo.refl,hI,z_⟩;rename_i j B;rw[B]at I;simp only[Rp]at I;split at q;rename_i k' es H;split at q;rename_i X;obtain⟨rfl,ah,O⟩:=X;cases q;obtain⟨_,h2|⟨g,c,f,E,r,_⟩⟩:=AS hI H;obtain⟨A,hA,rfl⟩:=h2;rw[I.2.1,hA,b];have:T.set j (some (.arr i.size (List.replicate ([]:N_).length (z.cells.toList.map .v))))=T:=by simp only[gQ,aBP];exact NB (bH H)
 rw[this];exact⟨_,w,h,φ,rfl,Evo.refl,hI,z_⟩;rw[I.2.1,r];have:=D j (c+1) 0 es.length (c+1) es g H r o_ O;simpa using this;simp at q;simp at q;rename_i j k' lo m B;rw[B]at I;simp only[Rp]at I;split at q;rename_i ai es H;split at q;rename_i X;obtain⟨rfl,rfl,ah,O,af⟩:=X;cases q;obtain⟨_,A,c,Z,_,_,h3⟩:=I;rcases h3 with rfl|⟨g,l,Y,r,rfl,L⟩
 rw[Z,b];have:T.set j (some (.arr i.size (es.take lo++List.replicate 0 (z.cells.toList.map .v)++es.drop (lo+0))))=T:=by simp only[aBP,jO,mG,LC];exact NB (bH H)
 rw[this];exact⟨_,w,h,φ,rfl,Evo.refl,hI,z_⟩;rw[Z];have M:l=es.length:=by obtain⟨_,h2|⟨g',c2,f,E,y,_⟩⟩:=AS hI H;obtain⟨A,hA,rfl⟩:=h2;rw[r]at hA;injection hA;rw[r]at y;injection y
 subst M;exact D j c lo m Y es g H r O af;simp at q;simp at q;simp at q
end
def Lz (P:Program) (o:Oper):Option HOp :=
 match o.op with
 | .makeMap t none=>match P.underlying t with
  |some (.map a _)=>match iF P 20 a with|some (b,_)=>some (.mkm b)|none=>none
  |_=>none
 | .lookup t m k d=>match P.underlying t with
  | some (.map a e)=>match iF P 20 a,P.info? e with
   |some (b,ls),some i=>match i.zero with|some z=>some (.lku b ls z m k d)|none=>none
   |_,_=>none
  |_=>none
 | .mapUpdate t m k x=>match P.underlying t with
  |some (.map a _)=>match iF P 20 a with|some (b,ls)=>some (.mup b ls m k x)|none=>none
  |_=>none
 | .insert t m k x=>match P.underlying t with
  |some (.map a _)=>match iF P 20 a with|some (b,ls)=>some (.mup b ls m k x)|none=>none
  |_=>none
 | .call c=>match c.callee,c.args.toList,c.argTypes[0]? with
  |.builtin .len,[x],some t=>match P.underlying t with|some (.map _ _)=>some (.lenM x)|_=>none
  |_,_,_=>none
 |_=>none
def aLs (P:Program) (o:Oper):Option HOp :=
 match o.op with
 | .buildSlice t f a=>match P.underlying t with
  |some (.slice e)=>match P.info? e with|some i=>if f=0/\a.size=0 then some (.bsl i.size [] [] 0) else none|none=>none
  |_=>none
 | .makeSlice t x y=>match P.underlying t with
  | some (.slice e)=>match P.info? e with
   |some i=>match i.zero with|some z=>if z.cells.size=i.size/\0<i.size/\(z.cells.toList.all λx=>aX (.v x))=true then some (.mks i.size z.cells.toList i.bytes x y) else none|none=>none
   |none=>none
  |_=>none
 | .convert b d x=>match P.underlying b,P.underlying d with
  |some .string,some (.slice e)=>match P.underlying e with|some (.int .u8)=>some (.s2b x)|_=>none
  |some (.slice e),some .string=>match P.underlying e with|some (.int .u8)=>some (.b2s x)|_=>none
  |some (.slice e),some (.slice _)=>if b=d then(match P.underlying e with|some (.int .u8)=>some (.b2b x)|_=>none) else none
  |_,_=>none
 | .slice t x lo (some j) (some mx)=>match P.underlying t with
  |some (.slice e)=>match oZ P e with|some k=>some (.slx x lo j mx k)|none=>none
  |_=>none
 | .mapEntry t m k=>match P.underlying t with
  | some (.map g l)=>match iF P 20 g,P.info? l with
   |some (h,ls),some i=>match i.zero with|some z=>some (.men h ls z m k)|none=>none
   |_,_=>none
  |_=>none
 |.entryStore _ m s x=>some (.mst m s x)| .call c=>match c.callee,c.args.toList,c.argTypes[0]? with
  | .builtin .delete,[m,k],some t=>match P.underlying t with
   |some (.map g _)=>match iF P 20 g with|some (h,ls)=>some (.del h ls m k)|none=>none
   |_=>none
  |_,_,_=>none
 |_=>none
def L3 (P:Program) (o:Oper):Option HOp :=
 match o.op with
 |.makeFunc (.func f) first a=>some (.bmo f first.size (first.toList++a.toList))
 |.range t m=>match P.underlying t with|some (.map _ _)=>some (.rgm m)|_=>none
 |.next b false=>some (.nxt b)|.entry b=>some (.ent b)|.panic _=>some .bad|.makeInterface _ _=>some .bad| .call c=>match c.callee,c.args.toList,c.argTypes.toList with
  | .builtin .clear,[x],[t]=>match P.underlying t with
   | some (.slice e)=>match P.info? e with
    |some i=>match i.zero with|some z=>if z.cells.size=i.size/\0<i.size/\(z.cells.toList.all λv=>gS (.v v))=true then some (.clr x i.size z.cells.toList) else none|none=>none
    |none=>none
   |_=>none
  |_,_,_=>none
 |_=>none
def L4 (P:Program) (o:Oper):Option HOp :=
 match o.op with
 | .binOp b t x y _=>
  if b=.eql\/b=.neq then
   match P.underlying t with
   |some (.array n e)=>match P.underlying e with|some (.int k)=>if P.cellsOf e=1/\(P.info? e).isSome/\GY P e=some none/\eqG P P.depth t=false then some (.eqa (b==.neq) (List.replicate n (.int k)) x y) else none|_=>none
   |_=>none
  else none
 | .build t a=>match P.underlying t,P.info? t with
  | some (.array _ e),some i=>match i.zero with
   |some z=>match P.info? e with|some _=>some (.bld z.cells.toList (Jb (P.cellsOf e) a.toList))|none=>none
   |none=>none
  |_,_=>none
 | .call c=>match c.callee,c.args.toList,c.argTypes.toList with
  | .builtin .append,[x,y],[t,u]=>match P.underlying t,P.underlying u with
   | some (.slice e),some .string=>match P.info? e with
    |some i=>match i.zero with|some z=>if z.cells.size=i.size/\i.size=1/\i.bytes=1 then some (.apS x y) else none|none=>none
    |none=>none
   |_,_=>none
  |_,_,_=>none
 |_=>none
def HB (P:Program) (o:Oper):Option HOp :=
 match gG P o with
 |some h=>some h| none=>match Lx P o with|some h=>some h| none=>match Lz P o with|some h=>some h| none=>match aLs P o with|some h=>some h|none=>match L3 P o with|some h=>some h|none=>L4 P o
section
variable{P:Program}{G:L_}{h:GH}{φ:Nat->Value}{w:World}{a:Act}{st:St}{K:AV->aK->Prop}{next:Act->World->Prop}{Q:Exit->Act->World->Prop}
def aA3 {o:Oper} {A:HOp} (b:Lz P o=some A) (R:yF P G st A K) (M:tU G h) (hI:Inv h φ w st.T) (L:uN h φ st.T.length st.s a)
 (U:∀v E,CS h φ st.T w K v E->next (a.put o.dst v) E):rL P o a w next:=by
 have q:∀{sv:Sem Value}(_:execOp a.eval o=(do pure (.value (<-sv))))(_:(∀f l,A≠.call f l)/\(∀p,A≠.nxt p)/\∀n k x,A≠.nilS n k x)(_:∀x g,cE st.T (dW G st.s) A=some (x,g)->g=st.T/\∃v,sv.run P w=.ok v w/\Rp h φ st.T.length x v),rL P o a w next:=by intro sv u d r;obtain⟨x,g,e,C⟩:=GZ d R;obtain⟨rfl,v,h1,h2⟩:=r x g e;exact uT u h1 (U v w (tE hI h2 C))
 have D:∀{sv:Sem Value}(_:execOp a.eval o=(do pure (.value (<-sv))))(_:(∀f l,A≠.call f l)/\(∀p,A≠.nxt p)/\∀n k x,A≠.nilS n k x)(_:∀x g,cE st.T (dW G st.s) A=some (x,g)->jD h φ st.T w (sv.run P w) x g),rL P o a w next:=by intro sv u d r;obtain⟨x,g,e,C⟩:=GZ d R;obtain⟨v,E,h1,h2⟩:=Cb (r x g e) C;exact uT u h1 (U v E h2)
 have j:∀{su:Sem Unit}(_:execOp a.eval o=(do su;pure .skip))(_:(∀f l,A≠.call f l)/\(∀p,A≠.nxt p)/\∀n k x,A≠.nilS n k x)(_:∀x g,cE st.T (dW G st.s) A=some (x,g)->∃E,su.run P w=.ok () E/\x=.v undef/\Evo h φ st.T w h φ g E/\Inv h φ E g),rL P o a w next:=by intro su u d r;obtain⟨x,g,e,C⟩:=GZ d R;obtain⟨E,h1,rfl,h2,h3⟩:=r x g e;unfold rL;rw[u];simp only[Sem.run_bind,h1,Result.andThen_ok,Sem.run_pure];exact U undef E ⟨_,g,h,φ,C,h2,h3,z_⟩
 obtain⟨aa,op,X,Y,W,V⟩:=o;unfold Lz at b;simp only at b;split at b;rename_i t;split at b;rename_i J N F;split at b;rename_i Q ls C;cases b;refine D (sv:=Instr.makeMap t none) rfl s_ λx g u=>?_;simp only[cE,E_,Prod.mk.injEq]at u;obtain⟨rfl,rfl⟩:=u;exact Z0 hI t Q;simp at b;simp at b;rename_i t m k Z;split at b;rename_i J N F;split at b;rename_i Q ls i C hi;split at b;rename_i z hz;cases b;exact q (sv:=Instr.lookup t (a.eval m) (a.eval k) Z) rfl s_ λy g u=>Z4 F C hi hz M hI L u;simp at b;simp at b;simp at b;rename_i t m k x;split at b;rename_i J N F;split at b;rename_i Q ls C;cases b;exact j (su:=Instr.mapUpdate t (a.eval m) (a.eval k) (a.eval x)) rfl s_ λy g u=>Qe F C M hI L u;simp at b;simp at b;rename_i t m k x;split at b;rename_i J N F;split at b;rename_i Q ls C;cases b;exact j (su:=Instr.mapUpdate t (a.eval m) (a.eval k) (a.eval x)) rfl s_ λy g u=>Qe F C M hI L u;simp at b;simp at b;rename_i c;obtain⟨O,I,B⟩:=c;simp only at b;split at b;rename_i x t H S;have ha:I=#[x]:=EY.1 (by rw[H]);subst ha;split at b;rename_i J N F;cases b;exact q (sv:=Builtin.len_ B X #[a.eval x]) K_ s_ λy g u=>WA F S M hI L u;simp at b;simp at b;simp at b
def aA4 {o:Oper} {A:HOp} (b:aLs P o=some A) (Y:yF P G st A K) (N:tU G h) (hI:Inv h φ w st.T) (M:uN h φ st.T.length st.s a)
 (hn:∀v I,CS h φ st.T w K v I->next (a.put o.dst v) I):rL P o a w next:=by
 have D:∀{sv:Sem Value}(_:execOp a.eval o=(do pure (.value (<-sv))))(_:(∀f l,A≠.call f l)/\(∀p,A≠.nxt p)/\∀n k x,A≠.nilS n k x)(_:∀x j,cE st.T (dW G st.s) A=some (x,j)->j=st.T/\∃v,sv.run P w=.ok v w/\Rp h φ st.T.length x v),rL P o a w next:=by intro sv q r u;obtain⟨x,j,e,F⟩:=GZ r Y;obtain⟨rfl,v,h1,h2⟩:=u x j e;exact uT q h1 (hn v w (tE hI h2 F))
 have g:∀{sv:Sem Value}(_:execOp a.eval o=(do pure (.value (<-sv))))(_:(∀f l,A≠.call f l)/\(∀p,A≠.nxt p)/\∀n k x,A≠.nilS n k x)(_:∀x j,cE st.T (dW G st.s) A=some (x,j)->jD h φ st.T w (sv.run P w) x j),rL P o a w next:=by intro sv q r u;obtain⟨x,j,e,F⟩:=GZ r Y;obtain⟨v,I,h1,h2⟩:=Cb (u x j e) F;exact uT q h1 (hn v I h2)
 have C:∀{su:Sem Unit}(_:execOp a.eval o=(do su;pure .skip))(_:(∀f l,A≠.call f l)/\(∀p,A≠.nxt p)/\∀n k x,A≠.nilS n k x)(_:∀x j,cE st.T (dW G st.s) A=some (x,j)->∃I,su.run P w=.ok () I/\x=.v undef/\Evo h φ st.T w h φ j I/\Inv h φ I j),rL P o a w next:=by intro su q r u;obtain⟨x,j,e,F⟩:=GZ r Y;obtain⟨I,h1,rfl,h2,h3⟩:=u x j e;unfold rL;rw[q];simp only[Sem.run_bind,h1,Result.andThen_ok,Sem.run_pure];exact hn undef I ⟨_,j,h,φ,F,h2,h3,z_⟩
 obtain⟨af,op,ty,ad,ac,ab⟩:=o;unfold aLs at b;simp only at b;split at b;rename_i t ae O;split at b;rename_i e L;split at b;rename_i i Q;split at b;rename_i H;obtain⟨rfl,hp⟩:=H;have:O=#[]:=QA hp;subst this;cases b;exact g (sv:=Instr.buildSlice t 0 #[]) (by simp[execOp]) s_ λy j q=>WB L Q hI q;simp at b;simp at b;simp at b;rename_i t x y;split at b;rename_i e L;split at b;rename_i i Q;split at b;rename_i z X;split at b;rename_i H;cases b;exact g (sv:=Instr.makeSlice t (a.eval x) (a.eval y)) rfl s_ λy j q=>Z5 L Q X H.1 H.2.1 H.2.2 N hI M q;simp at b;simp at b;simp at b;simp at b;rename_i J d x;split at b;rename_i e S V;split at b;rename_i E;cases b;exact g (sv:=convert J d (a.eval x)) rfl s_ λy j q=>Z7 S V E N hI M q;simp at b;rename_i e S V;split at b;rename_i E;cases b;exact D (sv:=convert J d (a.eval x)) rfl s_ λy j q=>Z9 S V E N hI M q;simp at b;rename_i e _ S V;split at b;rename_i aa;subst aa;split at b;rename_i E;cases b;exact g (sv:=convert J J (a.eval x)) rfl s_ λy j q=>Z8 S E N hI M q;simp at b;simp at b;simp at b;rename_i t x lo Q mx;split at b;rename_i e L;split at b;rename_i k F;cases b;exact g (sv:=Instr.sliceAt t (a.eval x) (lo.map a.eval) (some (a.eval Q)) (some (a.eval mx))) rfl s_ λy j q=>o3 L F N hI M q;simp at b;simp at b;rename_i t m k;split at b;rename_i kt et L;split at b;rename_i ag ls i F Q;split at b;rename_i z X;cases b;exact g (sv:=Instr.mapEntry t (a.eval m) (a.eval k)) rfl s_ λy j q=>o4 L F Q X N hI M q;simp at b;simp at b;simp at b;rename_i t m k x;cases b;exact C (su:=Instr.entryStore t (a.eval m) (a.eval k) (a.eval x)) rfl s_ λy j q=>o5 N hI M q;rename_i c;obtain⟨W,U,B⟩:=c;simp only at b;split at b;rename_i m k t R Z;have ha:U=#[m,k]:=EY.1 (by rw[R]);subst ha;split at b;rename_i kt et L;split at b;rename_i ag ls F;cases b;exact g (sv:=Builtin.delete_ B ty #[a.eval m,a.eval k]) K_ s_ λy j q=>o6 L F Z N hI M q;simp at b;simp at b;simp at b;simp at b
def aA5 {o:Oper} {C:HOp} (b:L3 P o=some C) (H:yF P G st C K) (J:tU G h) (hI:Inv h φ w st.T) (I:uN h φ st.T.length st.s a)
 (S:∀v F,CS h φ st.T w K v F->next (a.put o.dst v) F):rL P o a w next:=by
 have g:∀{sv:Sem Value}(_:execOp a.eval o=(do pure (.value (<-sv))))(_:(∀f l,C≠.call f l)/\(∀p,C≠.nxt p)/\∀n k x,C≠.nilS n k x)(_:∀x u,cE st.T (dW G st.s) C=some (x,u)->u=st.T/\∃v,sv.run P w=.ok v w/\Rp h φ st.T.length x v),rL P o a w next:=by intro sv A q B;obtain⟨x,u,e,U⟩:=GZ q H;obtain⟨rfl,v,h1,h2⟩:=B x u e;exact uT A h1 (S v w (tE hI h2 U))
 have j:∀{sv:Sem Value}(_:execOp a.eval o=(do pure (.value (<-sv))))(_:(∀f l,C≠.call f l)/\(∀p,C≠.nxt p)/\∀n k x,C≠.nilS n k x)(_:∀x u,cE st.T (dW G st.s) C=some (x,u)->jD h φ st.T w (sv.run P w) x u),rL P o a w next:=by intro sv A q B;obtain⟨x,u,e,U⟩:=GZ q H;obtain⟨v,F,h1,h2⟩:=Cb (B x u e) U;exact uT A h1 (S v F h2)
 obtain⟨aa,op,N,X,W,V⟩:=o;unfold L3 at b;simp only at b;split at b;rename_i f first d
 cases b;refine g (sv:=pure (.func (.func f) (first.map a.eval) (d.map a.eval))) (by simp[execOp,Instr.makeFunc]) s_ λy u A=>?_;simp only[cE,E_,Prod.mk.injEq]at A;obtain⟨rfl,rfl⟩:=A;refine⟨rfl,_,rfl,?_⟩;simp only[Rp];refine⟨(first++d).map a.eval,?_,?_⟩;have h1:(first++d).map a.eval=(first.map a.eval)++(d.map a.eval):=s_;have h2:(((first++d).map a.eval).toList.take first.size).toArray=first.map a.eval:=by apply EY.1;rw[h1];simp only[TV];rw[TY s_]
 have h3:(((first++d).map a.eval).toList.drop first.size).toArray=d.map a.eval:=by apply EY.1;rw[h1];simp only[TV];rw[List.drop_left' s_]
 rw[h2,h3];simpa using Mq J I (first.toList++d.toList);rename_i t m;split at b;rename_i kt et R;cases b;exact j (sv:=Instr.range t (a.eval m)) rfl s_ λy u A=>o7 R J hI I A;simp at b;rename_i O;cases b;obtain⟨v,F,h1,h2⟩:=aHn J hI I H N;exact uT (sv:=Instr.next (a.eval O) false N) rfl h1 (S v F h2);rename_i O;cases b;exact g (sv:=Instr.entry (a.eval O)) rfl s_ λy u A=>o8 J hI I A;cases b;exact H.elim;cases b;exact H.elim;rename_i c;obtain⟨M,L,r⟩:=c;simp only at b;split at b;rename_i x t E Q;have ha:L=#[x]:=EY.1 (by rw[E]);have hb:r=#[t]:=EY.1 (by rw[Q]);subst ha;subst hb;split at b;rename_i e R;split at b;rename_i i Z;split at b;rename_i z Y;split at b;rename_i D;cases b;exact j (sv:=Builtin.clear_ #[t] N #[a.eval x]) K_ s_ λy u A=>aA0 R Z Y D.1 D.2.1 D.2.2 J hI I A;simp at b;simp at b;simp at b;simp at b;simp at b;simp at b
def Tz {e:TypeId} {k:IntKind} (j:P.underlying e=some (.int k)) (i:GY P e=some none) (d:Nat) (xs f:Array Value):∀(m s:Nat)(b:Bool),s+m<=xs.size->s+m<=f.size->rJ (List.replicate m (.int k)) ((xs.toList.drop s).take m) ((f.toList.drop s).take m)=some b ->
 (Op.eqItems (d+1) e 1 xs f (List.range' s m)).run P w=.ok b w
 |0,s,b,_,_,h=>by
  simp_all[rJ,Op.eqItems]
 | m+1,s,b,h1,h2,h=>by
  have q:(xs.toList.drop s).take (m+1)=xs[s]::(xs.toList.drop (s+1)).take m:=by rw[Kc c_,QI];simp
  have p:(f.toList.drop s).take (m+1)=f[s]::(f.toList.drop (s+1)).take m:=by rw[Kc c_,QI];simp
  rw[q,p,TW]at h;have o:(part e xs (s*1)).run P w=.ok xs[s] w:=by have:=Eg (P:=P) (w:=w) (t:=e) (X:=xs) (off:=s) (ag:=false) (n:=1) i (λ_=>rfl) o_;rw[Bb,this];grind[iY]
  have l:(part e f (s*1)).run P w=.ok f[s] w:=by have:=Eg (P:=P) (w:=w) (t:=e) (X:=f) (off:=s) (ag:=false) (n:=1) i (λ_=>rfl) o_;rw[Bb,this];grind[iY]
  have ih:=Tz j i d xs f m (s+1);simp only[List.range'_succ,Op.eqItems,Sem.run_bind,o,l,Result.andThen_ok];generalize xs[s]=x at h;generalize f[s]=y at h;cases x<;>cases y<;>simp only[rJ]at h<;>(try (simp at h;done))
  rename_i A a z c;split at h;rename_i g;obtain⟨rfl,rfl⟩:=g;split at h;rename_i r u;cases h;rw[run_equalIn_int w d e _ _ _ _ j];simp only[Result.andThen_ok];have:=ih r o_ o_ u;cases v:(a==c);simp;simpa using this;simp at h;simp at h
def aA6 {o:Oper} {J:HOp} (d:L4 P o=some J) (hw:yF P G st J K) (hG:tU G h) (hI:Inv h φ w st.T) (Z:uN h φ st.T.length st.s a)
 (hn:∀v X,CS h φ st.T w K v X->next (a.put o.dst v) X):rL P o a w next:=by
 have g:∀{sv:Sem Value}(_:execOp a.eval o=(do pure (.value (<-sv))))(_:(∀f l,J≠.call f l)/\(∀p,J≠.nxt p)/\∀n k x,J≠.nilS n k x)(_:∀x E,cE st.T (dW G st.s) J=some (x,E)->E=st.T/\∃v,sv.run P w=.ok v w/\Rp h φ st.T.length x v),rL P o a w next:=by intro sv D B I;obtain⟨x,E,e,U⟩:=GZ B hw;obtain⟨rfl,v,h1,h2⟩:=I x E e;exact uT D h1 (hn v w (tE hI h2 U))
 have H:∀{sv:Sem Value}(_:execOp a.eval o=(do pure (.value (<-sv))))(_:(∀f l,J≠.call f l)/\(∀p,J≠.nxt p)/\∀n k x,J≠.nilS n k x)(_:∀x E,cE st.T (dW G st.s) J=some (x,E)->jD h φ st.T w (sv.run P w) x E),rL P o a w next:=by intro sv D B I;obtain⟨x,E,e,U⟩:=GZ B hw;obtain⟨v,X,h1,h2⟩:=Cb (I x E e) U;exact uT D h1 (hn v X h2)
 obtain⟨am,Y,ty,ak,aj,ai⟩:=o;unfold L4 at d;split at d;rename_i Y t x y u m;simp only at m;subst m;split at d;rename_i S;split at d;rename_i n e Q;split at d;rename_i k U;split at d;rename_i A;obtain⟨ah,af,ae,M⟩:=A;rw[aNh]at M;cases d;obtain⟨i,V⟩:=aBI.1 af;refine g (sv:=do eqGuard Y t x y (a.eval x) (a.eval y);binOp Y t (a.eval x) (a.eval y)) rfl s_ λz E e=>?_;simp only[cE]at e;split at e;rename_i cs ds h1 h2;split at e;rename_i b hb;simp only[E_,Prod.mk.injEq]at e;obtain⟨rfl,rfl⟩:=e;obtain⟨L,e1,r1⟩:=Lw (dN hG Z x) h1;obtain⟨F,e2,r2⟩:=Lw (dN hG Z y) h2;have R:=M4 hb r1 r2;have hl:=Bf R;have al:L.size=n/\F.size=n:=by simpa using hl
 have hq:(Op.equalIn 10000 t (.agg L) (.agg F)).run P w=.ok b w:=by rw[run_equalIn_array w 9999 L F Q V,ah,List.range_eq_range'];apply Tz U ae 9998 L F n 0 b o_ o_;rw[TZ,TZ,sG c_,sG c_];exact R
 rw[e1,e2];refine⟨rfl,.bool (if Y==.neq then !b else b),?_,z_⟩;rcases S with rfl|rfl;simp only[Sem.run_bind,run_eqGuard_agg w .eql t x y L F M,Result.andThen_ok,run_eql_struct w t L F,hq];rfl;simp only[Sem.run_bind,run_eqGuard_agg w .neq t x y L F M,Result.andThen_ok,run_neq_struct w t L F,hq];rfl;simp at e;simp at e;simp at d;simp at d;simp at d;simp at d;rename_i t q m;simp only at m;subst m;split at d;rename_i n e i Q V;split at d;rename_i z hz;split at d;rename_i j hj;cases d;refine g (sv:=Instr.build t (q.map λ(i,x)=>(i,a.eval x))) rfl s_ λy E D=>?_;simp only[cE]at D;split at D;rename_i cs A;cases D;obtain⟨F,h1,h2⟩:=V0 hG Z (Jb (P.cellsOf e) q.toList) (Mw h φ st.T.length z.cells.toList) A;have N:=Ro (place:=λi=>some (i*P.cellsOf e,P.cellsOf e)) (λi=>(i*P.cellsOf e,P.cellsOf e)) (q.toList.map λp=>(p.1,a.eval p.2)) z.cells F (λp _=>rfl)
  (by rw[<-h1,QX];simp[Rn,rI,Function.comp_def])
 refine⟨rfl,.agg F.toArray,?_,by simp only[Rp];exact⟨_,rfl,d6⟩⟩;simp only[Instr.build,Sem.run_bind,zeroValue,typeInfo,run_program,Result.andThen_ok,V,Sem.run_pure,hz,run_underlying Q,run_sizeOf w hj];simp only[Array.toList_map];rw[N];rfl;simp at D;simp at d;simp at d;simp at d;rename_i c m;simp only at m;subst m;obtain⟨aa,W,C⟩:=c;simp only at d;split at d;rename_i x y t u O ac;have ha:W=#[x,y]:=EY.1 (by rw[O]);have ad:C=#[t,u]:=EY.1 (by rw[ac]);subst ha;subst ad;split at d;rename_i e Q ab;split at d;rename_i i V;split at d;rename_i z hz;split at d;rename_i A;cases d;exact H (sv:=Builtin.append_ #[t,u] ty #[a.eval x,a.eval y]) K_ s_ λr E D=>aA2 Q ab V hz A.1 A.2.1 A.2.2 hG hI Z D;simp at d;simp at d;simp at d;simp at d;simp at d;simp at d
def NC {o:Oper} {j:HOp} (b:HB P o=some j) (c:yF P G st j K) (g:tU G h) (hI:Inv h φ w st.T) (f:uN h φ st.T.length st.s a)
 (d:∀v i,CS h φ st.T w K v i->next (a.put o.dst v) i):rL P o a w next:=by
 unfold HB at b;split at b;rename_i h1 e;cases b;exact Zx e c g hI f d;split at b;rename_i h1 e;cases b;exact Zz e c g hI f d;split at b;rename_i h1 e;cases b;exact aA3 e c g hI f d;split at b;rename_i h1 e;cases b;exact aA4 e c g hI f d;split at b;rename_i h1 e;cases b;exact aA5 e c g hI f d;exact aA6 b c g hI f d
end
end Hud
