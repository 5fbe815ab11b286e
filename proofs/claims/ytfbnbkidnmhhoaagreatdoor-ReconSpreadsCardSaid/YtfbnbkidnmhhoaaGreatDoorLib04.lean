import Derived.Test.YtfbnbkidnmhhoaaGreatDoorLib03
import Derived.Lib.ConvBytes
import Derived.Laws.BytesString
import Derived.Laws.MakeOwn
import Derived.Maps.RangeRun
import Derived.Lib.AppendStr
import Derived.Laws.Append
set_option linter.all false
set_option maxHeartbeats 40000000
namespace Hud
open Go
section
variable{P:Program}{G:L_}{h:GH}{φ:Nat->Value}{T:aK}{w:World}{s:List (Nat×AV)}{a:Act}
def Bnd(o:Option Value)(d n:Nat):Prop:=(o=none/\n=d)\/∃k i,o=some (.int k i)/\0<=i/\n=i.toNat
def iH{k:IntKind}{i:Int}{y:Nat}{c:BoundsCode}(h0:0<=i)(a:i.toNat<=y):(Instr.sliceBound (.int k i) y c).run P w=.ok i.toNat w:=by
 have:0<=i/\i<=y:=⟨h0,o_⟩
 simp[Instr.sliceBound,asIntOf,this]
def EC{b:Bool}{c a l m:Nat}{e f:Option Value}(j:Bnd e 0 l)(n:Bnd f c m)(g:l<=m)(h2:m<=a):(Instr.sliceBounds b c a e f none).run P w=.ok (l,m,a) w:=by
 rcases j with⟨rfl,rfl⟩|⟨k,i,rfl,h,rfl⟩<;>rcases n with⟨rfl,rfl⟩|⟨o,p,rfl,d,rfl⟩
 rfl;simp[Instr.sliceBounds,iH d h2];simp[Instr.sliceBounds,iH h g];simp[Instr.sliceBounds,iH h g,iH d h2]
def Cc{t e:TypeId}(f:P.underlying t=some (.slice e)){k:Nat}(h:oZ P e=some k){A:Option Addr}{b a l m:Nat}{c d:Option Value}(g:Bnd c 0 l)(i:Bnd d b m)(j:l<=m)(h2:m<=a):
 (Instr.sliceAt t (.slice A b a) c d none).run P w=.ok (.slice (if a=l then A else A.map (·.add (l*k))) (m-l) (a-l)) w:=by
 simp[Instr.sliceAt,Instr.slice,run_underlying f,EC g i j h2,qM h]
def V6{t:TypeId}(d:P.underlying t=some .string){a:ByteArray}{l m:Nat}{b c:Option Value}(e:Bnd b 0 l)(f:Bnd c a.size m)(g:l<=m)(h2:m<=a.size):
 (Instr.sliceAt t (.string a) b c none).run P w=.ok (.string (a.extract l m)) w:=by
 simp[Instr.sliceAt,Instr.slice,run_underlying d,EC e f g h2]
def qD(ev:Operand->AV)(o:Option Operand)(d:Nat):Option Nat:=match o with|none=>some d|some o=>match ev o with|.v (.int _ n)=>if 0<=n then some n.toNat else none|_=>none
def aJH(f:tU G h)(c:uN h φ T.length s a){o:Option Operand}{d n:Nat}(e:qD (dW G s) o d=some n):Bnd (o.map a.eval) d n:=by unfold qD at e;split at e;injection e with e;exact .inl ⟨rfl,e.symm⟩;rename_i x;split at e;rename_i k i b;split at e;rename_i g;injection e with e;exact .inr ⟨k,i,by simp[lW f c b],g,e.symm⟩;simp at e;simp at e
def Zy {t e:TypeId} (O:P.underlying t=some (.slice e)) {k:Nat} (Q:oZ P e=some k)
 (r:tU G h) (hI:Inv h φ w T) (q:uN h φ T.length s a) {p:Operand} {L M:Option Operand} {x:AV} {Y:aK} (d:cE T (dW G s) (.slc p L M k)=some (x,Y)):
 Y=T/\∃v,(Instr.sliceAt t (a.eval p) (L.map a.eval) (M.map a.eval) none).run P w=.ok v w/\Rp h φ T.length x v:=by
 have u:=dN r q p
 change (match dW G s p with
  |.ls B z=>match qD (dW G s) L 0,qD (dW G s) M z.length with|some l,some h=>if k=B/\l<=h/\h<=z.length then some (.ls k ((z.drop l).take (h-l)),T) else none|_,_=>none
  | .own a=>match sZ (cR T a) with
   |some (B,z,_)=>match qD (dW G s) L 0,qD (dW G s) M z.length with|some l,some h=>if k=B/\l<=h/\h<=z.length then some (.vw a k l (h-l),T) else none|_,_=>none
   |_=>none
  |.vw a B N m=>match qD (dW G s) L 0,qD (dW G s) M m with|some l,some h=>if k=B/\l<=h/\h<=m then some (.vw a k (N+l) (h-l),T) else none|_,_=>none
  |.v (.slice none 0 0)=>match qD (dW G s) L 0,qD (dW G s) M 0 with|some l,some h=>if l=0/\h=0 then some (.v (.slice none 0 0),T) else none|_,_=>none
  |_=>none)=some (x,Y) at d
 split at d;rename_i B z f;rw[f]at u;simp only[Rp,oB]at u;obtain⟨A,c,W,R,h2,S⟩:=u;split at d;rename_i l m F C;split at d;rename_i I;obtain⟨rfl,j,H⟩:=I;cases d;rw[W];refine⟨rfl,_,Cc O Q (aJH r q F) (aJH r q C) j o_,?_⟩;have D:((z.drop l).take (m-l)).length=m-l:=c_;simp only[Rp,oB];refine⟨_,c-l,by rw[D],by rw[D];omega,o_,?_⟩;by_cases U:m-l=0;simp_all;rcases S with rfl|⟨b,o,rfl,hE⟩
 simp;refine .inr ⟨b,o+l*k,du,?_⟩;exact(hE.drop l).take _;simp at d;simp at d;rename_i i f;rw[f]at u;simp only[Rp]at u;split at d;rename_i B z b hg;split at d;rename_i l m F C;split at d;rename_i I;obtain⟨rfl,j,H⟩:=I;cases d;obtain⟨_,R|⟨g,c,aa,E,y,_,h2,S,_⟩⟩:=rK hI hg;obtain⟨A,R,rfl⟩:=R;rw[u.2.1,R];refine⟨rfl,_,Cc O Q (aJH r q F) (aJH r q C) j (by simpa using H),?_⟩;grind[Rp,List.length_nil];rw[u.2.1,y];refine⟨rfl,_,Cc O Q (aJH r q F) (aJH r q C) j o_,?_⟩;simp only[Rp];refine⟨u.1,_,_,rfl,o_,o_,?_⟩;by_cases U:m-l=0;exact .inl U;exact .inr ⟨g,_,c+1,y,du,o_⟩;simp at d;simp at d;simp at d;rename_i i B N n f;rw[f]at u;simp only[Rp]at u;obtain⟨X,A,c,W,R,h2,S⟩:=u;split at d;rename_i l m F C;split at d;rename_i I;obtain⟨rfl,j,H⟩:=I;cases d;rw[W];refine⟨rfl,_,Cc O Q (aJH r q F) (aJH r q C) j o_,?_⟩;simp only[Rp];refine⟨X,_,_,rfl,o_,o_,?_⟩;by_cases U:m-l=0;exact .inl U;rcases S with rfl|⟨g,V,c',y,rfl,Z⟩
 omega;exact .inr ⟨g,V,c',y,by rw[if_neg o_];simp[iG,xE],o_⟩;simp at d;simp at d;rename_i f;rw[lW r q f];split at d;rename_i l m F C;split at d;rename_i I;obtain⟨rfl,rfl⟩:=I;cases d;exact⟨rfl,_,Cc O Q (aJH r q F) (aJH r q C) (cN _) (cN _),x_⟩;simp at d;simp at d;simp at d
def V7{t:TypeId}(n:P.underlying t=some .string)
 (i:tU G h) (g:uN h φ T.length s a) {p:Operand} {d e:Option Operand} {x:AV} {j:aK} (b:cE T (dW G s) (.slcS p d e)=some (x,j)):
 j=T/\∃v,(Instr.sliceAt t (a.eval p) (d.map a.eval) (e.map a.eval) none).run P w=.ok v w/\Rp h φ T.length x v:=by
 change (match dW G s p with
  |.v (.string c)=>match qD (dW G s) d 0,qD (dW G s) e c.size with|some l,some h=>if l<=h/\h<=c.size then some (.v (.string (c.extract l h)),T) else none|_,_=>none
  |_=>none)=some (x,j) at b
 split at b;rename_i c f;rw[lW i g f];split at b;rename_i l m q o;split at b;rename_i k;cases b;exact⟨rfl,_,V6 n (aJH i g q) (aJH i g o) k.1 k.2,x_⟩;simp at b;simp at b;simp at b
def V8(d:TypeDesc)(c:Value):Option Nat :=
 match d,c with
 |.pointer _,.pointer none=>some 0|.slice _,.slice none 0 0=>some 1|.func _ _ _,.nilFunc=>some 2|_,_=>none
def IN:Value->Prop|.pointer _=>True|.slice _ _ _=>True|.nilFunc=>True|.func _ _ _=>True|_=>False
def yK:∃d,Op.maxDepth=d+1:=⟨9999,rfl⟩
def Yc{t:TypeId}{d:TypeDesc}{c u:Value}{f:Nat}(a:V8 d c=some f){neg b:Bool}{p y:Operand}(e:(Op.equal t u c).run P w=.ok b w)
 (h2:IN u):
 (do eqGuard (if neg then .neq else .eql) t p y u c;binOp (if neg then .neq else .eql) t u c).run P w=.ok (.bool (if neg then !b else b)) w:=by
 unfold V8 at a;split at a;cases u<;>simp only[IN]at h2<;>cases neg<;>simp[eqGuard,binOp,e];cases u<;>simp only[IN]at h2<;>cases neg<;>simp[eqGuard,binOp,e];cases u<;>simp only[IN]at h2<;>cases neg<;>simp[eqGuard,binOp,e];simp at a
def V9 {t:TypeId} {d:TypeDesc} (B:P.underlying t=some d) {c:Value} {O:Nat} (q:V8 d c=some O) {neg:Bool} {p y:Operand}
 (J:tU G h) (hI:Inv h φ w T) (I:uN h φ T.length s a) {x:AV} {Q:aK} (F:cE T (dW G s) (.nilS neg O p)=some (x,Q)):
 Q=T/\∃v,(do eqGuard (if neg then .neq else .eql) t p y (a.eval p) c;binOp (if neg then .neq else .eql) t (a.eval p) c).run P w=.ok v w/\Rp h φ T.length x v:=by
 have r:=dN J I p;have N:∀b:Bool,x=.v (.bool (if neg then !b else b))->(∀u,u=a.eval p->(∃g:Nat,(Op.equal t u c).run P w=.ok b w/\IN u)) ->
  ∃v,(do eqGuard (if neg then .neq else .eql) t p y (a.eval p) c;binOp (if neg then .neq else .eql) t (a.eval p) c).run P w=.ok v w/\Rp h φ T.length x v:=by
  intro b R H;obtain⟨g,M,h2⟩:=H _ rfl;exact⟨.bool (if neg then !b else b),Yc q M h2,by rw[R];simp[Rp]⟩
 simp only[cE]at F;split at F
 ·rename_i b C;cases F;refine⟨rfl,N b rfl λu z=>?_⟩;subst z;unfold V8 at q;split at C
  all_goals
   (try injection C with C)
   (try subst C)
  rename_i m;rw[lW J I m];split at q<;>simp at q;exact⟨0,p_,trivial⟩;rename_i i o m;rw[m]at r;simp only[Rp]at r;obtain⟨_,g,_,z⟩:=r;rw[z];split at q<;>simp at q;exact⟨0,p_,trivial⟩;rename_i i k j o m;rw[m]at r;simp only[Rp]at r;obtain⟨_,g,l,cc,_,z⟩:=r;rw[z];split at q<;>simp at q;exact⟨0,p_,trivial⟩;rename_i Y m;rw[m]at r;simp only[Rp]at r;obtain⟨Z,o,z,_⟩:=r;rw[z];split at q<;>simp at q;exact⟨0,p_,trivial⟩;rename_i m;rw[lW J I m];split at q<;>simp at q;exact⟨1,p_,trivial⟩;rename_i i m;split at C;rename_i k e U b S;cases C;rw[m]at r;simp only[Rp]at r;obtain⟨_,M|⟨g,cc,X,E,K,_⟩⟩:=rK hI S;simp at M;rw[r.2.1,K];split at q<;>simp at q;exact⟨1,p_,trivial⟩;simp at C;rename_i k e U m;rw[m]at r;simp only[Rp,oB]at r;obtain⟨A,cc,z,_,_,L⟩:=r;rcases L with L|⟨Z,o,rfl,_⟩
  simp at L;rw[z];split at q<;>simp at q;exact⟨1,p_,trivial⟩;rename_i m;rw[lW J I m];split at q<;>simp at q;exact⟨2,p_,trivial⟩;rename_i f Y m;rw[m]at r;simp only[Rp]at r;obtain⟨us,z,_⟩:=r;rw[z];split at q<;>simp at q;exact⟨3,p_,trivial⟩;rename_i f a b m;rw[lW J I m];split at q<;>simp at q;exact⟨3,p_,trivial⟩;simp at C
 simp at F
def Tq{ts:Array TypeId}{ty:TypeId}{mx:Bool}{p q:Operand}
 (d:tU G h) (c:uN h φ T.length s a) {x:AV} {e:aK} (b:cE T (dW G s) (.mm mx p q)=some (x,e)):
 e=T/\∃v,(if mx then Builtin.max_ ts ty #[a.eval p,a.eval q] else Builtin.min_ ts ty #[a.eval p,a.eval q]).run P w=.ok v w/\Rp h φ T.length x v:=by
 simp only[cE]at b;split at b;rename_i k i n j g h2;split at b;rename_i f;subst f;cases b;rw[lW d c g,lW d c h2];cases mx;simp_all[Builtin.min_,Builtin.min2,Rp];simp_all[Builtin.max_,Builtin.max2,Rp];simp at b;simp at b
end
def Lx(P:Program)(o:Oper):Option HOp :=
 match o.op with
 | .slice t x b f none=>match P.underlying t with
  |some (.slice e)=>match oZ P e with|some k=>some (.slc x b f k)|none=>none
  |some .string=>some (.slcS x b f)|_=>none
 | .binOp a t x (.const c) _=>match P.underlying t with
  |some d=>match V8 d c with|some k=>if a=.eql then some (.nilS false k x) else if a=.neq then some (.nilS true k x) else none|none=>none
  |none=>none
 |.call c=>match c.callee,c.args.toList with|.builtin .max,[x,y]=>some (.mm true x y)|.builtin .min,[x,y]=>some (.mm false x y)|_,_=>none
 |_=>none
section
variable{P:Program}{G:L_}{h:GH}{φ:Nat->Value}{w:World}{a:Act}{st:St}{K:AV->aK->Prop}{next:Act->World->Prop}{Q:Exit->Act->World->Prop}
def aCi{a:Nat}{x:AV}(b:Te a x=true):a=1/\∃k,x=.ls k []:=by unfold Te at b;grind
def Yd{t:TypeId}{d:TypeDesc}(l:P.underlying t=some d){c:Value}{o:Nat}(g:V8 d c=some o){neg:Bool}{p y:Operand}
 (r:tU G h) (hI:Inv h φ w st.T) (q:uN h φ st.T.length st.s a) (e:yF P G st (.nilS neg o p) K):
 ∃x,K x st.T/\∃v,(do eqGuard (if neg then .neq else .eql) t p y (a.eval p) c;binOp (if neg then .neq else .eql) t (a.eval p) c).run P w=.ok v w/\Rp h φ st.T.length x v:=by
 simp only[yF]at e;split at e;rename_i u;obtain⟨rfl,k,n⟩:=aCi u;have m:=dN r q p;rw[n]at m;simp only[Rp,oB]at m;obtain⟨A,cc,j,_,_,_⟩:=m;have i:∀b:Bool,(Op.equal t (a.eval p) c).run P w=.ok b w->∃x,K x st.T/\∃v,(do eqGuard (if neg then .neq else .eql) t p y (a.eval p) c;binOp (if neg then .neq else .eql) t (a.eval p) c).run P w=.ok v w/\Rp h φ st.T.length x v:=λb B=>by refine⟨.v (.bool (if neg then !b else b)),?_,.bool (if neg then !b else b),Yc g B (by rw[j];trivial),x_⟩;cases(if neg then !b else b);exact e.2;exact e.1
 unfold V8 at g;split at g<;>simp at g
 cases A with
 |none=>exact i true oy
 |some b=>exact i false oy
 split at e;rename_i x E z;obtain⟨rfl,v,C,h2⟩:=V9 (y:=y) l g r hI q z;exact⟨x,e,v,C,h2⟩;exact e.elim
def Zz {o:Oper} {B:HOp} (b:Lx P o=some B) (L:yF P G st B K) (E:tU G h) (hI:Inv h φ w st.T) (D:uN h φ st.T.length st.s a)
 (M:∀v R,CS h φ st.T w K v R->next (a.put o.dst v) R):rL P o a w next:=by
 have i:∀{sv:Sem Value}(_:execOp a.eval o=(do pure (.value (<-sv))))(_:(∀f l,B≠.call f l)/\(∀p,B≠.nxt p)/\∀n k x,B≠.nilS n k x)(_:∀x r,cE st.T (dW G st.s) B=some (x,r)->r=st.T/\∃v,sv.run P w=.ok v w/\Rp h φ st.T.length x v),rL P o a w next:=by intro sv m u F;obtain⟨x,r,e,C⟩:=GZ u L;obtain⟨rfl,v,H,h2⟩:=F x r e;exact uT m H (M v w (tE hI h2 C))
 obtain⟨X,W,ty,V,Q,O⟩:=o;unfold Lx at b;simp only at b;split at b;rename_i t x S U;split at b;rename_i e A;split at b;rename_i k C;cases b;exact i (sv:=Instr.sliceAt t (a.eval x) (S.map a.eval) (U.map a.eval) none) rfl k_ λy r m=>Zy A C E hI D m;simp at b;rename_i A;cases b;exact i (sv:=Instr.sliceAt t (a.eval x) (S.map a.eval) (U.map a.eval) none) rfl k_ λy r m=>V7 A E D m;simp at b;rename_i W t x c Y;split at b;rename_i d A;split at b;rename_i k C;split at b;rename_i cE;subst cE;cases b;obtain⟨y,J,v,H,h2⟩:=Yd (neg:=false) (y:=.const c) A C E hI D L;exact uT (sv:=do eqGuard .eql t x (.const c) (a.eval x) c;binOp .eql t (a.eval x) c) rfl H (M v w (tE hI h2 J));split at b;rename_i cE;subst cE;cases b;obtain⟨y,J,v,H,h2⟩:=Yd (neg:=true) (y:=.const c) A C E hI D L;exact uT (sv:=do eqGuard .neq t x (.const c) (a.eval x) c;binOp .neq t (a.eval x) c) rfl H (M v w (tE hI h2 J));simp at b;simp at b;simp at b;rename_i c;obtain⟨I,q,g⟩:=c;simp only at b;split at b;rename_i x y j;have N:q=#[x,y]:=EY.1 (by rw[j]);subst N;cases b;exact i (sv:=Builtin.max_ g ty #[a.eval x,a.eval y]) y_ k_ λz r m=>Tq (ts:=g) (ty:=ty) (mx:=true) E D m;rename_i x y j;have N:q=#[x,y]:=EY.1 (by rw[j]);subst N;cases b;exact i (sv:=Builtin.min_ g ty #[a.eval x,a.eval y]) y_ k_ λz r m=>Tq (ts:=g) (ty:=ty) (mx:=false) E D m;simp at b;simp at b
end
section
variable{P:Program}{w:World}
def M5(a b:ByteArray):(a==b)=true↔a=b:=by rw[beq_toListBytes,beq_iff_eq,ByteArray.toList_eq,ByteArray.toList_eq];constructor;intro h;obtain⟨a⟩:=a;simp_all;rintro rfl;rfl
def Ej:∀{c:List LK}{xs a:O5},rJ c xs a=some true->xs=a
 |[],xs,a,e=>by cases xs<;>cases a<;>simp_all[rJ]
 | k::c,xs,a,e=>by
  cases xs with
  |nil=>cases k<;>simp[rJ]at e
  | cons x xs=>
   cases a with
   |nil=>cases k<;>cases x<;>simp[rJ]at e
   | cons y a=>
    cases k<;>cases x<;>cases y<;>simp only[rJ]at e<;>(try (simp at e;done))
    split at e;rename_i d;split at e;rename_i r b;simp only[O7,zJ,beq_iff_eq]at e;obtain⟨rfl,rfl⟩:=e;rw[Ej b,d.1,d.2];simp at e;simp at e;split at e;rename_i r b;simp only[O7,zJ,beq_iff_eq]at e;obtain⟨rfl,rfl⟩:=e;rw[Ej b];simp at e;split at e;rename_i r b;simp only[O7,zJ]at e;obtain⟨f,rfl⟩:=e;rw[<-beq_toListBytes,M5]at f;rw[Ej b,f];simp at e
def Ek(ens:List MapEntry)(i:Nat)(r:Option Nat)(out:Option (Nat×Value)):Prop :=
 match r with
 |none=>out=none|some j=>i<=j/\∃e,ens[j-i]?=some e/\out=some (j,e.val)
def M6{e:MapEntry}{ens:List MapEntry}{i:Nat}{r:Option Nat}{out:Option (Nat×Value)}(h:Ek ens (i+1) r out):Ek (e::ens) i r out:=by
 cases r with
 |none=>exact h|some j=>
  obtain⟨b,x,h2,a⟩:=h;refine⟨o_,x,?_,a⟩;grind
def aCj{n:Nat}{h:TypeId}{ag:Bool}{g:List LK}(l:iF P n h=some (ag,g))(j:n<=Op.maxDepth){kc:O5}:∀(ens:List MapEntry)(ks:List O5)(i:Nat)(r:Option Nat),
 ens.map (·.key)=ks.map (iY ag)->aK4 g kc ks i=some r->∃out,Ek ens i r out/\(Instr.findAsking h (iY ag kc) ens i).run P w=.ok out w
 |[],[],i,r,_,a=>by
  simp only[aK4,O7]at a;subst a;exact⟨none,rfl,by simp[Instr.findAsking]⟩
 |[],_::_,_,_,c,_=>by simp at c|_::_,[],_,_,c,_=>by simp at c| e::ens,k::ks,i,r,c,a=>by
  simp only[fG,List.cons.injEq]at c;simp only[aK4]at a;have d:∀b,rJ g kc k=some b->(Op.equal h (iY ag kc) e.key).run P w=.ok b w:=λb f=>by rw[c.1];exact(Fv n h ag g l).2 Op.maxDepth j _ _ _ f
  split at a;rename_i f;cases a;exact⟨some (i,e.val),⟨cN _,e,k_,rfl⟩,by simp[Instr.findAsking,d _ f]⟩;rename_i f;obtain⟨out,m,h2⟩:=aCj l j ens ks (i+1) r c.2 a;exact⟨out,M6 m,by simp[Instr.findAsking,d _ f,h2]⟩;simp at a
def Tr:LK->TypeDesc->Prop|.int k,d=>d=.int k|.bool,d=>d=.bool|.str,d=>d=.string
def Qb{l:LK}{d:TypeDesc}(a:Tr l d){x y:O5}{b:Bool}(h:rJ [l] x y=some b):Instr.sameNow d (iY false x) (iY false y)=some b:=by
 have c:=Bf h
 match x,y,c with
 |[x],[y],_=>
  cases l<;>cases x<;>cases y<;>simp only[rJ]at h<;>(try (simp at h;done))
  simp_all[yH,O7,Tr,iY,Instr.sameNow];simp_all[yH,O7,Tr,iY,Instr.sameNow];simp only[yH,O7]at h;simp only[Tr]at a;subst a;simp[iY,Instr.sameNow,<-h,beq_toListBytes]
def Rt{l:LK}{d:TypeDesc}(c:Tr l d){kc:O5}:∀(ens:List MapEntry)(ks:List O5)(i:Nat)(r:Option Nat),
 ens.map (·.key)=ks.map (iY false)->aK4 [l] kc ks i=some r->∃out,Ek ens i r out/\Instr.findNow d (iY false kc) ens i=some out
 |[],[],i,r,_,a=>by
  simp only[aK4,O7]at a;subst a;exact⟨none,rfl,by simp[Instr.findNow]⟩
 |[],_::_,_,_,b,_=>by simp at b|_::_,[],_,_,b,_=>by simp at b|e::ens,k::ks,i,r,b,a=>by simp only[fG,List.cons.injEq]at b;simp only[aK4]at a;split at a;rename_i f;cases a;refine⟨some (i,e.val),⟨cN _,e,k_,rfl⟩,?_⟩;simp only[Instr.findNow,b.1,Qb c f];rename_i f;obtain⟨out,g,h2⟩:=Rt c ens ks (i+1) r b.2 a;refine⟨out,M6 g,?_⟩;simp only[Instr.findNow,b.1,Qb c f,h2];simp at a
def zP {n:Nat} {o:TypeId} {ag:Bool} {m:List LK} (j:iF P n o=some (ag,m)) (p:n<=Op.maxDepth) {kc:O5} {ens:List MapEntry} {ks:List O5} {r:Option Nat}
 (g:ens.map (·.key)=ks.map (iY ag)) (f:aK4 m kc ks 0=some r):∃out,Ek ens 0 r out/\(Instr.findKey o (iY ag kc) ens).run P w=.ok out w:=by
 cases n with
 |zero=>simp[iF]at j| succ n=>
  have a:=j;simp only[iF]at a;split at a;rename_i k b;cases a;obtain⟨out,c,h2⟩:=Rt (d:=.int k) (l:=.int k) rfl ens ks 0 r g f;exact⟨out,c,dn⟩;rename_i b;cases a;obtain⟨out,c,h2⟩:=Rt (d:=.bool) (l:=.bool) rfl ens ks 0 r g f;exact⟨out,c,dn⟩;rename_i b;cases a;obtain⟨out,c,h2⟩:=Rt (d:=.string) (l:=.str) rfl ens ks 0 r g f;exact⟨out,c,dn⟩;rename_i q b;obtain⟨out,c,h2⟩:=aCj (w:=w) j p ens ks 0 r g f
  cases ens with
  | nil=>
   cases ks with
   |nil=>
    simp only[aK4,O7]at f;subst f;exact⟨none,rfl,by simp[Instr.findKey,run_underlying b,Instr.findNow]⟩
   |cons k ks=>simp at g
  | cons e ens=>
   refine⟨out,c,?_⟩;have:Instr.findNow (.struct q) (iY ag kc) (e::ens) 0=none:=K_;simp[Instr.findKey,run_underlying b,this,h2]
  simp at a
def Qc {n:Nat} {em:Bool} {d:Nat} (ih:∀t k ks,iF P n t=some (k,ks)->(k=false->ks.length=1)/\∀o b,rJ ks o o=some b->(Instr.checkKey em d t (iY k o)).run P w=.ok () w)
 (X:Array Value):∀(m:List Field)(off:Nat)(ks:List LK)(b:Bool),G7 P (iF P n) m off=some ks ->
  rJ ks (X.toList.drop off) (X.toList.drop off)=some b->off<=X.size ->
  (forIn m PUnit.unit (λf _=>if f.name ≠ "_" then(do
   let y <-part f.type X f.offset
   Instr.checkKey em d f.type y
   pure (ForInStep.yield PUnit.unit)) else pure (ForInStep.yield PUnit.unit)):Sem PUnit).run P w=.ok () w
 |[],off,ks,b,a,q,_=>by simp| f::m,off,ks,b,a,q,C=>by
  simp only[G7]at a;split at a;rename_i k e x;split at a;rename_i z;obtain⟨c,i,r⟩:=z;split at a;rename_i l u;cases a;obtain⟨E,B,A,h2,D⟩:=IJ q;have j:=Bf q;simp only[vY,dZ,GV]at j;obtain⟨h,v⟩:=ih _ _ _ x;have p:(part f.type X f.offset).run P w=.ok (iY k ((X.toList.drop off).take e.length)) w:=by rw[i];exact Eg r h o_
  have s:=v _ _ A;rw[Kg]at h2;have g:=Qc ih X m (off+e.length) l B u h2 o_;simp only[List.forIn_cons,Sem.run_bind,c,ne_eq,not_false_eq_true,if_true,Result.andThen_ok,p,s,Sem.run_pure];exact g;simp at a;simp at a;simp at a
def Ts {em:Bool}:∀(n:Nat)(g:TypeId)(ag:Bool)(f:List LK),iF P n g=some (ag,f)->∀d,n<=d->∀e b,rJ f e e=some b->(Instr.checkKey em d g (iY ag e)).run P w=.ok () w
 |0,_,_,_,i=>by simp[iF]at i
 | n+1,g,ag,f,i=>by
  intro d v e b p;obtain⟨d,rfl⟩:∃u,d=u+1:=⟨d-1,o_⟩
  have a:=i;simp only[iF]at a;split at a;rename_i k c;simp[Instr.checkKey,run_underlying c];rename_i c;simp[Instr.checkKey,run_underlying c];rename_i c;simp[Instr.checkKey,run_underlying c];rename_i q c;split at a;simp at a;split at a;rename_i l o;injection a with a;injection a with s r;subst s;subst r;have h:=Qc (w:=w) (em:=em) (d:=d) (λt ag j m=>⟨(Fv (w:=w) n t ag j m).1,Ts n t ag j m d o_⟩) e.toArray q.toList 0 l b o (by simpa using p) k_;simp only[Instr.checkKey,iY,if_true,Sem.run_bind,run_underlying c,Result.andThen_ok];rw[<-Array.forIn_toList,h];simp;simp at a;simp at a
def CC:∀{d:List LK}{xs:O5}{b:Bool},rJ d xs xs=some b->∀x∈xs,∀n,Instr.sameBits n x x=true
 |[],xs,b,h,x,a=>by cases xs<;>simp_all[rJ]
 |l::d,[],b,h,x,a=>by simp at a| l::d,y::xs,b,h,x,a=>by
  have c:∃f,rJ d xs xs=some f:=by
   cases l<;>cases y<;>simp only[rJ]at h<;>(try (simp at h;done))
   grind;grind;grind
  obtain⟨f,e⟩:=c;intro n;rcases cS.1 a with rfl|a
  ·cases l<;>cases x<;>simp only[rJ]at h<;>(try (simp at h;done))<;>cases n<;>simp[Instr.sameBits,M5]
  exact CC e x a n
def Tt {ag:Bool} {e:List LK} {kc:O5} {b:Bool} (d:rJ e kc kc=some b) (h:ag=false->e.length=1):(Instr.keyThatStays (iY ag kc) (iY ag kc)).run P w=.ok (iY ag kc) w:=by
 have:Instr.sameBits 10000 (iY ag kc) (iY ag kc)=true:=by
  cases ag with
  |false=>
   have g:=Bf d;rw[h rfl]at g
   match kc,g with
   |[x],_=>simpa[iY]using CC d x k_ 10000
  | true=>
   have c:∀m,Instr.sameBits (m+1) (iY true kc) (iY true kc)=true:=λm=>by
    simp only[iY,if_true,Instr.sameBits,beq_self_eq_true,mF,oD];rintro⟨x,y⟩ f;have a:x=y/\x∈kc:=by rw[List.zip_eq_zipWith]at f;obtain⟨i,j⟩:=QF f;grind
    rw[<-a.1];exact CC d x a.2 m
   exact c 9999
 simp[Instr.keyThatStays,this]
end
section
variable{P:Program}{G:L_}{h:GH}{φ:Nat->Value}{T:aK}{w:World}{s:List (Nat×AV)}{a:Act}
def Qd{n:Nat}:∀{cs:O0}{us kc:O5},G6 cs=some kc->kR h φ n cs us->us=kc
 |[],us,kc,e,a=>by
  grind[G6,Option.some.injEq,kR]
 |c::cs,us,kc,e,a=>by
  cases c<;>simp only[G6]at e<;>(try (simp at e;done))
  simp only[kR,Rp]at a;obtain⟨u,b,rfl,rfl,h2⟩:=a;split at e;rename_i l d;cases e;rw[Qd d h2];simp at e
def Ly {n:Nat} {x:AV} {u:Value} {ag:Bool} {g:List LK} {kc:O5} (i:Rp h φ n x u) (e:LF ag g x=some kc):u=iY ag kc/\∃b,rJ g kc kc=some b:=by
 unfold LF at e;split at e;rename_i k c;split at e;rename_i b l;cases e;refine⟨?_,b,l⟩;split at c;rename_i f;subst f;split at c;rename_i m a;have:∃d:Array Value,u=.agg d/\kR h φ n m d.toList:=by unfold Vu at a;split at a;grind[Rp];cases a;simp only[Rp]at i;exact⟨_,i,Mw h φ n _⟩;simp at a
 obtain⟨d,rfl,j⟩:=this;have:=Qd c j;simp[iY,<-this];simp at c;grind[Rp,iY];simp at e;simp at e
def DH(hI:Inv h φ w T){i:Nat}{ag:Bool}{ks:List O5}{vs:O0}{bs:O3}{a:Nat}(b:cR T i=some (.map ag ks vs bs a)):
 ∃(g:Nat)(ens:Array MapEntry),φ i=.map (some g)/\w.heap[g]?=some (.map ens a)/\h g=none /\
  ens.toList.map (·.key)=ks.map (iY ag)/\ens.toList.map (·.born)=bs/\kR h φ T.length vs (ens.toList.map (·.val)):=hI.obj i _ (bH b)
def lK{r:Nat}{es:Array MapEntry}{a:Nat}(b:w.heap[r]?=some (.map es a)):(getObj r).run P w=.ok (.map es a) w:=by simp[getObj,Sem.run,b]
def tW{r:Nat}{es:Array MapEntry}{a:Nat}(o:Obj)(b:w.heap[r]?=some (.map es a)):(setObj r o).run P w=.ok () {w with heap:=w.heap.setIfInBounds r o}:=by simp[setObj,Sem.run,b]
def DI(hI:Inv h φ w T){i:Nat}{ag:Bool}{ks:List O5}{vs:O0}{bs:O3}{j:Nat}(f:cR T i=some (.map ag ks vs bs j)){g:Nat}{ens:Array MapEntry}(a:φ i=.map (some g))(n:w.heap[g]?=some (.map ens j))
 {ens':Array MapEntry} {ks':List O5} {vs':O0} {bs':O3} {cl':Nat} (m:ens'.toList.map (·.key)=ks'.map (iY ag)) (h2:ens'.toList.map (·.born)=bs') (l:kR h φ T.length vs' (ens'.toList.map (·.val))):
 Inv h φ {w with heap:=w.heap.setIfInBounds g (.map ens' cl')} (T.set i (some (.map ag ks' vs' bs' cl'))) /\
 Evo h φ T w h φ (T.set i (some (.map ag ks' vs' bs' cl'))) {w with heap:=w.heap.setIfInBounds g (.map ens' cl')}:=by
 have d:g<w.heap.size:=m_;have k:=(iT (hI.obj i _ (bH f)) (g:=g) sf).2;refine Fw (w':={w with heap:=w.heap.setIfInBounds g (.map ens' cl')}) hI rfl rfl rfl k_ (bH f) (λb _ c=>?_) ⟨g,ens',a,by simp[d],k,m,h2,l⟩;have:g≠b:=λe=>c (by rw[a,e];rfl);simp_all
def Z0(hI:Inv h φ w T)(t:TypeId)(ag:Bool):jD h φ T w ((Instr.makeMap t none).run P w) (.mp T.length) (T++[some (.map ag [] [] [] 0)]):=by
 have a:h w.heap.size=none:=Fx hI;have:=tL (w':=w.alloc (.map #[] 0)) (o:=.map ag [] [] [] 0) (v:=.map (some w.heap.size)) hI rfl rfl rfl k_ (λb d=>kX w _ b d)
  (λg c=>by simp only[kI,O7]at c;omega)
  ⟨w.heap.size,#[],bI,heap_alloc_new w _,a,k_,k_,se⟩
 refine⟨_,_,h,_,by simp[Instr.makeMap];rfl,this.2,this.1,?_⟩;simp only[Rp];exact⟨k_,bI.symm,w.heap.size,rfl⟩
def Z3{ens:Array MapEntry}{vs:O0}{n:Nat}(b:kR h φ n vs (ens.toList.map (·.val))){j:Nat}{out:Option (Nat×Value)}(c:Ek ens.toList 0 (some j) out){x:AV}(a:vs[j]?=some x):
 ∃e,ens[j]?=some e/\out=some (j,e.val)/\Rp h φ n x e.val:=by
 obtain⟨_,e,g,h2⟩:=c;obtain⟨u,f,d⟩:=b.get a;simp_all
def Z4 {t B Y:TypeId} (M:P.underlying t=some (.map B Y)) {ag:Bool} {L:List LK} (K:iF P 20 B=some (ag,L)) {i:TypeInfo} (hi:P.info? Y=some i) {z:Value} (hz:i.zero=some z) {A:Bool}
 (V:tU G h) (hI:Inv h φ w T) (U:uN h φ T.length s a) {m k:Operand} {x:AV} {T':aK} (f:cE T (dW G s) (.lku ag L z m k A)=some (x,T')):
 T'=T/\∃v,(Instr.lookup t (a.eval m) (a.eval k) A).run P w=.ok v w/\Rp h φ T.length x v:=by
 have N:=dN V U m;have O:=dN V U k;simp only[cE]at f;split at f;rename_i ks vs kc c Q;obtain⟨n,b,hb⟩:=Ly O Q;have E:∀Z,(Instr.checkKey Z 10000 B (a.eval k)).run P w=.ok () w:=λZ=>by rw[n];exact Ts 20 B ag L K 10000 o_ kc b hb
 have I:(zeroValue Y).run P w=.ok z w:=by simp[zeroValue,typeInfo,hi,hz]
 have R:∃ens:Array MapEntry,ens.toList.map (·.key)=ks.map (iY ag)/\kR h φ T.length vs (ens.toList.map (·.val)) /\
  ∀out,(Instr.findKey B (a.eval k) ens.toList).run P w=.ok out w->(Instr.lookup t (a.eval m) (a.eval k) A).run P w=.ok (match out with|some (_,v)=>if A then .tuple #[v,.bool true] else v|none=>if A then .tuple #[z,.bool false] else z) w:=by
  unfold aC2 at c;split at c;rename_i D;cases c;refine⟨#[],rfl,se,λout d=>?_⟩;have:out=none:=by
   have:(Instr.findKey B (a.eval k) []).run P w=.ok none w:=by obtain⟨o,q,h2⟩:=zP (w:=w) (kc:=kc) (ens:=[]) (ks:=[]) (r:=none) K s_ rfl rfl;rw[n,h2];simp only[Ek]at q;rw[q]
   rw[this]at d;injection d with d _;exact d.symm
  subst this;rw[lW V U D];have J:(Instr.findKey B (a.eval k) (#[]:Array MapEntry).toList).run P w=.ok none w:=d;simp[Instr.lookup,run_underlying M,E,J,I];rename_i i D;split at c;rename_i ac ab aa bs cl hg;split at c;rename_i S;subst S;cases c;obtain⟨g,ens,q,h2,h3,X,W,h6⟩:=DH hI hg;refine⟨ens,X,h6,λout d=>?_⟩;rw[D]at N;simp only[Rp]at N;rw[N.2.1,q]
  cases out with
  |none=>simp[Instr.lookup,run_underlying M,lK h2,E,d,I]|some p=>simp[Instr.lookup,run_underlying M,lK h2,E,d]
  simp at c;simp at c;simp at c
 obtain⟨ens,l,C,u⟩:=R;split at f;rename_i J;cases f;obtain⟨out,q,h2⟩:=zP (w:=w) K s_ l J;simp only[Ek]at q;subst q;refine⟨rfl,_,u none (by rw[n];exact h2),?_⟩;cases A<;>simp[Rp,kR];rename_i j J;split at f;rename_i y hy;cases f;obtain⟨out,q,h2⟩:=zP (w:=w) K s_ l J;obtain⟨e,h3,X,W⟩:=Z3 C q hy;subst X;refine⟨rfl,_,u _ (by rw[n];exact h2),?_⟩;cases A;simpa using W;simp only[if_true,Rp,kR];exact⟨_,rfl,_,_,rfl,W,_,_,rfl,rfl,rfl⟩;simp at f;simp at f;simp at f
def Tu{a:List LK}{kc:O5}:∀(ks:List O5)(i:Nat){j:Nat},aK4 a kc ks i=some (some j)->i<=j|[],i,j,h=>by simp[aK4]at h|k::ks,i,j,h=>by simp only[aK4]at h;split at h;simp_all;have:=Tu ks (i+1) h;omega;simp at h
def M7{b:List LK}{kc:O5}:∀(ks:List O5)(i:Nat){j:Nat},aK4 b kc ks i=some (some j)->∀{a:O5},ks[j-i]?=some a->rJ b kc a=some true|[],i,j,h,a,_=>by simp[aK4]at h|k::ks,i,j,h,a,c=>by simp only[aK4]at h;split at h;simp_all;have d:=Tu ks (i+1) h;rw[(o_:j-i=(j-(i+1))+1),oX]at c;exact M7 ks (i+1) h c;simp at h
def mH(ens:Array MapEntry)(j:Nat)(f:MapEntry->MapEntry):(ens.modify j f).toList=ens.toList.modify j f:=k_
def El(l:List MapEntry)(j:Nat)(f:MapEntry->MapEntry)(a:∀e,l[j]?=some e->(f e).key=e.key):(l.modify j f).map (·.key)=l.map (·.key):=by apply EW;grind
def yL(l:List MapEntry)(j:Nat)(f:MapEntry->MapEntry)(a:∀e,(f e).born=e.born):(l.modify j f).map (·.born)=l.map (·.born):=by apply EW;grind
def Em(l:List MapEntry)(j:Nat)(f:MapEntry->MapEntry)(v:Value)(a:∀e,(f e).val=v):(l.modify j f).map (·.val)=(l.map (·.val)).set j v:=by apply EW;grind
def kR.setv{n:Nat}{vs:O0}{us:O5}(b:kR h φ n vs us){j:Nat}{x:AV}{v:Value}(g:Rp h φ n x v):kR h φ n (vs.set j x) (us.set j v):=
 kR.mk (by simp[b.length]) λi c u a e=>by rw[Hx]at a e;rw[b.length]at a;split at a;simp_all;rename_i d;rw[if_neg d]at e;obtain⟨f,k,h2⟩:=b.get a;simp_all
def Qe {t u et:TypeId} (ht:P.underlying t=some (.map u et)) {ag:Bool} {r:List LK} (C:iF P 20 u=some (ag,r))
 (S:tU G h) (hI:Inv h φ w T) (R:uN h φ T.length s a) {m k q:Operand} {x:AV} {Z:aK} (d:cE T (dW G s) (.mup ag r m k q)=some (x,Z)):
 ∃I,(Instr.mapUpdate t (a.eval m) (a.eval k) (a.eval q)).run P w=.ok () I/\x=.v undef/\Evo h φ T w h φ Z I/\Inv h φ I Z:=by
 have K:=dN S R m;have L:=dN S R k;have hq:=dN S R q;simp only[cE]at d;split at d;rename_i i O;rw[O]at K;simp only[Rp]at K;split at d;rename_i aa y vs bs H J N M;split at d;rename_i Q;subst Q;obtain⟨f,b,hb⟩:=Ly L M;have A:∀em,(Instr.checkKey em 10000 u (a.eval k)).run P w=.ok () w:=λem=>by rw[f];exact Ts 20 u ag r C 10000 o_ J b hb
 obtain⟨g,l,U,h2,h3,E,h5,h6⟩:=DH hI N;rw[K.2.1,U];split at d;rename_i D;cases d;obtain⟨out,F,B⟩:=zP (w:=w) C s_ E D;simp only[Ek]at F;subst F;rw[<-f]at B;have c:=DI hI N U h2 (ens':=l.push {key:=a.eval k,val:=a.eval q,born:=H}) (ks':=y++[J]) (vs':=vs++[dW G s q]) (bs':=bs++[H]) (cl':=H+1)
  (by simp[E,f]) (by simp[h5]) (by simp only[Array.toList_push,bZ,fG,uP];exact h6.app (by simp[kR,hq]))
 exact⟨_,by simp[Instr.mapUpdate,run_underlying ht,lK h2,A,B,tW _ h2],rfl,c.2,c.1⟩;rename_i j D;cases d;obtain⟨out,F,B⟩:=zP (w:=w) C s_ E D;obtain⟨_,e,W,f4⟩:=F;subst f4;rw[<-f]at B;simp only[QO]at W;have z:e.key=a.eval k:=by
  have n:(y.map (iY ag))[j]?=some e.key:=m_;rw[gE]at n
  cases p:y[j]? with
  |none=>simp[p]at n|some k'=>
   simp only[p,iX,O7]at n;have:rJ r J k'=some true:=M7 y 0 D (by simpa using p);rw[<-n,f,Ej this]
 have V:l[j]?=some e:=by simpa using W
 have nG:(Instr.keyThatStays e.key (a.eval k)).run P w=.ok (a.eval k) w:=by rw[z,f];exact Tt hb (Fv (P:=P) (w:=w) 20 u ag r C).1
 have c:=DI hI N U h2 (ens':=l.modify j λe=>{e with key:=a.eval k,val:=a.eval q}) (ks':=y) (vs':=vs.set j (dW G s q)) (bs':=bs) (cl':=H)
  (by rw[mH,El _ _ _ (λe' o=>by rw[W]at o;cases o;exact z.symm)];exact E)
  (by rw[mH,yL l.toList j (λe=>{e with key:=a.eval k,val:=a.eval q}) (λ_=>rfl)];exact h5)
  (by rw[mH,Em l.toList j (λe=>{e with key:=a.eval k,val:=a.eval q}) (a.eval q) (λ_=>rfl)];exact h6.setv hq)
 exact⟨_,by simp[Instr.mapUpdate,run_underlying ht,lK h2,A,B,V,nG,tW _ h2],rfl,c.2,c.1⟩;simp at d;simp at d;simp at d;simp at d
def WA {t q B ty:TypeId} (l:P.underlying t=some (.map q B)) {ts:Array TypeId} (d:ts[0]?=some t)
 (n:tU G h) (hI:Inv h φ w T) (m:uN h φ T.length s a) {p:Operand} {x:AV} {o:aK} (b:cE T (dW G s) (.lenM p)=some (x,o)):
 o=T/\∃v,(Builtin.len_ ts ty #[a.eval p]).run P w=.ok v w/\Rp h φ T.length x v:=by
 have f:=dN n m p;simp only[cE]at b;split at b;rename_i c;cases b;rw[lW n m c];exact⟨rfl,goInt 0,by simp[Builtin.len_,d,run_underlying l],dw⟩;rename_i i c;rw[c]at f;simp only[Rp]at f;split at b;rename_i I r C bs H y;cases b;obtain⟨g,e,A,h2,F,z,E,D⟩:=DH hI y;have u:e.size=r.length:=by have:=congrArg List.length z;simpa using this
 rw[f.2.1,A];exact⟨rfl,goInt e.size,by simp[Builtin.len_,d,run_underlying l,lK h2],by simp[Rp,goInt,u]⟩;simp at b;simp at b
end
section
variable{P:Program}{G:L_}{h:GH}{φ:Nat->Value}{T:aK}{w:World}{s:List (Nat×AV)}{a:Act}
def WB{t e:TypeId}(g:P.underlying t=some (.slice e)){i:TypeInfo}(j:P.info? e=some i)
 (hI:Inv h φ w T) {ev:Operand->AV} {x:AV} {f:aK} (b:cE T ev (.bsl i.size [] [] 0)=some (x,f)):
 jD h φ T w ((Instr.buildSlice t 0 #[]).run P w) x f:=by
 simp only[cE,uP,JY,aGL,if_true,yI,O7,Prod.mk.injEq]at b;obtain⟨rfl,rfl⟩:=b;have a:(Instr.buildSlice t 0 #[]).run P w=.ok (.slice (some ⟨w.heap.size,0,none⟩) 0 0) (w.alloc (.cells #[] e)):=by simp[Instr.buildSlice,run_underlying g,Go.sizeOf,typeInfo,j,newRow,Instr.fill,Array.range_zero']
 rw[a];exact YU (n:=0) (c:=0) (es:=[]) (k:=i.size) hI rfl rfl rfl rfl (λd l=>absurd l k_) rfl (cN _) (pR _) k_ (by simp[cK]) e
def Ru(h:GH):∀a:O5,cK h (a.map .v) a|[]=>by simp[cK]|u::a=>by simp only[fG,cK];exact⟨u,a,rfl,by simp[oB],Ru h a⟩
def M8(z:Array Value)(n m:Nat)(e:0<z.size)(d:n<=m):(madeCells z (m*z.size)).toList.take (n*z.size)=(List.replicate n z.toList).flatten:=by
 have c:∀n,(List.replicate n z.toList).flatten=II z.toList n:=by
  intro n
  induction n with
  |zero=>rfl|succ n ih=>simp[TW,II,ih]
 rw[c];apply EW;intro j;have g:n*z.size<=m*z.size:=aOo _ d;by_cases b:j<n*z.size;have f:j<m*z.size:=o_;rw[BT,if_pos b,Array.getElem?_toList,madeCells,Array.getElem?_map,Array.getElem?_range,if_pos f,My z.toList E_ n j B_];have a:j%z.size<z.size:=zM _ e;simp[a];rw[BT,if_neg b,sX];rw[Mx];simpa using b
def Z5 {t e:TypeId} (D:P.underlying t=some (.slice e)) {i:TypeInfo} (H:P.info? e=some i) {z:Value} (A:i.zero=some z) (f:z.cells.size=i.size) (h0:0<i.size) (k:(z.cells.toList.all λx=>aX (.v x))=true)
 (o:tU G h) (hI:Inv h φ w T) (m:uN h φ T.length s a) {p q:Operand} {x:AV} {r:aK} (b:cE T (dW G s) (.mks i.size z.cells.toList i.bytes p q)=some (x,r)):
 jD h φ T w ((Instr.makeSlice t (a.eval p) (a.eval q)).run P w) x r:=by
 simp only[cE]at b;split at b;rename_i n c F E;split at b;rename_i J;obtain⟨O,N,Q,M⟩:=J;cases b;have l:c<=9223372036854775807:=by have:=M;simp only[maxLen]at this;omega
 rw[lW o m F,lW o m E,run_make w t e i z D H A .i64 .i64 n c O N (by rw[Int.mul_comm];omega) l];have g:n.toNat<=c.toNat:=o_;have j:c.toNat<=maxLen:=o_;refine YU hI rfl rfl rfl rfl (λd I=>?_) (QE) g j ?_ ?_ e;rw[(List.mem_replicate.1 I).2];refine⟨by simp[f],λy B=>?_⟩;obtain⟨u,C,rfl⟩:=dF.1 B;exact oD.1 k u C;rw[size_madeCells];rw[<-f,M8 z.cells _ _ o_ g];have:(List.replicate n.toNat (z.cells.toList.map AV.v)).flatten=((List.replicate n.toNat z.cells.toList).flatten).map AV.v:=by simp[List.map_flatten,YH]
 rw[this];exact Ru h _;simp at b;simp at b
def G9(h:GH)(b:Nat)(cs:Array Value):GH:=λg=>if g=b then some cs else h g
def Z6{w':World}(hI:Inv h φ w T)(l:w'.os=w.os)(j:w'.tape=w.tape)(a:w'.output=w.output)(k:w.heap.size<=w'.heap.size)
 (r:∀b,b<w.heap.size->w'.heap[b]?=w.heap[b]?) {cs:Array Value} {E:TypeId} {v:Nat×Nat} (z:w'.heap[w.heap.size]?=some (.cells cs E v)) (n:w.drawn<=w'.drawn):
 Inv (G9 h w.heap.size cs) φ w' T/\Evo h φ T w (G9 h w.heap.size cs) φ T w':=by
 have t:CA h (G9 h w.heap.size cs):=by intro b c e;unfold G9;rw[if_neg (by have:=Ca hI e;omega)];exact e
 have f:∀i x,T[i]?=some (some x)->i<T.length:=by intro i x e;rcases eD i T.length with m|m;exact m;rw[sX m]at e;simp at e
 refine⟨⟨?_,?_,?_⟩,⟨l,j,a,k,λb q _=>r b q,t,?_,λ_ _=>rfl,λi o b A p=>.inr ⟨i,o,A,p⟩,cN _,n⟩⟩;intro b c e;unfold G9 at e;split at e;rename_i d;subst d;cases e;exact⟨E,v,z⟩;obtain⟨D,s,y⟩:=hI.gh b c e;exact⟨D,s,by rw[r b (Ca hI e)];exact y⟩;intro i x e;have u:=hI.obj i x e;refine qN u t (cN _) (λ_ _=>rfl) (f i x e) λg B=>?_;obtain⟨h2,C⟩:=iT u B;exact⟨r g h2,by unfold G9;rw[if_neg o_];exact C⟩;exact hI.dis;intro b c e;unfold G9 at e;split at e;rename_i d;exact .inr (.inl o_);exact .inl e
def M9{h:GH}{b:Nat}:∀(l:List UInt8)(o:Nat),(∀j u,l[j]?=some u->oY h b (o+j)=some (.int .u8 u.toNat))->kF h b 1 (l.map λb=>[.v (.int .u8 b.toNat)]) o|[],_,_=>by simp[kF]|u::l,o,a=>by simp only[fG,kF,mR];refine⟨rfl,⟨⟨_,rfl,by simpa using a 0 u rfl,by simp[oB]⟩,trivial⟩,M9 l (o+1) λj v c=>?_⟩;have:=a (j+1) v oW;rw[<-this];congr 1;omega
def Z7 {g d e:TypeId} {u:TypeDesc} (v:P.underlying g=some u) (z:P.underlying d=some (.slice e)) (i:P.underlying e=some (.int .u8))
 (D:tU G h) (hI:Inv h φ w T) (C:uN h φ T.length s a) {p:Operand} {x:AV} {q:aK} (f:cE T (dW G s) (.s2b p)=some (x,q)):
 jD h φ T w ((convert g d (a.eval p)).run P w) x q:=by
 simp only[cE]at f;split at f;rename_i c y;split at f;rename_i A;cases f;rw[lW D C y,Lib.run_convert_string_bytes w g d e c v z i];obtain⟨t,r⟩:=Z6 (w':=Lib.bytesWorld w e c) hI rfl rfl rfl (by rw[Lib.bytesWorld_size];omega) (λb B=>Lib.bytesWorld_at_old w e c b B) (Lib.bytesWorld_at_new w e c) (by simp[Lib.bytesWorld,World.freeze,World.alloc,World.drew,-World.alloc_eq,-World.drew_eq]);have o:(lJ c).length=c.size:=by simp[lJ]
 refine⟨_,_,_,_,rfl,r,t,?_⟩;simp only[Rp,oB];refine⟨_,_,by rw[o],by rw[o];exact grownCap_ge w c.size 0 e,grownCap_le_maxLen w c.size 0 e A,.inr ⟨_,0,rfl,?_⟩⟩;refine M9 _ 0 λj u m=>?_;have l:j<c.data.size:=by rcases eD j c.data.size with n|n;exact n;rw[sX (by simpa using n)]at m;simp at m
 have k:c.data[j]?=some u:=by simpa using m
 simp only[oY,G9,if_true,H6,pQ,Lib.bytesCells];rw[X5 (by simpa using l),Array.getElem?_map,k];rfl;simp at f;simp at f
end
section
variable{P:Program}{h:GH}{φ:Nat->Value}{T:aK}{w:World}
def aF1{t e:TypeId}(Y:P.underlying t=some (.slice e))(G:P.underlying e=some (.int .u8))(hI:Inv h φ w T){i:Nat}{O:O0}{es:N_}(q:T[i]?=some (some (.arr 1 (O::es)))):
 jD h φ T w ((convert t t (φ i)).run P w) (.ls 1 (O::es)) (T.set i none):=by
 obtain⟨hc,y⟩:=hI.obj i _ q;rcases y with⟨A,_,h0⟩|⟨g,c,a,E,L,D,e3,e4,e5,e6,e7⟩
 simp at h0;have I:w.shape? g=some (E,a.size):=by unfold World.shape?;rw[D]
 have u:(convert t t (φ i)).run P w=.ok (φ i) (w.freeze ⟨g,a.size,none⟩ 1):=by rw[L];simp[convert,run_underlying Y,run_underlying G,markStringish,I]
 have aa:g<w.heap.size:=by rcases eD g w.heap.size with n|n;exact n;rw[Hz n]at D;simp at D
 have f:w.freeze ⟨g,a.size,none⟩ 1={w with heap:=w.heap.modify g fun
  |.cells c B (N,q)=>.cells c B (if N==q then(a.size,a.size+1) else(min N a.size,max q (a.size+1)))|o=>o}:=by
  unfold World.freeze;rw[if_neg s_];rfl
 have z:(w.freeze ⟨g,a.size,none⟩ 1).heap[g]?=some (.cells a E (a.size,a.size+1)):=by rw[f];simp only[YA,D,if_true,iX];rfl
 have m:∀b,b≠g->(w.freeze ⟨g,a.size,none⟩ 1).heap[b]?=w.heap[b]?:=by intro b s;rw[f];simp only[YA,if_neg (Ne.symm s)]
 have H:(w.freeze ⟨g,a.size,none⟩ 1).heap.size=w.heap.size:=by rw[f];simp
 have r:kI (φ i)=some g:=by rw[L];rfl
 have F:CA h (G9 h g a):=by intro b M l;unfold G9;rw[if_neg (by rintro rfl;rw[e6]at l;simp at l)];exact l
 have p:∀{j:Nat}{x:AObj},(T.set i none)[j]?=some (some x)->j≠i/\T[j]?=some (some x):=by intro j x C;rw[Hx]at C;split at C;split at C<;>simp at C;rename_i n;exact⟨λh=>n h.symm,C⟩
 refine⟨_,_,G9 h g a,φ,u,⟨by rw[f],by rw[f],by rw[f],by rw[H];exact cN _,λb _ Z=>m b (by rintro rfl;exact Z i _ q r),F,?_,λ_ _=>rfl,λj o b k s=>.inr ⟨j,o,(p k).2,s⟩,k_,by rw[f];exact cN _⟩,⟨?_,?_,?_⟩,?_⟩;intro b M l;unfold G9 at l;split at l;rename_i d;subst d;exact .inr (.inr ⟨i,_,q,r⟩);exact .inl l;intro b M l;unfold G9 at l;split at l;rename_i d;subst d;cases l;exact⟨E,_,z⟩;rename_i d;obtain⟨E',fr,X⟩:=hI.gh b M l;exact⟨E',fr,by rw[m b d];exact X⟩;intro j o k;obtain⟨K,k⟩:=p k;have J:j<T.length:=by rcases eD j T.length with n|n;exact n;rw[sX n]at k;simp at k
 refine qN (hI.obj j o k) F k_ (λ_ _=>rfl) J λb s=>?_;have d:b≠g:=by rintro rfl;exact K (hI.dis j i _ _ _ k q s r)
 refine⟨m b d,?_⟩;unfold G9;rw[if_neg d];exact(iT (hI.obj j o k) s).2;intro W V R Q b h1 h2 U S;exact hI.dis W V R Q b (p h1).2 (p h2).2 U S;simp only[Rp,oB];refine⟨_,c+1,L,e3,e4,.inr ⟨g,0,rfl,?_⟩⟩;refine kF.of_list (e7.mono F) hc λj v k=>?_;unfold oY G9;rw[if_pos rfl];rw[BT]at k;split at k;simpa using k;simp at k
def Z8 {G:L_} {s:List (Nat×AV)} {a:Act} {t e:TypeId} (j:P.underlying t=some (.slice e)) (d:P.underlying e=some (.int .u8))
 (r:tU G h) (hI:Inv h φ w T) (q:uN h φ T.length s a) {p:Operand} {x:AV} {g:aK} (b:cE T (dW G s) (.b2b p)=some (x,g)):
 jD h φ T w ((convert t t (a.eval p)).run P w) x g:=by
 simp only[cE]at b;split at b;rename_i i l;have f:=dN r q p;rw[l]at f;simp only[Rp]at f;split at b;rename_i k z y c;split at b;rename_i n;subst n;cases b;rw[f.2.1];apply aF1 j d hI;unfold cR at c;split at c;rename_i o m;rw[m];injection c with c;rw[c];simp at c;simp at b;simp at b;simp at b
end
section
variable{P:Program}{G:L_}{h:GH}{φ:Nat->Value}{T:aK}{w:World}{s:List (Nat×AV)}{a:Act}
def WC{T:aK}{k:Nat}{x:AV}{es:N_}(e:Rj T k x=some es):Zu T k x=some (es,true):=by unfold Rj at e;grind[Zu,sZ]
def Tv{h:GH}:∀{es:N_}{l:List UInt8}{us:O5},Kp es=some l->cK h es.flatten us->∃a:O4,us=a.map (Value.int .u8)/\l=a.map λn=>UInt8.ofNat n.toNat
 |[],l,us,e,b=>by
  simp_all[Kp,O7,B9,cK]
 |[.v (.int .u8 n)]::r,l,us,e,b=>by simp only[Kp]at e;split at e;rename_i i d;cases e;simp only[zK,jC,dM,cK,oB]at b;obtain⟨u,c,rfl,rfl,h2⟩:=b;obtain⟨a,g,f⟩:=Tv d h2;exact⟨n::a,by simp[g],by simp[f]⟩;simp at e
def NA:∀(a:O4)(s:ByteArray),a.foldl (λr n=>r.push (UInt8.ofNat n.toNat)) s=⟨(s.data.toList++a.map λn=>UInt8.ofNat n.toNat).toArray⟩|[],s=>by simp|n::a,s=>by rw[CW,NA a];simp
def Z9 {m d e:TypeId} (H:P.underlying m=some (.slice e)) (B:P.underlying d=some .string) (u:P.underlying e=some (.int .u8))
 (N:tU G h) (hI:Inv h φ w T) (M:uN h φ T.length s a) {p:Operand} {x:AV} {E:aK} (k:cE T (dW G s) (.b2s p)=some (x,E)):
 E=T/\∃v,(convert m d (a.eval p)).run P w=.ok v w/\Rp h φ T.length x v:=by
 have I:=dN N M p;simp only[cE]at k;split at k;rename_i C z;split at k;rename_i l J;cases k;obtain⟨t,A,c,g,F,r,f⟩:=aC9 hI I (WC z);obtain⟨q,D,h2⟩:=Tv J r;refine⟨rfl,.string ⟨l.toArray⟩,?_,x_⟩;rw[F,run_convert_bytes_string w m d e _ _ _ H u B];have i:q.length=C.length:=by have:=r.length;rw[Af λd B=>(t d B).1,D]at this;simp_all
 cases A with
 |none=>
  rcases f with rfl|⟨b,o,hA,_⟩
  have:q=[]:=Ae (by simpa using i);subst this;subst h2;rfl;simp at hA
 | some A=>
  have n:(loadCells A C.length).run P w=.ok (q.map (Value.int .u8)).toArray w:=by
   rcases f with rfl|⟨b,o,hA,L⟩
   have:q=[]:=Ae (by simpa using i);subst this;rfl;cases hA;rw[<-D];have y:C.length=g.length:=e_;rw[y];exact run_loadCells_list w ⟨b,o,none⟩ g λj v K=>by rw[iG];exact L j v K
  rw[run_bytesToString w A _ _ q n,NA,h2];simp
 simp at k;simp at k
def Rv(d:tU G h)(c:uN h φ T.length s a){o:Operand}{n:Nat}(e:Zj (dW G s o)=some n):∃k i,a.eval o=.int k i/\0<=i/\n=i.toNat:=by unfold Zj at e;split at e;rename_i k i b;split at e;rename_i f;injection e with e;exact⟨k,i,lW d c b,f,e.symm⟩;simp at e;simp at e
def Ag{t e:TypeId}(j:P.underlying t=some (.slice e)){k:Nat}(n:oZ P e=some k){A:Option Addr}{d c l m x:Nat}{h:Option Value}(u:Bnd h 0 l){q p:IntKind}{g f:Int}(s:0<=g/\m=g.toNat)(r:0<=f/\x=f.toNat)(v:l<=m)(h2:m<=x)(o:x<=c):
 (Instr.sliceAt t (.slice A d c) h (some (.int q g)) (some (.int p f))).run P w=.ok (.slice (if x=l then A else A.map (·.add (l*k))) (m-l) (x-l)) w:=by
 obtain⟨b,rfl⟩:=s;obtain⟨a,rfl⟩:=r;rcases u with⟨rfl,rfl⟩|⟨z,i,rfl,y,rfl⟩
 simp[Instr.sliceAt,Instr.slice,run_underlying j,Instr.sliceBounds,iH a o,iH b h2,qM n];simp[Instr.sliceAt,Instr.slice,run_underlying j,Instr.sliceBounds,iH a o,iH b h2,iH y v,qM n]
def Cd(hI:Inv h φ w T)(A:Option Addr)(k:Nat):jD h φ T w (.ok (.slice A 0 0) w) (.own T.length) (T++[some (.arr k [])]):=by have:=tL (w':=w) (o:=.arr k []) (v:=.slice A 0 0) hI rfl rfl rfl (cN _) (λ_ _=>rfl) (λg a=>by cases A<;>simp[kI]at a) ⟨k_,.inl ⟨A,bI,rfl⟩⟩;refine⟨_,w,h,_,rfl,this.2,this.1,?_⟩;simp only[Rp];exact⟨k_,bI.symm,_,_,_,rfl⟩
def En(hI:Inv h φ w T){r:Result Value}{v:Value}{x:AV}(b:r=.ok v w)(a:Rp h φ T.length x v):jD h φ T w r x T:=⟨v,w,h,φ,b,Evo.refl,hI,a⟩
def aU3 {t e:TypeId} (L:P.underlying t=some (.slice e)) {k:Nat} (M:oZ P e=some k)
 (O:tU G h) (hI:Inv h φ w T) (N:uN h φ T.length s a) {p:Operand} {S:Option Operand} {Z mx:Operand} {x:AV} {T':aK} (d:cE T (dW G s) (.slx p S Z mx k)=some (x,T')):
 jD h φ T w ((Instr.sliceAt t (a.eval p) (S.map a.eval) (some (a.eval Z)) (some (a.eval mx))).run P w) x T':=by
 have v:=dN O N p;simp only[cE]at d;split at d;rename_i l m y X hm hy;obtain⟨k1,i1,m1,K,J⟩:=Rv O N hm;obtain⟨k2,i2,y1,I,H⟩:=Rv O N hy;have z:Bnd (S.map a.eval) 0 l:=by
  cases S with
  |none=>simp only[O7]at X;exact .inl ⟨rfl,X.symm⟩|some o=>obtain⟨U,i',l1,l2,l3⟩:=Rv O N X;exact .inr ⟨U,i',by simp[l1],l2,l3⟩
 rw[m1,y1];split at d;rename_i U es f;rw[f]at v;simp only[Rp,oB]at v;obtain⟨A,c,W,Q,h2,V⟩:=v;split at d;rename_i F;obtain⟨rfl,u,r,C⟩:=F;rw[W,Ag L M z ⟨K,J⟩ ⟨I,H⟩ u r o_];split at d;rename_i ab;cases d;rw[(o_:m-l=0),(o_:y-l=0)];exact Cd hI _ _;cases d;apply En hI rfl;have D:((es.drop l).take (m-l)).length=m-l:=by rw[eC,vY];omega
 simp only[Rp,oB];refine⟨_,y-l,by rw[D],by rw[D];omega,o_,?_⟩;by_cases R:m-l=0;exact .inl (by rw[R];simp);rcases V with rfl|⟨b,o,rfl,hE⟩
 simp at C;omega;refine .inr ⟨b,o+l*k,du,?_⟩;exact(hE.drop l).take _;simp at d;rename_i i f;rw[f]at v;simp only[Rp]at v;split at d;rename_i U es hg;split at d;rename_i F;obtain⟨rfl,u,r,C⟩:=F;obtain⟨_,Q|⟨g,c,ac,E,B,_,h2,V,_⟩⟩:=AS hI hg;obtain⟨A,Q,rfl⟩:=Q;rw[v.2.1,Q];simp only[gQ]at C;rw[Ag L M z ⟨K,J⟩ ⟨I,H⟩ u r o_];rw[if_pos o_]at d;cases d;rw[(o_:m-l=0),(o_:y-l=0)];exact Cd hI _ _;rw[v.2.1,B,Ag L M z ⟨K,J⟩ ⟨I,H⟩ u r o_];split at d;cases d;rw[(o_:m-l=0),(o_:y-l=0)];exact Cd hI _ _;cases d;apply En hI rfl;simp only[Rp];refine⟨v.1,_,_,rfl,o_,o_,?_⟩;by_cases R:m-l=0;exact .inl R;exact .inr ⟨g,_,c+1,B,du,o_⟩;simp at d;simp at d;rename_i i U aa n f;rw[f]at v;simp only[Rp]at v;obtain⟨Y,A,c,W,Q,h2,V⟩:=v;split at d;rename_i F;obtain⟨rfl,u,r,C⟩:=F;rw[W,Ag L M z ⟨K,J⟩ ⟨I,H⟩ u r o_];split at d;cases d;rw[(o_:m-l=0),(o_:y-l=0)];exact Cd hI _ _;cases d;apply En hI rfl;simp only[Rp];refine⟨Y,_,_,rfl,o_,o_,?_⟩;by_cases R:m-l=0;exact .inl R;rcases V with rfl|⟨g,l',c',B,rfl,h4⟩
 omega;exact .inr ⟨g,l',c',B,by rw[if_neg o_];simp[iG,xE],o_⟩;simp at d;rename_i f;split at d;rename_i F;obtain⟨rfl,rfl,rfl⟩:=F;cases d;rw[lW O N f,Ag L M z ⟨K,J⟩ ⟨I,H⟩ (cN _) (cN _) (cN _)];exact Cd hI _ _;simp at d;simp at d;simp at d
end
section
variable{P:Program}{G:L_}{h:GH}{φ:Nat->Value}{T:aK}{w:World}{s:List (Nat×AV)}{a:Act}
def aU4 {t E et:TypeId} (ht:P.underlying t=some (.map E et)) {ag:Bool} {D:List LK} (M:iF P 20 E=some (ag,D)) {i0:TypeInfo} (aa:P.info? et=some i0) {z:Value} (hz:i0.zero=some z)
 (hG:tU G h) (hI:Inv h φ w T) (hS:uN h φ T.length s a) {m k:Operand} {x:AV} {T':aK} (d:cE T (dW G s) (.men ag D z m k)=some (x,T')):
 jD h φ T w ((Instr.mapEntry t (a.eval m) (a.eval k)).run P w) x T':=by
 have W:=dN hG hS m;have X:=dN hG hS k;simp only[cE]at d;split at d;rename_i i ab;rw[ab]at W;simp only[Rp]at W;split at d;rename_i ah A R bs C S N Y;split at d;rename_i ad;subst ad;obtain⟨l,b,hb⟩:=Ly X Y;have J:∀em,(Instr.checkKey em 10000 E (a.eval k)).run P w=.ok () w:=λem=>by rw[l];exact Ts 20 E ag D M 10000 o_ S b hb
 obtain⟨g,f,h1,h2,h3,K,h5,h6⟩:=DH hI N;rw[W.2.1,h1];split at d;rename_i O;cases d;obtain⟨out,Q,L⟩:=zP (w:=w) M s_ K O;simp only[Ek]at Q;subst Q;rw[<-l]at L;have c:=DI hI N h1 h2 (ens':=f.push {key:=a.eval k,val:=z,born:=C}) (ks':=A++[S]) (vs':=R++[.v z]) (bs':=bs++[C]) (cl':=C+1)
  (by simp[K,l]) (by simp[h5]) (by simp only[Array.toList_push,bZ,fG,uP];exact h6.app (by simp[kR,Rp]))
 refine⟨.tuple #[z,goInt C],_,h,φ,by simp[Instr.mapEntry,run_underlying ht,lK h2,J,L,zeroValue,typeInfo,aa,hz,tW _ h2],c.2,c.1,?_⟩;simp[Rp,kR,goInt];rename_i j O;split at d;rename_i x' b' U ac;cases d;obtain⟨out,Q,L⟩:=zP (w:=w) M s_ K O;obtain⟨_,e,B,f4⟩:=Q;subst f4;rw[<-l]at L;simp only[QO]at B;have I:e.key=a.eval k:=by
  have o:(A.map (iY ag))[j]?=some e.key:=by rw[<-K,gE,B];rfl
  rw[gE]at o
  cases r:A[j]? with
  |none=>simp[r]at o|some k'=>
   simp only[r,iX,O7]at o;have:rJ D S k'=some true:=M7 A 0 O (by simpa using r);rw[<-o,l,Ej this]
 have af:f[j]?=some e:=si;have nG:(Instr.keyThatStays e.key (a.eval k)).run P w=.ok (a.eval k) w:=by rw[I,l];exact Tt hb (Fv (P:=P) (w:=w) 20 E ag D M).1
 have c:=DI hI N h1 h2 (ens':=f.modify j λe=>{e with key:=a.eval k}) (ks':=A) (vs':=R) (bs':=bs) (cl':=C)
  (by rw[mH,El _ _ _ (λe' p=>by rw[B]at p;cases p;exact I.symm)];exact K)
  (by rw[mH,yL f.toList j (λe=>{e with key:=a.eval k}) (λ_=>rfl)];exact h5)
  (by
   rw[mH];have:(f.toList.modify j λe=>{e with key:=a.eval k}).map (·.val)=f.toList.map (·.val):=by apply EW;intro n;simp only[gE,List.getElem?_modify];by_cases H:j=n;subst H;simp only[if_true];cases f.toList[j]?<;>rfl;simp[H]
   rw[this]
   exact h6)
 have ae:T.set i (some (.map ag A R bs C))=T:=by have:=bH N;apply EW;intro n;rw[Hx];split;rename_i Z;subst Z;split;exact this.symm;rename_i hh;rw[sX o_]at this;simp at this;rfl
 rw[ae]at c;have y:e.born=b':=by
  have:(f.toList.map (·.born))[j]?=some e.born:=by rw[gE,B];rfl
  rw[h5,ac]at this;exact(Option.some.inj this).symm
 have F:Rp h φ T.length x' e.val:=by obtain⟨u,q,V⟩:=h6.get U;rw[gE,B]at q;simp only[iX,O7]at q;rw[q];exact V
 refine⟨.tuple #[e.val,goInt e.born],_,h,φ,by simp[Instr.mapEntry,run_underlying ht,lK h2,J,L,af,nG,tW _ h2],c.2,c.1,?_⟩;simp only[Rp,kR];exact⟨_,rfl,_,_,rfl,F,_,_,rfl,by simp[goInt,y],rfl⟩;simp at d;simp at d;simp at d;simp at d;simp at d
def Tw{bs:O3}{ens:List MapEntry}(h:ens.map (·.born)=bs)(n:Int):ens.findIdx? (λe=>(e.born:Int)==n)=bs.findIdx? (λ(b:Nat)=>(b:Int)==n):=by subst h;rw[List.findIdx?_map];rfl
def o5 {t:TypeId}
 (u:tU G h) (hI:Inv h φ w T) (r:uN h φ T.length s a) {m k q:Operand} {x:AV} {y:aK} (c:cE T (dW G s) (.mst m k q)=some (x,y)):
 ∃l,(Instr.entryStore t (a.eval m) (a.eval k) (a.eval q)).run P w=.ok () l/\x=.v undef/\Evo h φ T w h φ y l/\Inv h φ l y:=by
 have o:=dN u r m;have E:=dN u r q;simp only[cE]at c;split at c;rename_i i O n p F;rw[p]at o;simp only[Rp]at o;split at c;rename_i R D C bs N z;split at c;rename_i j H;cases c;obtain⟨g,b,B,h2,Q,K,A,J⟩:=DH hI z;have d:=DI hI z B h2 (ens':=b.modify j λe=>{e with val:=a.eval q}) (ks':=D) (vs':=C.set j (dW G s q)) (bs':=bs) (cl':=N)
  (by
   rw[mH];have:(b.toList.modify j λe=>{e with val:=a.eval q}).map (·.key)=b.toList.map (·.key):=by apply EW;intro n;simp only[gE,List.getElem?_modify];by_cases f:j=n;subst f;simp only[if_true];cases b.toList[j]?<;>rfl;simp[f]
   rw[this];exact K)
  (by rw[mH,yL b.toList j (λe=>{e with val:=a.eval q}) (λ_=>rfl)];exact A)
  (by rw[mH,Em b.toList j (λe=>{e with val:=a.eval q}) (a.eval q) (λ_=>rfl)];exact J.setv E)
 have I:b.findIdx? (λe=>(e.born:Int)==n)=some j:=by
  rw[show b.findIdx? (λe=>(e.born:Int)==n)=b.toList.findIdx? (λe=>(e.born:Int)==n) from by
   conv=>lhs;rw[show b=b.toList.toArray from by rw[YD]]
   rw[List.findIdx?_toArray],Tw A]
  exact H
 refine⟨_,?_,rfl,d.2,d.1⟩;rw[o.2.1,B,lW u r F];simp[Instr.entryStore,lK h2,asInt,asIntOf,I,tW _ h2];simp at c;simp at c;simp at c
def HA{α:Type}(xs:Array α)(j:Nat):(xs.eraseIdxIfInBounds j).toList=xs.toList.eraseIdx j:=by unfold Array.eraseIdxIfInBounds;split;simp;rename_i a;rw[List.eraseIdx_of_length_le];simpa using a
def Ce{α a:Type}(f:α->a):∀(l:List α)(j:Nat),(l.eraseIdx j).map f=(l.map f).eraseIdx j|[],_=>rfl|_::l,0=>rfl|x::l,j+1=>by simp[Ce f l j]
def kR.erase{cs:O0}{us:O5}{n:Nat}:∀{j:Nat},kR h φ n cs us->kR h φ n (cs.eraseIdx j) (us.eraseIdx j):=by
 induction cs generalizing us with
 |nil=>intro j e;simp only[kR]at e;subst e;simp[kR]|cons c cs ih=>
  intro j e;simp only[kR]at e;obtain⟨u,a,rfl,b,h2⟩:=e
  cases j with
  |zero=>simpa using h2|succ j=>simp only[X7,kR];exact⟨u,_,rfl,b,ih h2⟩
def o6 {t r et ty:TypeId} (R:P.underlying t=some (.map r et)) {ag:Bool} {A:List LK} (F:iF P 20 r=some (ag,A)) {ts:Array TypeId} (l:ts[0]?=some t)
 (U:tU G h) (hI:Inv h φ w T) (S:uN h φ T.length s a) {m k:Operand} {x:AV} {Y:aK} (d:cE T (dW G s) (.del ag A m k)=some (x,Y)):
 jD h φ T w ((Builtin.delete_ ts ty #[a.eval m,a.eval k]).run P w) x Y:=by
 have C:=dN U S m;have D:=dN U S k;simp only[cE]at d;split at d;rename_i i J;rw[J]at C;simp only[Rp]at C;split at d;rename_i aa B z bs Q Z u E;split at d;rename_i K;subst K;obtain⟨f,b,hb⟩:=Ly D E;have o:∀X,(Instr.checkKey X 10000 r (a.eval k)).run P w=.ok () w:=λX=>by rw[f];exact Ts 20 r ag A F 10000 o_ Z b hb
 obtain⟨g,q,M,h2,h3,v,W,V⟩:=DH hI u;rw[C.2.1,M];have L:T.set i (some (.map ag B z bs Q))=T:=by have:=bH u;apply EW;intro n;rw[Hx];split;rename_i H;subst H;split;exact this.symm;rename_i hh;rw[sX o_]at this;simp at this;rfl
 split at d;rename_i I;cases d;obtain⟨out,y,p⟩:=zP (w:=w) F s_ v I;simp only[Ek]at y;subst y;rw[<-f]at p;have c:=DI hI u M h2 (ens':=q) (ks':=B) (vs':=z) (bs':=bs) (cl':=Q) v W V;rw[L]at c;refine⟨.tuple #[],_,h,φ,by simp[Builtin.delete_,l,run_underlying R,lK h2,o,p,tW _ h2],c.2,c.1,x_⟩;rename_i j I;cases d;obtain⟨out,y,p⟩:=zP (w:=w) F s_ v I;obtain⟨_,e,f3,f4⟩:=y;subst f4;rw[<-f]at p;have c:=DI hI u M h2 (ens':=q.eraseIdxIfInBounds j) (ks':=B.eraseIdx j) (vs':=z.eraseIdx j) (bs':=bs.eraseIdx j) (cl':=Q)
  (by rw[HA,Ce,v,<-Ce]) (by rw[HA,Ce,W]) (by rw[HA,Ce];exact V.erase)
 refine⟨.tuple #[],_,h,φ,by simp[Builtin.delete_,l,run_underlying R,lK h2,o,p,tW _ h2],c.2,c.1,x_⟩;simp at d;simp at d;simp at d;simp at d
end
section
variable{P:Program}{G:L_}{h:GH}{φ:Nat->Value}{T:aK}{w:World}{s:List (Nat×AV)}{a:Act}
def NB{T:aK}{j:Nat}{x:Option AObj}(h:T[j]?=some x):T.set j x=T:=by apply EW;grind
def o7 {t B E:TypeId} (r:P.underlying t=some (.map B E)) (y:tU G h) (hI:Inv h φ w T) (u:uN h φ T.length s a) {m:Operand} {x:AV} {A:aK} (d:cE T (dW G s) (.rgm m)=some (x,A)):
 jD h φ T w ((Instr.range t (a.eval m)).run P w) x A:=by
 have k:=dN y u m;have f:∀(o:AObj)(i:Option Nat)(c st:Nat),uF h (Zp φ T.length (.pointer (some ⟨w.heap.size,0,none⟩))) (T.length+1) (w.alloc (.mapIter i c #[] st)) T.length o ->
  jD h φ T w (.ok (.pointer (some ⟨w.heap.size,0,none⟩)) (w.alloc (.mapIter i c #[] st))) (.ptr T.length 0) (T++[some o]):=by
  intro o i c st C;have:=tL (w':=w.alloc (.mapIter i c #[] st)) (o:=o) (v:=.pointer (some ⟨w.heap.size,0,none⟩)) hI rfl rfl rfl k_ (λb D=>kX w _ b D)
   (λg n=>by simp only[kI,O7]at n;omega) C
  refine⟨_,_,h,_,rfl,this.2,this.1,?_⟩;simp only[Rp];exact⟨k_,_,bI,rfl⟩
 simp only[cE]at d;split at d;rename_i e;cases d;rw[lW y u e];have:(Instr.range t (.map none)).run P w=.ok (.pointer (some ⟨w.heap.size,0,none⟩)) (w.alloc (.mapIter none 0 #[] 0)):=by simp[Instr.range,run_underlying r]
 rw[this];exact f _ none 0 0 ⟨w.heap.size,none,bI,heap_alloc_new w _,Fx hI,rfl⟩;rename_i j e;rw[e]at k;simp only[Rp]at k;split at d;rename_i N I H bs l n;cases d;obtain⟨g,F,z,h2,M,L,K,J⟩:=DH hI n;have:(Instr.range t (a.eval m)).run P w=.ok (.pointer (some ⟨w.heap.size,0,none⟩)) (w.alloc (.mapIter (some g) l #[] l)):=by rw[k.2.1,z];simp[Instr.range,run_underlying r,lK h2]
 rw[this];exact f _ (some g) l l ⟨w.heap.size,some g,bI,heap_alloc_new w _,Fx hI,g,rfl,o_,by rw[gN k.1];exact z⟩;simp at d;simp at d
def WD(hI:Inv h φ w T){i:Nat}{m:Option Nat}{a:Nat}{c:O3}{st:Nat}(e:cR T i=some (.mit m a c st)):
 ∃(g:Nat)(d:Option Nat),φ i=.pointer (some ⟨g,0,none⟩)/\w.heap[g]?=some (.mapIter d a c.toArray st)/\h g=none /\
  (match(generalizing:=false) m with|none=>d=none|some j=>∃b,d=some b/\j<T.length/\φ j=.map (some b)):=hI.obj i _ (bH e)
def aHn {st:St} {K:AV->aK->Prop} (hG:tU G h) (hI:Inv h φ w st.T) (hS:uN h φ st.T.length st.s a) {p:Operand} (m:yF P G st (.nxt p) K) (ty:TypeId):
 ∃v w',(Instr.next (a.eval p) false ty).run P w=.ok v w'/\CS h φ st.T w K v w':=by
 have U:=dN hG hS p;simp only[yF]at m;split at m;rename_i i Z;rw[Z]at U;simp only[Rp]at U;obtain⟨aa,g,l,R⟩:=U;split at m;rename_i c d la J;obtain⟨g',mo,f,I,e3,e4⟩:=WD hI J;simp only at e4;subst e4;rw[l]at f;cases f;refine⟨.tuple #[.bool false],w,?_,_,st.T,h,φ,m,Evo.refl,hI,x_⟩;rw[R];simp[Instr.next,getObj,Sem.run,I,Sem.run_bind,Result.andThen];rename_i j c d la J;split at m;rename_i ag ks vs bs B hm;obtain⟨w1,w2,w3,w4⟩:=m;obtain⟨g',mo,f,I,e3,b,rfl,e5,e6⟩:=WD hI J;rw[l]at f;cases f;obtain⟨gm,y,z,m2,m3,m4,N,m6⟩:=DH hI hm;rw[e6]at z;cases z;have D:∀x∈y.toList,x.born<c:=λx O=>w2 x.born (by rw[<-N];exact List.mem_map_of_mem O);rcases run_next_at (P:=P) w ty g b c la d.toArray y B I m2 D w1 with⟨r,M⟩|⟨e,r,o,M,n3⟩
 refine⟨_,w,by rw[R];exact M,_,st.T,h,φ,w3 ?_,Evo.refl,hI,x_⟩;intro b' H;rw[<-N]at H;obtain⟨x,O,rfl⟩:=dF.1 H;have:=QA r;unfold leftOf at this;rw[Array.filter_eq_empty_iff]at this;have:=this x (by simpa using O);simpa using this;unfold leftOf at r;simp only[Array.toList_filter,gR]at r;obtain⟨r,n4⟩:=r;obtain⟨A,n⟩:=QF r;have hk:∃k,ks[A]?=some k/\e.key=iY ag k:=by
  have:(y.toList.map (·.key))[A]?=some e.key:=by rw[gE,n];rfl
  rw[m4,gE]at this
  cases E:ks[A]? with
  |none=>simp[E]at this|some k=>simp only[E,iX,O7]at this;exact⟨k,rfl,this.symm⟩
 obtain⟨k,X,W⟩:=hk;have hb:bs[A]?=some e.born:=by rw[<-N,gE,n];rfl
 have C:A<vs.length:=by rw[m6.length,aP];have:=(aQ6.1 n).1;exact this
 obtain⟨u,t,Q⟩:=m6.get (jN C);rw[gE,n]at t;simp only[iX,O7]at t;subst t;have hK:=w4 A k _ e.born X (jN C) hb (by simpa using n4);have q:Inv h φ (Go.ChangeMaps.setBlock o g (.mapIter (some b) c (d.toArray.push e.born) B)) (st.T.set i (some (.mit (some j) c (d++[e.born]) B))) /\
  Evo h φ st.T w h φ (st.T.set i (some (.mit (some j) c (d++[e.born]) B))) (Go.ChangeMaps.setBlock o g (.mapIter (some b) c (d.toArray.push e.born) B)):=by
  have S:o.heap=w.heap/\o.os=w.os/\o.tape=w.tape/\o.output=w.output/\w.drawn<=o.drawn:=by rcases M with rfl|rfl;exact⟨rfl,rfl,rfl,rfl,cN _⟩;exact⟨rfl,rfl,rfl,rfl,Kl _⟩
  obtain⟨L,s2,s3,s4,s5⟩:=S;have Y:g<w.heap.size:=by rcases eD g w.heap.size with F|F;exact F;rw[Hz F]at I;simp at I
  refine Fw (w':=Go.ChangeMaps.setBlock o g (.mapIter (some b) c (d.toArray.push e.born) B)) hI s2 s3 s4 (by simp[Go.ChangeMaps.setBlock,L]) (bH J) (λb' _ V=>?_) ⟨g,some b,l,?_,e3,b,rfl,e5,e6⟩ s5;have:b'≠g:=λF=>V (by rw[l,F];rfl);simp[Go.ChangeMaps.setBlock,L,Ne.symm this];simp[Go.ChangeMaps.setBlock,L,Y]
 refine⟨_,_,by rw[R];exact n3,_,_,h,φ,hK,q.2,q.1,?_⟩;rw[W];simp only[Rp,kR];rw[cL];exact⟨_,rfl,_,_,rfl,rfl,_,_,rfl,rfl,_,_,rfl,Q,rfl⟩;exact m.elim;exact m.elim;exact m.elim
def o8 (hG:tU G h) (hI:Inv h φ w T) (hS:uN h φ T.length s a) {p:Operand} {x:AV} {L:aK} (d:cE T (dW G s) (.ent p)=some (x,L)):
 L=T/\∃v,(Instr.entry (a.eval p)).run P w=.ok v w/\Rp h φ T.length x v:=by
 have C:=dN hG hS p;simp only[cE]at d;split at d;rename_i i D;rw[D]at C;simp only[Rp]at C;obtain⟨Y,g,B,U⟩:=C;split at d;rename_i j A q la Z;split at d;rename_i ag ks vs bs cl b X hb;split at d;rename_i H;subst H;split at d;rename_i e J;split at d;rename_i k v hk Q;cases d;obtain⟨g',mo,f,I,e3,bm,rfl,e5,e6⟩:=WD hI Z;rw[B]at f;cases f;obtain⟨gm,c,o,O,m3,m4,N,M⟩:=DH hI X;rw[e6]at o;cases o;have z:c.findIdx? (λx=>x.born==b)=some e:=by
  conv=>lhs;rw[show c=c.toList.toArray from by rw[YD]]
  rw[List.findIdx?_toArray];rw[<-N,List.findIdx?_map]at J;exact J
 have E:∃l,c[e]?=some l/\c.find? (λx=>x.born==b)=some l:=by rw[Array.findIdx?_eq_some_iff_getElem]at z;obtain⟨t,W,V⟩:=z;refine⟨c[e],Ri t,?_⟩;grind[Array.find?_eq_some_iff_getElem]
 obtain⟨l,F,m⟩:=E;have K:c.toList[e]?=some l:=by simpa using F
 have y:l.key=iY ag k:=by
  have:(c.toList.map (·.key))[e]?=some l.key:=m_;simp_all
 have r:Rp h φ T.length v l.val:=by obtain⟨u,S,R⟩:=M.get Q;simp_all
 have n:q.toArray.back?=some b:=e_;refine⟨rfl,.tuple #[l.key,l.val],?_,?_⟩;rw[U];simp[Instr.entry,getObj,Sem.run_bind,Sem.run,I,O,Result.andThen,n,m];rw[y];simp only[Rp,kR];exact⟨_,rfl,_,_,rfl,rfl,_,_,rfl,r,rfl⟩;simp at d;simp at d;simp at d;simp at d;simp at d;simp at d
def o9(z:Array Value)(b:0<z.size)(n:Nat):(Builtin.zeroCells z n).toList=(List.replicate n z.toList).flatten:=by
 have a:∀n,(List.replicate n z.toList).flatten=II z.toList n:=by
  intro n
  induction n with
  |zero=>rfl|succ n ih=>simp[TW,II,ih]
 rw[a];exact QZ z b n
def Tx(z:O5)(h:GH):∀n,cK h (List.replicate n (z.map AV.v)).flatten (List.replicate n z).flatten|0=>by simp[cK]|n+1=>by rw[TW,TW,zK,zK];exact(Ru h z).app (Tx z h n)
def aA0 {t e ty:TypeId} (ht:P.underlying t=some (.slice e)) {i:TypeInfo} (hi:P.info? e=some i) {z:Value} (hz:i.zero=some z) (ab:z.cells.size=i.size) (h0:0<i.size) (h1:(z.cells.toList.all λv=>gS (.v v))=true)
 (hG:tU G h) (hI:Inv h φ w T) (hS:uN h φ T.length s a) {p:Operand} {x:AV} {T':aK} (r:cE T (dW G s) (.clr p i.size z.cells.toList)=some (x,T')):
 jD h φ T w ((Builtin.clear_ #[t] ty #[a.eval p]).run P w) x T':=by
 have J:=dN hG hS p;have b:∀A c,(Builtin.clear_ #[t] ty #[.slice A 0 c]).run P w=.ok (.tuple #[]) w:=by intro A c;cases A<;>simp[Builtin.clear_,run_underlying ht]
 have U:∀n,∀v∈(List.replicate n z.cells.toList).flatten,v.oneCell'=true:=by intro n v hv;obtain⟨l,N,S⟩:=Kh.1 hv;rw[YM N]at S;have:=oD.1 h1 v S;exact Lr (h:=h) (φ:=φ) (n:=0) (x:=.v v) x_ this
 have y:∀n,(List.replicate n z.cells.toList).flatten.length=n*i.size:=e_;have aa:∀(g o n c:Nat)(f:Array Value)(E:TypeId),0<n->w.heap[g]?=some (.cells f E (0,0))->o+n*i.size<=f.size ->
  (Builtin.clear_ #[t] ty #[.slice (some ⟨g,o,none⟩) n c]).run P w=.ok (.tuple #[]) (w.setRow g (f.toList.take o++(List.replicate n z.cells.toList).flatten++f.toList.drop (o+n*i.size)).toArray):=by
  intro g o n c f E hn R M;have nG:=run_storeCells_at P g o E (List.replicate n z.cells.toList).flatten 0 f w R (by rw[y];omega) (U n);simp only[mG,y]at nG;obtain⟨m,rfl⟩:∃m,n=m+1:=⟨n-1,o_⟩
  simp[Builtin.clear_,run_underlying ht,zeroValue,typeInfo,hi,hz,o9 z.cells o_,nG]
 have F:∀(j k q n c:Nat)(es:N_)(g:Nat),cR T j=some (.arr i.size es)->φ j=.slice (some ⟨g,0,none⟩) es.length c->q+n<=es.length->(z.cells.toList.all λv=>aX (.v v))=true ->
  jD h φ T w ((Builtin.clear_ #[t] ty #[.slice (some ⟨g,q*i.size,none⟩) n k]).run P w) (.v (.tuple #[])) (T.set j (some (.arr i.size (es.take q++List.replicate n (z.cells.toList.map .v)++es.drop (q+n))))):=by
  intro j k q n c es g I u M ae;by_cases hn:n=0;subst hn;rw[b];have:T.set j (some (.arr i.size (es.take q++List.replicate 0 (z.cells.toList.map .v)++es.drop (q+0))))=T:=by simp only[aBP,jO,mG,LC];exact NB (bH I)
  rw[this];exact⟨_,w,h,φ,rfl,Evo.refl,hI,x_⟩;obtain⟨N,h2|⟨g',Z,f,E,B,R,h3,h4,h5,h6,h7⟩⟩:=AS hI I;simp_all;rw[u]at B;injection B with D L e3;cases D;subst e3;have W:∀d∈es,d.length=i.size:=λd K=>(N d K).1;have V:(q+n)*i.size<=es.length*i.size:=aOo _ M;have ad:es.length*i.size<=(Z+1)*i.size:=aOo _ h3;rw[xE]at V;rw[aa g (q*i.size) n k f E o_ R o_];have X:f.toList.length=(Z+1)*i.size:=by rw[show f.toList.length=f.size from GV,h5]
  have ac:∀d∈es.take q++List.replicate n (z.cells.toList.map AV.v)++es.drop (q+n),d.length=i.size/\∀c∈d,aX c=true:=by intro d K;simp only[cG]at K;rcases K with(K|K)|K;exact N d (C8 K);rw[YM K];refine⟨by simp[ab],λc Y=>?_⟩;obtain⟨v,hv,rfl⟩:=dF.1 Y;exact oD.1 ae v hv;exact N d (QG K)
  have H:(es.take q++List.replicate n (z.cells.toList.map AV.v)++es.drop (q+n)).length=es.length:=by simp only[dZ,eC,QE,vY];omega
  have O:(es.take q++List.replicate n (z.cells.toList.map AV.v)++es.drop (q+n)).flatten=es.flatten.take (q*i.size)++(List.replicate n (z.cells.toList.map AV.v)).flatten++es.flatten.drop (q*i.size+n*i.size):=by rw[Kf,Kf,Fz W,Fy W,xE]
  have:=Lt (o':=.arr i.size (es.take q++List.replicate n (z.cells.toList.map AV.v)++es.drop (q+n))) hI (bH I) R (by rw[u];rfl)
   (new:=(f.toList.take (q*i.size)++(List.replicate n z.cells.toList).flatten++f.toList.drop (q*i.size+n*i.size)).toArray)
   ⟨ac,.inr ⟨g,Z,_,E,by rw[u,H],setRow_heap w g f _ E _ R,by rw[H];exact h3,h4,by
    rw[Gn];simp only[dZ,eC,vY,y,X];omega,h6,by
    rw[O,H];have:=Mz f.toList (List.replicate n z.cells.toList).flatten (q*i.size) (n*i.size) (es.length*i.size) o_ o_ (y n);show cK h _ (List.take _ (f.toList.take (q*i.size)++(List.replicate n z.cells.toList).flatten++f.toList.drop (q*i.size+n*i.size)));rw[this]
    exact((h7.take _).app (Tx _ h n)).app (h7.drop _)⟩⟩
  exact⟨_,_,h,φ,rfl,this.2,this.1,x_⟩
 simp only[cE]at r;split at r;rename_i k C;cases r;rw[C]at J;simp only[Rp,oB]at J;obtain⟨A,c,hu,_⟩:=J;rw[hu];simp only[gQ];rw[b];exact⟨_,w,h,φ,rfl,Evo.refl,hI,x_⟩;rename_i C;cases r;rw[lW hG hS C,b];exact⟨_,w,h,φ,rfl,Evo.refl,hI,x_⟩;rename_i j C;rw[C]at J;simp only[Rp]at J;split at r;rename_i k' es I;split at r;rename_i Y;obtain⟨rfl,ah,Q⟩:=Y;cases r;obtain⟨_,h2|⟨g,c,f,E,u,_⟩⟩:=AS hI I;obtain⟨A,hA,rfl⟩:=h2;rw[J.2.1,hA,b];have:T.set j (some (.arr i.size (List.replicate ([]:N_).length (z.cells.toList.map .v))))=T:=by simp only[gQ,aBP];exact NB (bH I)
 rw[this];exact⟨_,w,h,φ,rfl,Evo.refl,hI,x_⟩;rw[J.2.1,u];have:=F j (c+1) 0 es.length (c+1) es g I u o_ Q;simpa using this;simp at r;simp at r;rename_i j k' q m C;rw[C]at J;simp only[Rp]at J;split at r;rename_i ai es I;split at r;rename_i Y;obtain⟨rfl,rfl,ah,Q,af⟩:=Y;cases r;obtain⟨_,A,c,hu,_,_,h3⟩:=J;rcases h3 with rfl|⟨g,l,Z,u,rfl,M⟩
 rw[hu,b];have:T.set j (some (.arr i.size (es.take q++List.replicate 0 (z.cells.toList.map .v)++es.drop (q+0))))=T:=by simp only[aBP,jO,mG,LC];exact NB (bH I)
 rw[this];exact⟨_,w,h,φ,rfl,Evo.refl,hI,x_⟩;rw[hu];have N:l=es.length:=by obtain⟨_,h2|⟨g',c2,f,E,B,_⟩⟩:=AS hI I;obtain⟨A,hA,rfl⟩:=h2;rw[u]at hA;injection hA;rw[u]at B;injection B
 subst N;exact F j c q m Z es g I u Q af;simp at r;simp at r;simp at r
end
end Hud
namespace Hud
open Go Go.Lib
section
variable{P:Program}{G:L_}{h:GH}{φ:Nat->Value}{w:World}{T:aK}{s:List (Nat×AV)}{a:Act}
def aF2 {ev:Operand->AV} {x y:Operand} {r:AV} {j:aK} (a:cE T ev (.apS x y)=some (r,j)):
 ∃ S,ev y=.v (.string S) /\
  ((ev x=.v (.slice none 0 0)/\S.size<=140737488355328/\S.size<=maxLen/\r=.own T.length/\j=T++[some (.arr 1 (lJ S))]) \/
   ∃i b,ev x=.own i/\cR T i=some (.arr 1 b)/\b.length+S.size<=140737488355328/\b.length+S.size<=maxLen/\r=.own T.length/\j=T.set i none++[some (.arr 1 (b++lJ S))]):=by
 simp only[cE]at a;split at a;rename_i S l;refine⟨S,l,?_⟩;split at a;rename_i d;split at a;rename_i c;injection a with a;injection a with h g;exact .inl ⟨d,c.1,c.2,h.symm,g.symm⟩;simp at a;rename_i i d;split at a;rename_i m b k;split at a;rename_i c;obtain⟨rfl,f,e⟩:=c;injection a with a;injection a with h g;exact .inr ⟨i,b,d,k,f,e,h.symm,g.symm⟩;simp at a;simp at a;simp at a;simp at a
def Ty(n:Nat):∀l:List UInt8,cK h (l.map λb=>AV.v (.int .u8 (b.toNat:Int))) (l.map λb=>Value.int .u8 (b.toNat:Int))|[]=>by simp[cK]|x::l=>by simp only[fG,cK];exact⟨_,_,rfl,by simp[oB],Ty n l⟩
def aA1{n:Nat}(S:ByteArray):C6 h φ n true (lJ S).flatten (strCells S):=by
 have e:(lJ S).flatten=S.data.toList.map λb=>AV.v (.int .u8 (b.toNat:Int)):=by
  unfold lJ
  induction S.data.toList with
  |nil=>rfl|cons x l ih=>simp only[fG,zK,ih];rfl
 rw[e];show cK h _ _;exact Ty 0 _
def aCk(w:World){t u e ty:TypeId}(f:P.underlying t=some (.slice e))(a:P.underlying u=some .string){i:TypeInfo}(g:P.info? e=some i)(A:Option Addr)(c:Nat){S:ByteArray}(b:S.size=0)(hA:A=none\/A.isSome=true):
 (Builtin.append_ #[t,u] ty #[.slice A 0 c,.string S]).run P w=.ok (.slice A 0 c) w:=by
 have d:=run_firstCells_string (P:=P) w i.size S;have h:strCells S=[]:=Ae (by rw[strCells_length,b]);rw[b,h]at d;cases A<;>simp[Builtin.append_,run_underlying f,run_underlying a,Go.sizeOf,typeInfo,g,Builtin.lenOf,b,d,storeCells]
def nilS(w:World){t u e ty:TypeId}(f:P.underlying t=some (.slice e))(a:P.underlying u=some .string){i:TypeInfo}(g:P.info? e=some i){z:Value}(d:i.zero=some z)(S:ByteArray)(h0:0<S.size)(b:(S.size:Int)<=9223372036854775807)(c:S.size*i.bytes<=281474976710656):
 (Builtin.append_ #[t,u] ty #[.slice none 0 0,.string S]).run P w =
  .ok (.slice (some ⟨w.heap.size,0,none⟩) S.size (grownCap w S.size 0 e)) (w.drew.alloc (.cells ((strCells S).toArray++Builtin.zeroCells z.cells (grownCap w S.size 0 e-S.size)) e)):=by
 rw[run_append_nil_string w t u ty e i z f a g d S h0 b c];congr 3;apply Array.ext';simp[strCells]
def aA2 {t u e ty:TypeId} (ht:P.underlying t=some (.slice e)) (W:P.underlying u=some .string) {i:TypeInfo} (hi:P.info? e=some i) {z:Value} (hz:i.zero=some z) (bg:z.cells.size=i.size) (ba:i.size=1) (an:i.bytes=1)
    (hG:tU G h) (hI:Inv h φ w T) (hS:uN h φ T.length s a) {p q:Operand} {x:AV} {T':aK} (he:cE T (dW G s) (.apS p q)=some (x,T')):
    jD h φ T w ((Builtin.append_ #[t,u] ty #[a.eval p,a.eval q]).run P w) x T':=by
  have h0:0<i.size:=by omega
  obtain⟨S,bh,am⟩:=aF2 he;have hp:=dN hG hS p;have hu:a.eval q=.string S:=lW hG hS bh;obtain⟨new,L⟩:∃new,new=lJ S:=⟨_,rfl⟩
  obtain⟨f,B⟩:∃f,f=strCells S:=⟨_,rfl⟩
  obtain⟨I,av⟩:∃I:Bool,I=true:=⟨_,rfl⟩
  have F:new.length=S.size:=by rw[L];simp[lJ]
  have y:∀d∈new,d.length=i.size/\∀c∈d,PO I c=true:=by intro d D;rw[L]at D;simp only[lJ,dF]at D;obtain⟨x,_,rfl⟩:=D;refine⟨by rw[ba];rfl,λc hc=>?_⟩;rw[aE5.1 hc,av];rfl
  have Y:C6 h φ T.length I new.flatten f:=by rw[L,B,av];exact aA1 S
  have aw:(dW G s p=.v (.slice none 0 0)/\new.length*i.bytes<=140737488355328/\new.length<=maxLen/\x=.own T.length/\T'=T++[some (jE I i.size new)]) \/
       ∃j l U,dW G s p=.own j/\sZ (cR T j)=some (i.size,l,U)/\(l.length+new.length)*i.bytes<=140737488355328/\l.length+new.length<=maxLen/\x=.own T.length/\T'=T.set j none++[some (jE (I&&U) i.size (l++new))]:=by
    rw[ba,an,av,F,L];rcases am with⟨e1,e2,e3,e4,e5⟩|⟨j,l,e1,e2,e3,e4,e5,e6⟩
    · exact .inl ⟨e1,by omega,e3,e4,e5⟩
    · exact .inr ⟨j,l,true,e1,by rw[e2];rfl,by omega,e4,e5,e6⟩
  have A:f.length=new.length*i.size:=by rw[<-Y.length,Af λd D=>(y d D).1]
  have bd:∀v∈f,v.oneCell'=true:=by
    intro v hv;obtain⟨j,hj⟩:=QF hv;have be:j<new.flatten.length:=by
      rw[Y.length];rcases eD j f.length with H|H
      · exact H
      · rw[sX H]at hj;simp at hj
    obtain⟨u,h1,h2⟩:=Y.toL.get (jN be);rw[hj]at h1;injection h1 with h1;subst h1;obtain⟨d,D,bk⟩:=Kh.1 (eQ be);exact Lr h2 (Ls ((y d D).2 _ bk))
  have k:∀(m M:Nat)(xs:O5),xs.length=m*i.size->m<=maxLen ->
      (xs.toArray++Builtin.zeroCells z.cells (grownCap w m M e-m)).size=grownCap w m M e*i.size/\(xs.toArray++Builtin.zeroCells z.cells (grownCap w m M e-m)).toList.take (m*i.size)=xs/\m<=grownCap w m M e/\grownCap w m M e<=maxLen:=by
    intro m M xs ai hm;have bi:=grownCap_ge w m M e;refine⟨?_,?_,bi,grownCap_le_maxLen w m M e hm⟩
    · simp only[Array.size_append,Gn,size_zeroCells,bg,ai,<-xE]
      congr 1
      omega
    · simp only[TV]
      rw[<-ai]
      exact YL
  rcases aw with⟨hx,hb,hm,rfl,rfl⟩|⟨j,l,U,hx,hg,hb,hm,rfl,rfl⟩
  ·
    rw[lW hG hS hx,hu]
    by_cases Z:new=[]
    · have aq:S.size=0:=by rw[<-F,Z];rfl
      rw[Z]
      have:(Builtin.append_ #[t,u] ty #[.slice none 0 0,.string S]).run P w=.ok (.slice none 0 0) w:=aCk w ht W hi none 0 aq (.inl rfl)
      rw[this]
      have:=tL (w':=w) (o:=jE I i.size []) (v:=.slice none 0 0) hI rfl rfl rfl (cN _) (λ_ _=>rfl) (λg hg=>by simp[kI]at hg) (mS.2 ⟨by simp,.inl ⟨none,bI,rfl⟩⟩)
      refine⟨_,w,h,_,rfl,this.2,this.1,?_⟩
      simp only[Rp]
      exact⟨by simp,bI.symm,_,_,_,rfl⟩
    · have bc:0<new.length:=H3.2 Z
      have hr:=nilS (P:=P) w (ty:=ty) ht W hi hz S (by omega) (by unfold maxLen at hm;omega) (by rw[an];omega)
      rw[<-F,<-B]at hr
      rw[hr]
      obtain⟨c1,c2,c3,c4⟩:=k new.length 0 f A hm
      exact tD (w1:=w.drew) hI rfl rfl rfl rfl y rfl c3 c4 c1 (by rw[c2];exact Y) e
  ·
    rw[hx]at hp
    simp only[Rp]at hp
    obtain⟨hl,h1|⟨g,R,n,E,N,hw,h2,h3,h4,h5,h6⟩⟩:=rK hI hg
    ·
      obtain⟨A0,N,rfl⟩:=h1
      rw[hp.2.1,N,hu]
      simp only[dM,gQ,pQ]at hb hm⊢
      obtain⟨af,ax⟩:=xI hI j
      have ah:∀{r:Result Value},jD h φ (T.set j none) w r (.own (T.set j none).length) (T.set j none++[some (jE (I&&U) i.size new)])->jD h φ T w r (.own T.length) (T.set j none++[some (jE (I&&U) i.size new)]):=by rintro r ⟨v,w',h',φ',m1,m2,m3,m4⟩;rw[cL]at m4;exact⟨v,w',h',φ',m1,ax.trans m2,m3,m4⟩
      apply ah
      by_cases Z:new=[]
      · have aq:S.size=0:=by rw[<-F,Z];rfl
        rw[Z]
        have:(Builtin.append_ #[t,u] ty #[.slice A0 0 0,.string S]).run P w=.ok (.slice A0 0 0) w:=aCk w ht W hi A0 0 aq (by cases A0;exact .inl rfl;exact .inr rfl)
        rw[this]
        have:=tL (w':=w) (o:=jE (I&&U) i.size []) (v:=.slice A0 0 0) af rfl rfl rfl (cN _) (λ_ _=>rfl) (λg hg=>by simp[kI]at hg) (mS.2 ⟨by simp,.inl ⟨A0,bI,rfl⟩⟩)
        refine⟨_,w,h,_,rfl,this.2,this.1,?_⟩
        simp only[Rp]
        exact⟨by simp,bI.symm,_,_,_,rfl⟩
      · have bc:0<new.length:=H3.2 Z
        cases A0 with
          | none=>
            have hr:=nilS (P:=P) w (ty:=ty) ht W hi hz S (by omega) (by unfold maxLen at hm;omega) (by rw[an];omega)
            rw[<-F,<-B]at hr
            rw[hr]
            obtain⟨c1,c2,c3,c4⟩:=k new.length 0 f A hm
            exact tD (w1:=w.drew) af rfl rfl rfl rfl (λd D=>⟨(y d D).1,λc hc=>qO ((y d D).2 c hc) (λH=>(zJ _ _ ▸ H:I=true/\U=true).1)⟩) rfl c3 c4 c1 (by rw[c2,cL];exact Y.weaken λH=>(zJ _ _ ▸ H:I=true/\U=true).1) e
          | some a0=>
            have hr:=run_append_grow_string (P:=P) w t u ty e i z ht W hi hz a0 0 0 [] (by simp) (λj v hj=>by simp at hj) S (by omega) (by unfold maxLen at hm;omega) (growslice_fits (by omega) (by rw[an];omega))
            rw[<-F,<-B]at hr
            rw[hr]
            obtain⟨c1,c2,c3,c4⟩:=k new.length 0 f A hm
            simp only[pQ,YG]at *
            exact tD (w1:=w.drew) af rfl rfl rfl rfl (λd D=>⟨(y d D).1,λc hc=>qO ((y d D).2 c hc) (λH=>(zJ _ _ ▸ H:I=true/\U=true).1)⟩) rfl c3 c4 c1 (by rw[c2,cL];exact Y.weaken λH=>(zJ _ _ ▸ H:I=true/\U=true).1) e
    · rw[hp.2.1,N,hu]
      have K:(n.toList.take (l.length*i.size)).length=l.length*i.size:=by rw[<-h6.length,Af λd D=>(hl d D).1]
      have ao:(I&&U)=true->I=true/\U=true:=λH=>by simpa using H
      have ad:∀d∈l++new,d.length=i.size/\∀c∈d,PO (I&&U) c=true:=by
        intro d D;rcases cG.1 D with D|D
        · exact⟨(hl d D).1,λc hc=>qO ((hl d D).2 c hc) λH=>(ao H).2⟩
        · exact⟨(y d D).1,λc hc=>qO ((y d D).2 c hc) λH=>(ao H).1⟩
      have aa:C6 h φ T.length (I&&U) (l++new).flatten (n.toList.take (l.length*i.size)++f):=by rw[Kf];exact(h6.weaken λH=>(ao H).2).app (Y.weaken λH=>(ao H).1)
      by_cases X:l.length+new.length<=R+1
      ·
        have hf:(Builtin.firstCells i.size new.length (.string S)).run P w=.ok f.toArray w:=by rw[F,B];exact run_firstCells_string w i.size S
        have aj:l.length+S.size<=R+1:=by omega
        rw[F]at hf
        have bf:l.length*i.size+f.length<=n.size:=by rw[A,h4,<-xE];exact aOo _ X
        have nG:=run_storeCells_at P g (l.length*i.size) E f 0 n w hw (by simpa using bf) bd
        simp only[mG]at nG
        have bb:(Builtin.append_ #[t,u] ty #[.slice (some ⟨g,0,none⟩) l.length (R+1),.string S]).run P w =
            .ok (.slice (some ⟨g,0,none⟩) (l.length+new.length) (R+1)) (w.setRow g (n.toList.take (l.length*i.size)++f++n.toList.drop (l.length*i.size+f.length)).toArray):=by
          rw[F];simp[Builtin.append_,run_underlying ht,run_underlying W,Go.sizeOf,typeInfo,hi,Builtin.lenOf,aj,hf,iG,nG]
        rw[bb]
        have bl:=xI hI j
        have ac:=bH (DE hg)
        refine⟨_,_,h,Zp φ T.length (.slice (some ⟨g,0,none⟩) (l.length+new.length) (R+1)),rfl,?_,?_,?_⟩
        · refine⟨rfl,rfl,rfl,by simp,λb hb O=>setRow_other w g b _ λe=>O j _ ac (by rw[N,e];rfl),CA.refl h,λ_ _ e=>.inl e,λm hm=>gN hm,λm o b em ae=>?_,by simp,cN _⟩
          rcases kG em with⟨ab,J⟩|⟨rfl,J⟩
          · rw[cL]at ab
            rw[gN ab]at ae
            rcases oM J with⟨_,V⟩|⟨_,V⟩
            · simp at V
            · exact .inr ⟨m,o,V,ae⟩
          · rw[cL,bI]at ae
            simp only[kI,O7]at ae
            exact .inr ⟨j,_,ac,by rw[N];simp[kI,ae]⟩
        · refine⟨λb cs eb=>?_,λm o em=>?_,λm m' o o' b em J Q C=>?_⟩
          · obtain⟨E',fr,ap⟩:=hI.gh b cs eb
            refine⟨E',fr,?_⟩
            rw[setRow_other w g b _ λe=>by subst e;rw[h5]at eb;simp at eb]
            exact ap
          · rcases kG em with⟨ab,J⟩|⟨rfl,J⟩
            · rw[cL]at ab
              rcases oM J with⟨_,V⟩|⟨O,V⟩
              · simp at V
              · rw[dZ,cL]
                have h7:=hI.obj m o V
                refine qN h7 (CA.refl h) (by simp) (λj hj=>gN hj) ab λb ap=>?_
                obtain⟨h8,h9⟩:=iT h7 ap
                refine⟨setRow_other w g b _ λe=>O (hI.dis m j o _ b V ac ap (by rw[N,e];rfl)),h9⟩
            · injection J with J
              subst J
              rw[cL,dZ,cL]
              refine mS.2 ⟨ad,.inr ⟨g,R,_,E,by rw[bI,dZ],setRow_heap w g n _ E _ hw,by rw[dZ];exact X,h3,?_,h5,?_⟩⟩
              · rw[Gn]
                simp only[dZ,vY,K]
                rw[show n.toList.length=n.size from GV,<-h4]
                omega
              · have au:(n.toList.take (l.length*i.size)++f).length=(l++new).length*i.size:=by rw[dZ,K,A,dZ,xE]
                show C6 h _ _ (I&&U) _ (List.take _ (n.toList.take (l.length*i.size)++f++n.toList.drop (l.length*i.size+f.length)))
                rw[<-au,YL]
                exact aa.mono (CA.refl h) (by simp) λi hi=>gN hi
          · rcases kG em with⟨al,az⟩|⟨rfl,az⟩<;>rcases kG J with⟨ak,ay⟩|⟨rfl,ay⟩
            · rw[cL]at al ak
              rw[gN al]at Q;rw[gN ak]at C
              exact bl.1.dis m m' o o' b az ay Q C
            · rw[cL]at al C
              rw[gN al]at Q;rw[bI]at C
              simp only[kI,O7]at C
              rcases oM az with⟨_,V⟩|⟨O,V⟩
              · simp at V
              · exact absurd (hI.dis m j o _ b V ac Q (by rw[N,<-C];rfl)) O
            · rw[cL]at ak Q
              rw[gN ak]at C;rw[bI]at Q
              simp only[kI,O7]at Q
              rcases oM ay with⟨_,V⟩|⟨O,V⟩
              · simp at V
              · exact absurd (hI.dis m' j o' _ b V ac C (by rw[N,<-Q];rfl)) O
            · rfl
        · simp only[Rp]
          rw[dZ,cL]
          exact⟨by simp,by rw[bI],_,_,_,rfl⟩
      ·
        have O:new≠[]:=by rintro rfl;simp at X;omega
        · have ar:∀j v,(n.toList.take (l.length*i.size))[j]?=some v->w.cell? ((⟨g,0,none⟩:Addr).add j)=some v:=by
            intro j v hj;rw[iG,DD hw];rw[BT]at hj;split at hj
            · rw[<-hj];simp
            · simp at hj
          have hr:=run_append_grow_string (P:=P) w t u ty e i z ht W hi hz ⟨g,0,none⟩ l.length (R+1) _ K ar S (by omega) (by unfold maxLen at hm;omega) (growslice_fits (by omega) (by rw[<-F];exact hb))
          rw[<-F,<-B]at hr
          rw[hr]
          obtain⟨af,ax⟩:=xI hI j
          have ah:∀{r:Result Value},jD h φ (T.set j none) w r (.own (T.set j none).length) (T.set j none++[some (jE (I&&U) i.size (l++new))])->jD h φ T w r (.own T.length) (T.set j none++[some (jE (I&&U) i.size (l++new))]):=by rintro r ⟨v,w',h',φ',m1,m2,m3,m4⟩;rw[cL]at m4;exact⟨v,w',h',φ',m1,ax.trans m2,m3,m4⟩
          apply ah
          have ai:(n.toList.take (l.length*i.size)++f).length=(l.length+new.length)*i.size:=by rw[dZ,K,A,xE]
          obtain⟨c1,c2,c3,c4⟩:=k (l.length+new.length) (R+1) (n.toList.take (l.length*i.size)++f) ai hm
          have bj:(n.toList.take (l.length*i.size)).toArray++f.toArray=(n.toList.take (l.length*i.size)++f).toArray:=by simp
          rw[bj]
          exact tD (w1:=w.drew) af rfl rfl rfl rfl ad (by simp) c3 c4 c1 (by rw[c2,cL];exact aa) e
end
end Hud
