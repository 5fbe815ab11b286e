import Derived.Test.YtfbnbkidnmhhoaaGreatDoorLib04
import Derived.OrdersIn
import Derived.TacticsIn
import Derived.RangeFuncRecord
set_option linter.all false
namespace Hud
open Go
def Lz (P:Program) (o:Oper):Option HOp :=
 match o.op with
 | .makeMap t none=>match P.underlying t with
  |some (.map a _)=>match iF P 20 a with|some (b,_)=>some (.mkm b)|none=>none
  |_=>none
 | .lookup t m k e=>match P.underlying t with
  | some (.map a f)=>match iF P 20 a,P.info? f with
   |some (b,d),some i=>match i.zero with|some z=>some (.lku b d z m k e)|none=>none
   |_,_=>none
  |_=>none
 | .mapUpdate t m k x=>match P.underlying t with
  |some (.map a _)=>match iF P 20 a with|some (b,d)=>some (.mup b d m k x)|none=>none
  |_=>none
 | .insert t m k x=>match P.underlying t with
  |some (.map a _)=>match iF P 20 a with|some (b,d)=>some (.mup b d m k x)|none=>none
  |_=>none
 | .call c=>match c.callee,c.args.toList,c.argTypes[0]? with
  |.builtin .len,[x],some t=>match P.underlying t with|some (.map _ _)=>some (.lenM x)|_=>none
  |_,_,_=>none
 |_=>none
def L0 (P:Program) (o:Oper):Option HOp :=
 match o.op with
 | .buildSlice t g a=>match P.underlying t with
  |some (.slice e)=>match P.info? e with|some i=>if g=0/\a.size=0 then some (.bsl i.size [] [] 0) else none|none=>none
  |_=>none
 | .makeSlice t x y=>match P.underlying t with
  | some (.slice e)=>match P.info? e with
   |some i=>match i.zero with|some z=>if z.cells.size=i.size/\0<i.size/\(z.cells.toList.all λx=>aX (.v x))=true then some (.mks i.size z.cells.toList i.bytes x y) else none|none=>none
   |none=>none
  |_=>none
 | .convert b d x=>match P.underlying b,P.underlying d with
  |some .string,some (.slice e)=>match P.underlying e with|some (.int .u8)=>some (.s2b x)|_=>none
  |some (.slice e),some .string=>match P.underlying e with|some (.int .u8)=>some (.b2s x)|_=>none
  |some (.slice e),some (.slice _)=>if b=d then(match P.underlying e with|some (.int .u8)=>some (.b2b x)|_=>none) else none
  |_,_=>none
 | .slice t x l (some n) (some mx)=>match P.underlying t with
  |some (.slice e)=>match oZ P e with|some k=>some (.slx x l n mx k)|none=>none
  |_=>none
 | .mapEntry t m k=>match P.underlying t with
  | some (.map h p)=>match iF P 20 h,P.info? p with
   |some (j,f),some i=>match i.zero with|some z=>some (.men j f z m k)|none=>none
   |_,_=>none
  |_=>none
 |.entryStore _ m s x=>some (.mst m s x)| .call c=>match c.callee,c.args.toList,c.argTypes[0]? with
  | .builtin .delete,[m,k],some t=>match P.underlying t with
   |some (.map h _)=>match iF P 20 h with|some (j,f)=>some (.del j f m k)|none=>none
   |_=>none
  |_,_,_=>none
 |_=>none
def L3 (P:Program) (o:Oper):Option HOp :=
 match o.op with
 |.makeFunc (.func f) first a=>some (.bmo f first.size (first.toList++a.toList))
 |.range t m=>match P.underlying t with|some (.map _ _)=>some (.rgm m)|_=>none
 |.next b false=>some (.nxt b)|.entry b=>some (.ent b)|.panic _=>some .bad|.makeInterface _ _=>some .bad| .call c=>match c.callee,c.args.toList,c.argTypes.toList with
  | .builtin .clear,[x],[t]=>match P.underlying t with
   | some (.slice e)=>match P.info? e with
    |some i=>match i.zero with|some z=>if z.cells.size=i.size/\0<i.size/\(z.cells.toList.all λv=>gS (.v v))=true then some (.clr x i.size z.cells.toList) else none|none=>none
    |none=>none
   |_=>none
  |_,_,_=>none
 |_=>none
def L4 (P:Program) (o:Oper):Option HOp :=
 match o.op with
 | .binOp b t x y _=>
  if b=.eql\/b=.neq then
   match P.underlying t with
   |some (.array n e)=>match P.underlying e with|some (.int k)=>if P.cellsOf e=1/\(P.info? e).isSome/\GY P e=some none/\eqG P P.depth t=false then some (.eqa (b==.neq) (List.replicate n (.int k)) x y) else none|_=>none
   |_=>none
  else none
 | .build t a=>match P.underlying t,P.info? t with
  | some (.array _ e),some i=>match i.zero with
   |some z=>match P.info? e with|some _=>some (.bld z.cells.toList (Jb (P.cellsOf e) a.toList))|none=>none
   |none=>none
  |_,_=>none
 | .call c=>match c.callee,c.args.toList,c.argTypes.toList with
  | .builtin .append,[x,y],[t,u]=>match P.underlying t,P.underlying u with
   | some (.slice e),some .string=>match P.info? e with
    |some i=>match i.zero with|some z=>if z.cells.size=i.size/\i.size=1/\i.bytes=1 then some (.apS x y) else none|none=>none
    |none=>none
   |_,_=>none
  |_,_,_=>none
 |_=>none
def HB (P:Program) (o:Oper):Option HOp :=
 match aBA P o with
 |some h=>some h| none=>match Lx P o with|some h=>some h| none=>match Lz P o with|some h=>some h| none=>match L0 P o with|some h=>some h|none=>match L3 P o with|some h=>some h|none=>L4 P o
section
variable{P:Program}{G:L_}{h:GH}{φ:Nat->Value}{w:World}{a:Act}{st:St}{K:AV->aK->Prop}{next:Act->World->Prop}{Q:Exit->Act->World->Prop}
def aA3 {o:Oper} {A:HOp} (b:Lz P o=some A) (U:yF P G st A K) (N:tU G h) (hI:Inv h φ w st.T) (M:uN h φ st.T.length st.s a)
 (W:∀v E,CS h φ st.T w K v E->next (a.put o.dst v) E):rL P o a w next:=by
 have q:∀{sv:Sem Value}(_:execOp a.eval o=(do pure (.value (<-sv))))(_:(∀f l,A≠.call f l)/\(∀p,A≠.nxt p)/\∀n k x,A≠.nilS n k x)(_:∀x g,cE st.T (dW G st.s) A=some (x,g)->g=st.T/\∃v,sv.run P w=.ok v w/\Rp h φ st.T.length x v),rL P o a w next:=by intro sv u d r;obtain⟨x,g,e,C⟩:=GZ d U;obtain⟨rfl,v,I,h2⟩:=r x g e;exact uT u I (W v w (tE hI h2 C))
 have D:∀{sv:Sem Value}(_:execOp a.eval o=(do pure (.value (<-sv))))(_:(∀f l,A≠.call f l)/\(∀p,A≠.nxt p)/\∀n k x,A≠.nilS n k x)(_:∀x g,cE st.T (dW G st.s) A=some (x,g)->jD h φ st.T w (sv.run P w) x g),rL P o a w next:=by intro sv u d r;obtain⟨x,g,e,C⟩:=GZ d U;obtain⟨v,E,I,h2⟩:=Cb (r x g e) C;exact uT u I (W v E h2)
 have j:∀{su:Sem Unit}(_:execOp a.eval o=(do su;pure .skip))(_:(∀f l,A≠.call f l)/\(∀p,A≠.nxt p)/\∀n k x,A≠.nilS n k x)(_:∀x g,cE st.T (dW G st.s) A=some (x,g)->∃E,su.run P w=.ok () E/\x=.v undef/\Evo h φ st.T w h φ g E/\Inv h φ E g),rL P o a w next:=by intro su u d r;obtain⟨x,g,e,C⟩:=GZ d U;obtain⟨E,I,rfl,h2,h3⟩:=r x g e;unfold rL;rw[u];simp only[Sem.run_bind,I,Result.andThen_ok,Sem.run_pure];exact W undef E ⟨_,g,h,φ,C,h2,h3,x_⟩
 obtain⟨ab,op,Z,aa,Y,X⟩:=o;unfold Lz at b;simp only at b;split at b;rename_i t;split at b;rename_i L O F;split at b;rename_i R S C;cases b;refine D (sv:=Instr.makeMap t none) rfl k_ λx g u=>?_;simp only[cE,O7,Prod.mk.injEq]at u;obtain⟨rfl,rfl⟩:=u;exact Z0 hI t R;simp at b;simp at b;rename_i t m k ok;split at b;rename_i L O F;split at b;rename_i R S i C hi;split at b;rename_i z hz;cases b;exact q (sv:=Instr.lookup t (a.eval m) (a.eval k) ok) rfl k_ λy g u=>Z4 F C hi hz N hI M u;simp at b;simp at b;simp at b;rename_i t m k x;split at b;rename_i L O F;split at b;rename_i R S C;cases b;exact j (su:=Instr.mapUpdate t (a.eval m) (a.eval k) (a.eval x)) rfl k_ λy g u=>Qe F C N hI M u;simp at b;simp at b;rename_i t m k x;split at b;rename_i L O F;split at b;rename_i R S C;cases b;exact j (su:=Instr.mapUpdate t (a.eval m) (a.eval k) (a.eval x)) rfl k_ λy g u=>Qe F C N hI M u;simp at b;simp at b;rename_i c;obtain⟨Q,J,B⟩:=c;simp only at b;split at b;rename_i x t H V;have ha:J=#[x]:=EY.1 (by rw[H]);subst ha;split at b;rename_i L O F;cases b;exact q (sv:=Builtin.len_ B Z #[a.eval x]) y_ k_ λy g u=>WA F V N hI M u;simp at b;simp at b;simp at b
def aA4 {o:Oper} {A:HOp} (b:L0 P o=some A) (Z:yF P G st A K) (N:tU G h) (hI:Inv h φ w st.T) (M:uN h φ st.T.length st.s a)
 (hn:∀v I,CS h φ st.T w K v I->next (a.put o.dst v) I):rL P o a w next:=by
 have D:∀{sv:Sem Value}(_:execOp a.eval o=(do pure (.value (<-sv))))(_:(∀f l,A≠.call f l)/\(∀p,A≠.nxt p)/\∀n k x,A≠.nilS n k x)(_:∀x j,cE st.T (dW G st.s) A=some (x,j)->j=st.T/\∃v,sv.run P w=.ok v w/\Rp h φ st.T.length x v),rL P o a w next:=by intro sv q r u;obtain⟨x,j,e,F⟩:=GZ r Z;obtain⟨rfl,v,U,h2⟩:=u x j e;exact uT q U (hn v w (tE hI h2 F))
 have g:∀{sv:Sem Value}(_:execOp a.eval o=(do pure (.value (<-sv))))(_:(∀f l,A≠.call f l)/\(∀p,A≠.nxt p)/\∀n k x,A≠.nilS n k x)(_:∀x j,cE st.T (dW G st.s) A=some (x,j)->jD h φ st.T w (sv.run P w) x j),rL P o a w next:=by intro sv q r u;obtain⟨x,j,e,F⟩:=GZ r Z;obtain⟨v,I,U,h2⟩:=Cb (u x j e) F;exact uT q U (hn v I h2)
 have C:∀{su:Sem Unit}(_:execOp a.eval o=(do su;pure .skip))(_:(∀f l,A≠.call f l)/\(∀p,A≠.nxt p)/\∀n k x,A≠.nilS n k x)(_:∀x j,cE st.T (dW G st.s) A=some (x,j)->∃I,su.run P w=.ok () I/\x=.v undef/\Evo h φ st.T w h φ j I/\Inv h φ I j),rL P o a w next:=by intro su q r u;obtain⟨x,j,e,F⟩:=GZ r Z;obtain⟨I,U,rfl,h2,h3⟩:=u x j e;unfold rL;rw[q];simp only[Sem.run_bind,U,Result.andThen_ok,Sem.run_pure];exact hn undef I ⟨_,j,h,φ,F,h2,h3,x_⟩
 obtain⟨ah,op,ty,ae,ad,ac⟩:=o;unfold L0 at b;simp only at b;split at b;rename_i t af O;split at b;rename_i e L;split at b;rename_i i Q;split at b;rename_i H;obtain⟨rfl,hp⟩:=H;have:O=#[]:=QA hp;subst this;cases b;exact g (sv:=Instr.buildSlice t 0 #[]) (by simp[execOp]) k_ λy j q=>WB L Q hI q;simp at b;simp at b;simp at b;rename_i t x y;split at b;rename_i e L;split at b;rename_i i Q;split at b;rename_i z Y;split at b;rename_i H;cases b;exact g (sv:=Instr.makeSlice t (a.eval x) (a.eval y)) rfl k_ λy j q=>Z5 L Q Y H.1 H.2.1 H.2.2 N hI M q;simp at b;simp at b;simp at b;simp at b;rename_i J d x;split at b;rename_i e S W;split at b;rename_i E;cases b;exact g (sv:=convert J d (a.eval x)) rfl k_ λy j q=>Z7 S W E N hI M q;simp at b;rename_i e S W;split at b;rename_i E;cases b;exact D (sv:=convert J d (a.eval x)) rfl k_ λy j q=>Z9 S W E N hI M q;simp at b;rename_i e _ S W;split at b;rename_i ab;subst ab;split at b;rename_i E;cases b;exact g (sv:=convert J J (a.eval x)) rfl k_ λy j q=>Z8 S E N hI M q;simp at b;simp at b;simp at b;rename_i t x lo Q mx;split at b;rename_i e L;split at b;rename_i k F;cases b;exact g (sv:=Instr.sliceAt t (a.eval x) (lo.map a.eval) (some (a.eval Q)) (some (a.eval mx))) rfl k_ λy j q=>aU3 L F N hI M q;simp at b;simp at b;rename_i t m k;split at b;rename_i kt et L;split at b;rename_i ag ls i F Q;split at b;rename_i z Y;cases b;exact g (sv:=Instr.mapEntry t (a.eval m) (a.eval k)) rfl k_ λy j q=>aU4 L F Q Y N hI M q;simp at b;simp at b;simp at b;rename_i t m k x;cases b;exact C (su:=Instr.entryStore t (a.eval m) (a.eval k) (a.eval x)) rfl k_ λy j q=>o5 N hI M q;rename_i c;obtain⟨X,V,B⟩:=c;simp only at b;split at b;rename_i m k t R aa;have ha:V=#[m,k]:=EY.1 (by rw[R]);subst ha;split at b;rename_i kt et L;split at b;rename_i ag ls F;cases b;exact g (sv:=Builtin.delete_ B ty #[a.eval m,a.eval k]) y_ k_ λy j q=>o6 L F aa N hI M q;simp at b;simp at b;simp at b;simp at b
def aA5 {o:Oper} {C:HOp} (b:L3 P o=some C) (I:yF P G st C K) (L:tU G h) (hI:Inv h φ w st.T) (J:uN h φ st.T.length st.s a)
 (U:∀v H,CS h φ st.T w K v H->next (a.put o.dst v) H):rL P o a w next:=by
 have g:∀{sv:Sem Value}(_:execOp a.eval o=(do pure (.value (<-sv))))(_:(∀f l,C≠.call f l)/\(∀p,C≠.nxt p)/\∀n k x,C≠.nilS n k x)(_:∀x u,cE st.T (dW G st.s) C=some (x,u)->u=st.T/\∃v,sv.run P w=.ok v w/\Rp h φ st.T.length x v),rL P o a w next:=by intro sv A q B;obtain⟨x,u,e,V⟩:=GZ q I;obtain⟨rfl,v,D,h2⟩:=B x u e;exact uT A D (U v w (tE hI h2 V))
 have j:∀{sv:Sem Value}(_:execOp a.eval o=(do pure (.value (<-sv))))(_:(∀f l,C≠.call f l)/\(∀p,C≠.nxt p)/\∀n k x,C≠.nilS n k x)(_:∀x u,cE st.T (dW G st.s) C=some (x,u)->jD h φ st.T w (sv.run P w) x u),rL P o a w next:=by intro sv A q B;obtain⟨x,u,e,V⟩:=GZ q I;obtain⟨v,H,D,h2⟩:=Cb (B x u e) V;exact uT A D (U v H h2)
 obtain⟨aa,op,O,Y,X,W⟩:=o;unfold L3 at b;simp only at b;split at b;rename_i f first d
 cases b;refine g (sv:=pure (.func (.func f) (first.map a.eval) (d.map a.eval))) (by simp[execOp,Instr.makeFunc]) k_ λy u A=>?_;simp only[cE,O7,Prod.mk.injEq]at A;obtain⟨rfl,rfl⟩:=A;refine⟨rfl,_,rfl,?_⟩;simp only[Rp];refine⟨(first++d).map a.eval,?_,?_⟩;have D:(first++d).map a.eval=(first.map a.eval)++(d.map a.eval):=k_;have h2:(((first++d).map a.eval).toList.take first.size).toArray=first.map a.eval:=by apply EY.1;rw[D];simp only[TV];rw[TY k_]
 have h3:(((first++d).map a.eval).toList.drop first.size).toArray=d.map a.eval:=by apply EY.1;rw[D];simp only[TV];rw[List.drop_left' k_]
 rw[h2,h3];simpa using Mq L J (first.toList++d.toList);rename_i t m;split at b;rename_i kt et S;cases b;exact j (sv:=Instr.range t (a.eval m)) rfl k_ λy u A=>o7 S L hI J A;simp at b;rename_i Q;cases b;obtain⟨v,H,D,h2⟩:=aHn L hI J I O;exact uT (sv:=Instr.next (a.eval Q) false O) rfl D (U v H h2);rename_i Q;cases b;exact g (sv:=Instr.entry (a.eval Q)) rfl k_ λy u A=>o8 L hI J A;cases b;exact I.elim;cases b;exact I.elim;rename_i c;obtain⟨N,M,r⟩:=c;simp only at b;split at b;rename_i x t F R;have ha:M=#[x]:=EY.1 (by rw[F]);have hb:r=#[t]:=EY.1 (by rw[R]);subst ha;subst hb;split at b;rename_i e S;split at b;rename_i i hi;split at b;rename_i z Z;split at b;rename_i E;cases b;exact j (sv:=Builtin.clear_ #[t] O #[a.eval x]) y_ k_ λy u A=>aA0 S hi Z E.1 E.2.1 E.2.2 L hI J A;simp at b;simp at b;simp at b;simp at b;simp at b;simp at b
def Tz {e:TypeId} {k:IntKind} (j:P.underlying e=some (.int k)) (i:GY P e=some none) (d:Nat) (xs f:Array Value):∀(m s:Nat)(b:Bool),s+m<=xs.size->s+m<=f.size->rJ (List.replicate m (.int k)) ((xs.toList.drop s).take m) ((f.toList.drop s).take m)=some b ->
 (Op.eqItems (d+1) e 1 xs f (List.range' s m)).run P w=.ok b w
 |0,s,b,_,_,h=>by
  simp_all[rJ,Op.eqItems]
 | m+1,s,b,B,h2,h=>by
  have q:(xs.toList.drop s).take (m+1)=xs[s]::(xs.toList.drop (s+1)).take m:=by rw[Kc f_,QI];simp
  have p:(f.toList.drop s).take (m+1)=f[s]::(f.toList.drop (s+1)).take m:=by rw[Kc f_,QI];simp
  rw[q,p,TW]at h;have o:(part e xs (s*1)).run P w=.ok xs[s] w:=by have:=Eg (P:=P) (w:=w) (t:=e) (X:=xs) (off:=s) (ag:=false) (n:=1) i (λ_=>rfl) o_;rw[Bb,this];grind[iY]
  have l:(part e f (s*1)).run P w=.ok f[s] w:=by have:=Eg (P:=P) (w:=w) (t:=e) (X:=f) (off:=s) (ag:=false) (n:=1) i (λ_=>rfl) o_;rw[Bb,this];grind[iY]
  have ih:=Tz j i d xs f m (s+1);simp only[List.range'_succ,Op.eqItems,Sem.run_bind,o,l,Result.andThen_ok];generalize xs[s]=x at h;generalize f[s]=y at h;cases x<;>cases y<;>simp only[rJ]at h<;>(try (simp at h;done))
  rename_i A a z c;split at h;rename_i g;obtain⟨rfl,rfl⟩:=g;split at h;rename_i r u;cases h;rw[run_equalIn_int w d e _ _ _ _ j];simp only[Result.andThen_ok];have:=ih r o_ o_ u;cases v:(a==c);simp;simpa using this;simp at h;simp at h
def aA6 {o:Oper} {J:HOp} (d:L4 P o=some J) (hw:yF P G st J K) (hG:tU G h) (hI:Inv h φ w st.T) (hS:uN h φ st.T.length st.s a)
 (hn:∀v Y,CS h φ st.T w K v Y->next (a.put o.dst v) Y):rL P o a w next:=by
 have g:∀{sv:Sem Value}(_:execOp a.eval o=(do pure (.value (<-sv))))(_:(∀f l,J≠.call f l)/\(∀p,J≠.nxt p)/\∀n k x,J≠.nilS n k x)(_:∀x E,cE st.T (dW G st.s) J=some (x,E)->E=st.T/\∃v,sv.run P w=.ok v w/\Rp h φ st.T.length x v),rL P o a w next:=by intro sv D B I;obtain⟨x,E,e,V⟩:=GZ B hw;obtain⟨rfl,v,Q,h2⟩:=I x E e;exact uT D Q (hn v w (tE hI h2 V))
 have H:∀{sv:Sem Value}(_:execOp a.eval o=(do pure (.value (<-sv))))(_:(∀f l,J≠.call f l)/\(∀p,J≠.nxt p)/\∀n k x,J≠.nilS n k x)(_:∀x E,cE st.T (dW G st.s) J=some (x,E)->jD h φ st.T w (sv.run P w) x E),rL P o a w next:=by intro sv D B I;obtain⟨x,E,e,V⟩:=GZ B hw;obtain⟨v,Y,Q,h2⟩:=Cb (I x E e) V;exact uT D Q (hn v Y h2)
 obtain⟨am,Z,ty,ak,aj,ai⟩:=o;unfold L4 at d;split at d;rename_i Z t x y u m;simp only at m;subst m;split at d;rename_i U;split at d;rename_i n e R;split at d;rename_i k V;split at d;rename_i A;obtain⟨ah,af,ae,M⟩:=A;rw[aSJ]at M;cases d;obtain⟨i,W⟩:=aBI.1 af;refine g (sv:=do eqGuard Z t x y (a.eval x) (a.eval y);binOp Z t (a.eval x) (a.eval y)) rfl k_ λz E e=>?_;simp only[cE]at e;split at e;rename_i cs ds Q h2;split at e;rename_i b hb;simp only[O7,Prod.mk.injEq]at e;obtain⟨rfl,rfl⟩:=e;obtain⟨L,e1,r1⟩:=Lw (dN hG hS x) Q;obtain⟨F,e2,r2⟩:=Lw (dN hG hS y) h2;have S:=M4 hb r1 r2;have hl:=Bf S;have al:L.size=n/\F.size=n:=by simpa using hl
 have hq:(Op.equalIn 10000 t (.agg L) (.agg F)).run P w=.ok b w:=by rw[run_equalIn_array w 9999 L F R W,ah,List.range_eq_range'];apply Tz V ae 9998 L F n 0 b o_ o_;rw[TZ,TZ,sG f_,sG f_];exact S
 rw[e1,e2];refine⟨rfl,.bool (if Z==.neq then !b else b),?_,x_⟩;rcases U with rfl|rfl;simp only[Sem.run_bind,run_eqGuard_agg w .eql t x y L F M,Result.andThen_ok,run_eql_struct w t L F,hq];rfl;simp only[Sem.run_bind,run_eqGuard_agg w .neq t x y L F M,Result.andThen_ok,run_neq_struct w t L F,hq];rfl;simp at e;simp at e;simp at d;simp at d;simp at d;simp at d;rename_i t q m;simp only at m;subst m;split at d;rename_i n e i R W;split at d;rename_i z hz;split at d;rename_i j hj;cases d;refine g (sv:=Instr.build t (q.map λ(i,x)=>(i,a.eval x))) rfl k_ λy E D=>?_;simp only[cE]at D;split at D;rename_i cs A;cases D;obtain⟨F,Q,h2⟩:=V0 hG hS (Jb (P.cellsOf e) q.toList) (Mw h φ st.T.length z.cells.toList) A;have N:=Ro (place:=λi=>some (i*P.cellsOf e,P.cellsOf e)) (λi=>(i*P.cellsOf e,P.cellsOf e)) (q.toList.map λp=>(p.1,a.eval p.2)) z.cells F (λp _=>rfl)
  (by rw[<-Q,QX];simp[Rn,rI,Function.comp_def])
 refine⟨rfl,.agg F.toArray,?_,by simp only[Rp];exact⟨_,rfl,dx⟩⟩;simp only[Instr.build,Sem.run_bind,zeroValue,typeInfo,run_program,Result.andThen_ok,W,Sem.run_pure,hz,run_underlying R,run_sizeOf w hj];simp only[Array.toList_map];rw[N];rfl;simp at D;simp at d;simp at d;simp at d;rename_i c m;simp only at m;subst m;obtain⟨aa,X,C⟩:=c;simp only at d;split at d;rename_i x y t u O ac;have ha:X=#[x,y]:=EY.1 (by rw[O]);have ad:C=#[t,u]:=EY.1 (by rw[ac]);subst ha;subst ad;split at d;rename_i e R ab;split at d;rename_i i W;split at d;rename_i z hz;split at d;rename_i A;cases d;exact H (sv:=Builtin.append_ #[t,u] ty #[a.eval x,a.eval y]) y_ k_ λr E D=>aA2 R ab W hz A.1 A.2.1 A.2.2 hG hI hS D;simp at d;simp at d;simp at d;simp at d;simp at d;simp at d
def NC {o:Oper} {k:HOp} (b:HB P o=some k) (c:yF P G st k K) (g:tU G h) (hI:Inv h φ w st.T) (f:uN h φ st.T.length st.s a)
 (d:∀v j,CS h φ st.T w K v j->next (a.put o.dst v) j):rL P o a w next:=by
 unfold HB at b;split at b;rename_i i e;cases b;exact Zx e c g hI f d;split at b;rename_i i e;cases b;exact Zz e c g hI f d;split at b;rename_i i e;cases b;exact aA3 e c g hI f d;split at b;rename_i i e;cases b;exact aA4 e c g hI f d;split at b;rename_i i e;cases b;exact aA5 e c g hI f d;exact aA6 b c g hI f d
end
def qP(P:Program)(N:Nat)(a:Array Oper)(o:Oper):Option HOper :=
 if o.dst.all (· < N)=false then none else
 match HB P o with
 |none=>none| some h=>match o.guard with|none=>some ⟨o.dst,h,none⟩|some (j,b)=>match(a[j]?).bind (·.dst) with|some d=>some ⟨o.dst,h,some (d,b)⟩|none=>none
def aBB(P:Program)(N:Nat)(a:Array Oper):List Oper->Option (List HOper)|[]=>some []|o::b=>match qP P N a o,aBB P N a b with|some h,some c=>some (h::c)|_,_=>none
def aCl(l:List (Nat×AV))(j i:Nat)(h:i≠j):bA (LE l j) i=bA l i:=by
 induction l with
 |nil=>rfl|cons p l ih=>
  grind[LE,bA]
def IP(l:List (Nat×AV))(j i:Nat)(x:AV):bA (GW l j x) i=if j=i then x else bA l i:=by unfold GW;simp only[bA];split;rfl;rename_i h;exact aCl l j i (λe=>h e.symm)
def aF3{p q:Nat×AV}{l:List (Nat×AV)}(h:q∈LG p l):q=p\/q∈l:=by
 induction l with
 |nil=>simp only[LG,aE5]at h;exact .inl h|cons r l ih=>
  grind[LG]
def aCm{q:Nat×AV}{l:List (Nat×AV)}(h:q∈gP l):q∈l:=by
 induction l with
 |nil=>simp[gP]at h|cons p l ih=>
  rcases aF3 h with h|h;simp[h];simp[ih h]
def IQ{d:O3}{q:Nat×AV}{l:List (Nat×AV)}(h:q∈aH8 d l):q∈l:=by
 induction l with
 |nil=>simp[aH8]at h|cons p l ih=>
  grind[aH8]
def Jc(l:List (Nat×AV)):Prop:=∀i x y,(i,x)∈l->(i,y)∈l->x=y
def NE{l:List (Nat×AV)}(h:Jc l){i:Nat}{x:AV}(c:(i,x)∈l):bA l i=x:=by
 induction l with
 |nil=>simp at c| cons p l ih=>
  obtain⟨k,y⟩:=p;simp only[bA];split;rename_i d;subst d;exact h k y x k_ c;rename_i d;rcases cS.1 c with c|c;simp_all;exact ih (λi a b f e=>h i a b (by simp[f]) (by simp[e])) c
def Rw{l:List (Nat×AV)}{i:Nat}:bA l i=.any\/(i,bA l i)∈l:=by
 induction l with
 |nil=>exact .inl rfl|cons p l ih=>
  grind[bA]
def IR{l:List (Nat×AV)}(h:Jc l)(j:Nat):(∀q∈LE l j,q∈l/\q.1≠j):=by
 intro q c
 induction l with
 |nil=>simp[LE]at c|cons p l ih=>
  obtain⟨k,y⟩:=p;have f:Jc l:=λi a b e d=>h i a b (by simp[e]) (by simp[d]);grind[LE]
def NF{l:List (Nat×AV)}(h:Jc l)(j:Nat)(x:AV):Jc (GW l j x):=by intro i a b d c;unfold GW at d c;rcases cS.1 d with d|d<;>rcases cS.1 c with c|c;simp_all;injection d with e _;exact absurd e (IR h j _ c).2;injection c with e _;exact absurd e (IR h j _ d).2;exact h i a b (IR h j _ d).1 (IR h j _ c).1
def WE{L:O3}{q:Nat×AV}{l:List (Nat×AV)}(h:q∈Td L l):∃x,(q.1,x)∈l/\q.2=Bd L x:=by
 induction l with
 |nil=>simp[Td]at h|cons p l ih=>
  grind[Td]
def fe:Option Nat->Fence|none=>Fence.wide|some l=>Fence.wide.inRound l
def Ye(ro:Option Nat)(f:FuncId):(fe ro).fn f:=by cases ro<;>trivial
def T4(ro:Option Nat):(fe ro).round=ro:=by cases ro<;>rfl
def T5(ro:Option Nat):(fe ro).depth=none:=by cases ro<;>rfl
def NG{P:Program}{ro:Option Nat}{f:FuncId}{args:Array Value}{w:World}{R:Ending->World->Prop}(h:Calls P f args w R):CallsIn (fe ro) 0 P f args w R:=by have:=(callsIn_wide (n:=0)).2 h;cases ro<;>exact this
def WF{P:Program}{ro:Option Nat}{l:Nat}{f:FuncId}{tmps:Array Value}{a body:Code}{w:World}{R:Ending->World->Prop}(h:RoundIn Fence.wide 0 P l f tmps a body w R):RoundIn (fe ro) 0 P l f tmps a body w R:=by cases ro<;>exact h
def aGS{P:Program}{ro:Option Nat}{o:Oper}{a:Act}{w:World}{next:Act->World->Prop}{Q:Exit->Act->World->Prop}(p:∀c,o.op≠.defer c)(h:rL P o a w next):o.wpIn (fe ro) 0 P a w next Q:=by
 refine⟨λf _=>Ye ro f,?_⟩;have m:o.semAt (fe ro).round a.eval=execOp a.eval o:=by simp_all[T4,Oper.semAt]
 rw[m];unfold rL at h;have b:(fe ro).depth.isSome=true->1<=0:=λi=>by rw[T5]at i;simp at i
 split at h;rename_i v d e;rw[e];exact h;rename_i d e;rw[e];exact h;rename_i f k d e;rw[e];refine⟨b,(NG h).mono ?_⟩;simp_all;rename_i l f g n j d e;rw[e];refine⟨b,(WF h).mono ?_⟩;simp_all;exact h.elim
def IS{P:Program}{o:Oper}{h:HOp}(a:HB P o=some h):∀c,o.op≠.defer c:=by grind[HB,aBA,Lx,Lz,L0,L3,L4]
def Eo(w0:World)(a:Act)(w:World):Prop :=
 (a.defers.Pairwise λx y=>x.target≠y.target)/\∀d∈a.defers,∃D,d.target=.collected D/\w0.heap.size<=D/\w.heap[D]?=some (.deferred (some []))
def NH{h:GH}{φ:Nat->Value}{n:Nat}{w:World}{i:Nat}{o:AObj}(e:uF h φ n w i o){g:Nat}(z:kI (φ i)=some g)(ds:Option (List Deferred)):w.heap[g]?≠some (.deferred ds):=by
 cases o with
 |box B=>
  obtain⟨d,u,E,a,h2,b,_⟩:=e;grind[kI,Option.some.injEq]
 |arr k p=>
  obtain⟨_,⟨A,a⟩|⟨d,c,j,E,a,h2,_,_,_,b,_⟩⟩:=e;simp_all[kI];grind[kI,Option.some.injEq]
 |arf k p=>
  obtain⟨_,⟨A,a⟩|⟨d,c,j,E,a,h2,_,_,_,b,_⟩⟩:=e;simp_all[kI];grind[kI,Option.some.injEq]
 |lp r s=>
  obtain⟨d,a,h2,b,_⟩:=e;grind[kI,Option.some.injEq]
 |mit m f l v=>
  obtain⟨d,x,a,h2,b,_⟩:=e;grind[kI,Option.some.injEq]
 |map D y t bs C=>
  obtain⟨d,q,a,h2,b,_⟩:=e;grind[kI,Option.some.injEq]
def Eo.keep{w0 w w':World}{a:Act}{h h':GH}{φ b:Nat->Value}{T n:aK}(e:Eo w0 a w)(hI:Inv h φ w T)(l:Evo h φ T w h' b n w'):Eo w0 a w':=by
 refine⟨e.1,λd j=>?_⟩;obtain⟨D,m,h2,f⟩:=e.2 d j;refine⟨D,m,h2,?_⟩;have c:D<w.heap.size:=m_;rw[l.frame D c λi o g k=>NH (hI.obj i o g) k _ f];exact f
def Eo.put{w0 w:World}{a:Act}(b:Eo w0 a w)(o:Option Nat)(v:Value):Eo w0 (a.put o v) w:=by
 cases o with
 |none=>exact b|some j=>exact b
structure SInv(P:Program)(G:Nat->Option (List AV))(N:Nat)(h0:GH)(φ0:Nat->Value)(T0:aK)(w0:World)(st:St)(a:Act)(w:World):Prop where
 r:st.r=T0.length
 once:Jc st.s
 ex:∃h φ,tU G h/\Evo h0 φ0 T0 w0 h φ st.T w/\Inv h φ w st.T/\uN h φ st.T.length st.s a
 sz:N<=a.tmps.size
 df:Eo w0 a w
section
variable{P:Program}{G:L_}{N:Nat}{h0:GH}{φ0:Nat->Value}{T0:aK}{w0:World}{a:Act}{w:World}
def Ep{st:St}(d:O3)(S:SInv P G N h0 φ0 T0 w0 st a w):SInv P G N h0 φ0 T0 w0 (DB d st) a w:=by
 obtain⟨z,c,⟨h,u,U,g,hI,C⟩,v,B⟩:=S;have n:(Bc st.T (List.range st.r++PS (gP (aH8 d st.s)))).Nodup:=Tj _ _;obtain⟨l,E⟩:∃l,Bc st.T (List.range st.r++PS (gP (aH8 d st.s)))=List.range st.r++l:=by exact Tk st.T st.r _
 have A:DB d st=⟨st.r,Td (Bc st.T (List.range st.r++PS (gP (aH8 d st.s)))) (gP (aH8 d st.s)),GX (Bc st.T (List.range st.r++PS (gP (aH8 d st.s)))) st.T⟩:=rfl;rw[A];revert n E;generalize Bc st.T (List.range st.r++PS (gP (aH8 d st.s)))=L;intro n E;have m:Kr L u (λj=>u (L.getD j 0)):=by intro j i e;simp_all
 have q:(GX L st.T).length=L.length:=by simp[GX]
 have p:∀i,i<st.r->L[i]?=some i:=m_;have f:∀i x,(i,x)∈gP (aH8 d st.s)->(i,x)∈st.s:=λi x Q=>IQ (aCm Q);refine⟨z,?_,⟨h,_,U,?_,aCb n hI m,?_⟩,v,B⟩;intro i x y O M;obtain⟨J,k,h2⟩:=WE O;obtain⟨I,V,H⟩:=WE M;simp only at h2 H;rw[h2,H,c i J I (f _ _ k) (f _ _ V)];refine⟨g.os,g.tape,g.output,g.size,g.frame,g.le,g.gfr,λi R=>?_,λi o b e F=>?_,?_,g.drawn⟩;have k:=p i o_;show u (L.getD i 0)=_;rw[rH,k];exact g.phi i R;obtain⟨D,K,k,h2,_⟩:=IM e;have t:=m i D k;simp only at t;simp only[t]at F;exact g.org D K b h2 F;simp_all;intro i;show Rp h _ (GX L st.T).length (bA (Td L (gP (aH8 d st.s))) i) _;rcases Rw (l:=Td L (gP (aH8 d st.s))) (i:=i) with e|e;rw[e];simp[Rp];obtain⟨x,k,h2⟩:=WE e;simp only at k h2;rw[h2,q];have:=C i;rw[NE c (f _ _ k)]at this;exact V3 m this
def IT{h:GH}{φ:Nat->Value}{n:Nat}{s:List (Nat×AV)}{o:Option Nat}{x:AV}{v:Value}(c:uN h φ n s a)(e:Rp h φ n x v)(d:∀j,o=some j->j<a.tmps.size):uN h φ n (fV s o x) (a.put o v):=by
 intro i
 cases o with
 |none=>exact c i|some j=>
  have f:=d j rfl;simp only[fV,IP,Act.put];split;simp_all;rename_i b;rw[show(a.tmps.setIfInBounds j v).getD i undef=a.tmps.getD i undef from by simp[TR,b]];exact c i
def IU {h:GH} {φ:Nat->Value} {n:Nat} {s:List (Nat×AV)} {c:Array Oper} {o:Oper} {g:Option (Nat×Bool)} {b:Bool} (u:uN h φ n s a)
 (q:match o.guard with|none=>g=none|some (j,t)=>∃d,(c[j]?).bind (·.dst)=some d/\g=some (d,t)) (f:fY s g=some b):Region.wanted o (yielded c a.tmps)=b:=by
 cases p:o.guard with
 |none=>
  grind[fY,Option.some.injEq,Region.wanted]
 | some r=>
  obtain⟨j,t⟩:=r;rw[p]at q;obtain⟨d,w,rfl⟩:=q;have i:=u d;simp only[fY]at f;have e:yielded c a.tmps j=(match a.tmps[d]? with|some (.bool x)=>some x|_=>none):=by unfold yielded;grind
  split at f;rename_i x l;rw[l]at i;simp only[Rp]at i;injection f with f;have:a.tmps[d]?=some (.bool x):=by rcases eD d a.tmps.size with m|k;simp_all;rw[TR,Hz k]at i;simp[undef]at i
  grind[Region.wanted];rename_i v l;rw[l]at i;simp only[Rp]at i;cases f;have:yielded c a.tmps j=none:=by rw[e];rcases eD d a.tmps.size with m|k;simp_all;simp_all
  grind[Region.wanted];simp at f
def Gt{a:Array Oper}{o:Oper}{b:HOper}(c:qP P N a o=some b):
 (∀j,o.dst=some j->j<N)/\b.dst=o.dst/\HB P o=some b.op/\(match o.guard with|none=>b.guard=none|some (j,t)=>∃d,(a[j]?).bind (·.dst)=some d/\b.guard=some (d,t)):=by
 grind[qP]
def AT{l:List (Nat×AV)}(h:Jc l)(o:Option Nat)(x:AV):Jc (fV l o x):=by
 cases o with
 |none=>exact h|some j=>exact NF h j x
def DJ {ro:Option Nat} {p:Array Oper} {Q:Exit->Act->World->Prop} {l2:List Oper}:∀{l:List Oper}{C:List HOper}{st:St}{a:Act}{w:World}{K:St->Prop},aBB P N p l=some C->Mp P G C st K->SInv P G N h0 φ0 T0 w0 st a w ->
 (∀u R D,K u->SInv P G N h0 φ0 T0 w0 u R D->wpListIn (fe ro) 0 P p Q l2 R D)->wpListIn (fe ro) 0 P p Q (l++l2) a w
 |[],C,st,a,w,K,g,k,E,B=>by
  simp only[aBB,O7]at g;subst g;exact B st a w k E
 | o::l,C,st,a,w,K,g,k,E,B=>by
  simp only[aBB]at g;split at g;rename_i ho U X h2;cases g;obtain⟨I,d,⟨h,S,H,J,hI,e⟩,r,z⟩:=E;obtain⟨Z,Y,O,M⟩:=Gt X;have n:∀j,o.dst=some j->j<a.tmps.size:=λj W=>CV (Z j W) r;have m:∀v,N<=(a.put o.dst v).tmps.size:=by
   intro v
   cases o.dst with
   |none=>exact r|some j=>simpa[Act.put]using r
  simp only[Mp]at k;rw[Y]at k;split at k;rename_i q;have b:=IU e M q;rw[jC];unfold wpListIn;rw[if_pos b];refine aGS (IS O) (NC O k H hI e λv D y=>?_);obtain⟨x,T',L,t,V,c,F,T⟩:=y;have A:uN L t T'.length st.s a:=λi=>(e i).mono c.le c.len c.phi;exact DJ h2 V ⟨I,AT d _ _,⟨L,t,H.mono c.le,J.trans c,F,IT A T n⟩,m v,(z.keep hI c).put _ _⟩ B;rename_i q;have b:=IU e M q;rw[jC];unfold wpListIn;rw[if_neg dS];exact⟨λf _=>Ye ro f,DJ h2 k ⟨I,AT d _ _,⟨h,S,H,J,hI,IT e x_ n⟩,m _,z.put _ _⟩ B⟩;exact k.elim;simp at g
def aA7{ro:Option Nat}{c:Array Oper}{Q:Exit->Act->World->Prop}{l:List Oper}{e:List HOper}{st:St}{a:Act}{w:World}{K:St->Prop}(i:aBB P N c l=some e)(g:Mp P G e st K)(j:SInv P G N h0 φ0 T0 w0 st a w)
 (h:∀b f d,K b->SInv P G N h0 φ0 T0 w0 b f d->Q .normal f d):wpListIn (fe ro) 0 P c Q l a w:=by
 have:=DJ (ro:=ro) (Q:=Q) (l2:=[]) i g j h;simp_all
def Ks{d:Array Oper}:∀{l l2:List Oper}{e c:List HOper},aBB P N d l=some e->aBB P N d l2=some c->aBB P N d (l++l2)=some (e++c)|[],l2,e,c,h,h2=>by simp only[aBB,O7]at h;subst h;exact h2|o::l,l2,e,c,h,h2=>by simp only[aBB]at h;split at h;rename_i a b g f;cases h;simp only[jC,aBB,g,Ks f h2];simp at h
def IV{c:Array Oper}{o:Oper}{l:List Oper}{d:List HOper}(h:aBB P N c (o::l)=some d):∃a b,qP P N c o=some a/\aBB P N c l=some b/\d=a::b:=by grind[aBB]
end
section
open Classical in
noncomputable def shutG(h:GH)(φ:Nat->Value)(i:Nat)(w:World):GH:=λb=>
 if kI (φ i)=some b then(match w.heap[b]? with|some (.cells a _ _)=>some a|_=>none) else h b
section
variable{h:GH}{φ:Nat->Value}{T:aK}{w:World}{i k:Nat}{es:N_}
def Qf(hI:Inv h φ w T)(d:T[i]?=some (some (.arr k es))){b:Nat}(j:kI (φ i)=some b):∃a E,w.heap[b]?=some (.cells a E (0,0))/\shutG h φ i w b=some a:=by
 have:∃a E,w.heap[b]?=some (.cells a E (0,0)):=by obtain⟨_,⟨A,e⟩|⟨g,c,f,E,e,h2,_⟩⟩:=hI.obj i _ d;simp_all[kI];grind[kI,Option.some.injEq]
 grind[shutG]
def F0{b:Nat}(a:kI (φ i)≠some b):shutG h φ i w b=h b:=by grind[shutG]
def Cf(hI:Inv h φ w T)(a:T[i]?=some (some (.arr k es))):CA h (shutG h φ i w):=by intro b d e;rw[F0];exact e;intro c;have:=(iT (hI.obj i _ a) c).2;simp_all
def Jd(hI:Inv h φ w T)(f:T[i]?=some (some (.arr k es))):(∃A,φ i=.slice A 0 0/\es=[])\/∃g c,φ i=.slice (some ⟨g,0,none⟩) es.length c/\es.length<=c/\c<=maxLen/\kF (shutG h φ i w) g k es 0:=by obtain⟨m,p|⟨g,c,q,E,d,l,h2,o,u,t,n⟩⟩:=hI.obj i _ f;exact .inl p;refine .inr ⟨g,c+1,d,h2,o,?_⟩;obtain⟨r,x,a,e⟩:=Qf hI f (b:=g) i_;rw[l]at a;cases a;refine kF.of_list (n.mono (Cf hI f)) m λj v s=>?_;grind[oY]
mutual
def Rx (hI:Inv h φ w T) (q:T[i]?=some (some (.arr k es))) {n:Nat}:∀{x:AV}{u:Value},Rp h φ n x u->Rp (shutG h φ i w) φ n (CB i k es x) u
 |.v _,_,e=>by simpa[Rp,CB]using e|.ls _ _,_,e=>by simp only[Rp,CB]at *;exact e.mono (Cf hI q)|.ag C,_,e=>by simp only[Rp,CB]at *;obtain⟨r,a,h2⟩:=e;exact⟨r,a,Er hI q h2⟩
 | .own j,u,e=>by
  simp only[CB];split;rename_i z;subst z;simp only[Rp]at e;simp only[Rp,oB];rcases Jd hI q with⟨A,a,h2⟩|⟨g,c,a,h2,K,B⟩
  grind;grind;grind[Rp]
 |.ptr j o,u,e=>by simpa only[Rp,CB]using e|.mp j,u,e=>by simpa only[Rp,CB]using e|.yl j,u,e=>by simpa only[Rp,CB]using e| .elt j E m t,u,e=>by
  simp only[CB];split;rename_i z;subst z;split;rename_i H;subst H;split;rename_i d N;simp only[Rp]at e⊢;obtain⟨_,g,l,c,s,F⟩:=e;rcases Jd hI q with⟨A,a,h2⟩|⟨Q,L,a,h2,K,B⟩
  simp_all;rw[s]at a;injection a with p S R;cases p;obtain⟨_,O⟩:=B.get N;exact⟨g,m*E+t,F,by simpa using O.drop t⟩;simp[Rp];simp[Rp];grind[Rp]
 | .vw j E D m,u,e=>by
  simp only[CB];split;rename_i z;subst z;split;rename_i H;obtain⟨rfl,J⟩:=H;simp only[Rp]at e;obtain⟨_,A,c,F,G,I,P⟩:=e;have y:((es.drop D).take m).length=m:=c_;simp only[Rp,oB];refine⟨A,c,by rw[y];exact F,by rw[y];exact G,I,?_⟩;rcases P with rfl|⟨g,l,L,s,rfl,M⟩
  simp;rcases Jd hI q with⟨A,a,h2⟩|⟨Q,L,a,h2,K,B⟩
  simp_all;rw[s]at a;injection a with p S R;cases p;exact .inr ⟨g,D*E,rfl,by simpa using(B.drop D).take m⟩;simp[Rp];grind[Rp]
 |.rp C,u,e=>by
  simp only[Rp,CB]at *
  obtain⟨b,o,a,h2⟩:=e;exact⟨b,o,a,h2.mono (Cf hI q)⟩
 |.cl f C,_,e=>by simp only[Rp,CB]at *;obtain⟨r,a,h2⟩:=e;exact⟨r,a,Er hI q h2⟩
 |.bm f U C,_,e=>by simp only[Rp,CB]at *;obtain⟨r,a,h2⟩:=e;exact⟨r,a,Er hI q h2⟩
 |.tup C,_,e=>by simp only[Rp,CB]at *;obtain⟨r,a,h2⟩:=e;exact⟨r,a,Er hI q h2⟩
 |.any,_,_=>by simp[Rp,CB]
def Er(hI:Inv h φ w T)(b:T[i]?=some (some (.arr k es))){n:Nat}:∀{cs:O0}{us:O5},kR h φ n cs us->kR (shutG h φ i w) φ n (IB i k es cs) us
 |[],_,e=>by simpa[kR,IB]using e
 |c::cs,us,e=>by
  simp only[kR,IB]at *
  obtain⟨u,a,f,h2,d⟩:=e;exact⟨u,a,f,Rx hI b h2,Er hI b d⟩
end
def L5:∀T:aK,(QS i k es T).length=T.length
 |[]=>rfl
 |_::r=>by simp[QS,L5 r]
def Ry:∀{T:aK}{j:Nat},(QS i k es T)[j]?=(T[j]?).map (λo=>Option.bind o (Vq i k es))
 |[],j=>by simp[QS]
 |o::r,0=>by simp[QS]
 |o::r,j+1=>by simp only[QS,oX];exact Ry
def T6 (hI:Inv h φ w T) (K:T[i]?=some (some (.arr k es))):Inv (shutG h φ i w) φ w ((QS i k es T).set i none)/\Evo h φ T w (shutG h φ i w) φ ((QS i k es T).set i none) w:=by
 have G:∀{j:Nat}{x:AObj},((QS i k es T).set i none)[j]?=some (some x)->j≠i/\∃y,T[j]?=some (some y)/\Vq i k es y=some x:=by
  intro j x e;rw[Hx]at e;split at e;simp_all;rename_i hh;refine⟨λh=>hh h.symm,?_⟩;rw[Ry]at e
  cases hT:T[j]? with
  |none=>rw[hT]at e;simp at e
  | some o=>
   rw[hT]at e
   cases o with
   |none=>simp at e
   |some y=>
    simp_all
 have J:((QS i k es T).set i none).length=T.length:=by rw[cL,L5]
 have hg:=Cf hI K;refine⟨⟨?_,?_,?_⟩,⟨rfl,rfl,rfl,cN _,λ_ _ _=>rfl,hg,?_,λ_ _=>rfl,?_,by rw[J];exact cN _,cN _⟩⟩;intro b H e;by_cases F:kI (φ i)=some b;obtain⟨ai,E,hw,hs⟩:=Qf hI K F;simp_all;rw[F0 F]at e;exact hI.gh b H e;intro j x e;obtain⟨X,y,I,n⟩:=G e;rw[J];have Q:=hI.obj j y I;have f:∀g,kI (φ j)=some g->shutG h φ i w g=h g:=λg F=>F0 λad=>X (hI.dis j i y _ g I K F ad)
 cases y with
 |box H=>
  simp only[Vq,O7]at n;subst n;obtain⟨g,us,E,t,C,B,v⟩:=Q;exact⟨g,us,E,t,C,dt,Er hI K v⟩
 | arf k' S=>
  simp only[Vq]at n;split at n;rename_i R;cases n;have aa:∀l:N_,(Zk i k es l).flatten=IB i k es l.flatten:=by
   have af:∀(a b:O0),IB i k es (a++b)=IB i k es a++IB i k es b:=by
    intro a b
    induction a with
    |nil=>rfl
    |cons c a ih=>simp[IB,ih]
   intro l
   induction l with
   |nil=>rfl
   |cons e l ih=>simp only[Zk,zK,ih,af]
  have M:∀l:N_,(Zk i k es l).length=l.length:=by
   intro l
   induction l with
   |nil=>rfl
   |cons e l ih=>simp[Zk,ih]
  have ab:∀(l:N_)(d:O0),d∈Zk i k es l->∃e∈l,d.length=e.length:=by
   have Y:∀H:O0,(IB i k es H).length=H.length:=by
    intro H
    induction H with
    |nil=>rfl
    |cons c H ih=>simp[IB,ih]
   intro l
   induction l with
   |nil=>intro d D;simp[Zk]at D
   |cons e l ih=>
    intro d D;simp only[Zk]at D;rcases cS.1 D with rfl|D;exact⟨e,k_,Y e⟩;obtain⟨e',u,h2⟩:=ih d D;exact⟨e',by simp[u],h2⟩
  obtain⟨V,u⟩:=Q;refine⟨λd D=>?_,?_⟩;obtain⟨e',ac,Z⟩:=ab S d D;exact⟨by rw[Z];exact(V e' ac).1,λc hc=>oD.1 (oD.1 R d D) c hc⟩;rcases u with⟨A,hA,rfl⟩|⟨g,c,O,E,t,C,B,v,N,U,e7⟩
  exact .inl ⟨A,hA,rfl⟩;exact .inr ⟨g,c,O,E,by rw[M];exact t,C,by rw[M];exact B,v,N,by rw[f g (by rw[t];rfl)];exact U,by rw[aa,M];exact Er hI K e7⟩;simp at n
 | lp r s=>
  simp only[Vq,O7]at n;subst n;have L:∀(l:List (Nat×AV))(q:Nat×AV),q∈QR i k es l->∃x,(q.1,x)∈l/\q.2=CB i k es x:=by
   intro l
   induction l with
   |nil=>intro q P;simp[QR]at P
   |cons p l ih=>
    intro q P;obtain⟨m,y⟩:=p;simp only[QR]at P;rcases cS.1 P with rfl|P;exact⟨y,k_,rfl⟩;obtain⟨x,u,h2⟩:=ih q P;exact⟨x,by simp[u],h2⟩
  obtain⟨g,t,C,B,v,N⟩:=Q;refine⟨g,t,C,dt,λm x y n I=>?_,λp hp=>?_⟩;obtain⟨x',u,h2⟩:=L s _ n;obtain⟨y',h3,h4⟩:=L s _ I;simp only at h2 h4;rw[h2,h4,v m x' y' u h3];obtain⟨x',u,h2⟩:=L s _ hp;rw[h2];exact Rx hI K (N _ u)
 |mit m W ah st=>
  simp only[Vq,O7]at n;subst n;obtain⟨g,mo,t,C,B,v⟩:=Q;exact⟨g,mo,t,C,dt,v⟩
 |arr k' S=>
  simp only[Vq,O7]at n;subst n;obtain⟨V,u|⟨g,c,O,E,t,C,B,v,N,U,e7⟩⟩:=Q;exact⟨V,.inl u⟩;exact⟨V,.inr ⟨g,c,O,E,t,C,B,v,N,by rw[f g (by rw[t];rfl)];exact U,e7.mono hg⟩⟩
 |map ag ks vs bs cl=>
  simp only[Vq,O7]at n;subst n;obtain⟨g,ae,t,C,B,v,N,U⟩:=Q;exact⟨g,ae,t,C,dt,v,N,Er hI K U⟩
 intro j m oj om b ej em hj hm;obtain⟨_,y,I,_⟩:=G ej;obtain⟨_,z,hz,_⟩:=G em;exact hI.dis j m y z b I hz hj hm;intro b H e;by_cases F:kI (φ i)=some b;exact .inr (.inr ⟨i,_,K,F⟩);rw[F0 F]at e;exact .inl e;intro j o b e F;obtain⟨_,y,I,_⟩:=G e;exact .inr ⟨j,y,I,F⟩
end
def Yf{i k:Nat}{es:N_}{q:Nat×AV}{l:List (Nat×AV)}(h:q∈QR i k es l):∃x,(q.1,x)∈l/\q.2=CB i k es x:=by
 induction l with
 |nil=>simp[QR]at h|cons p l ih=>
  grind[QR]
def L6{i k:Nat}{es:N_}{j:Nat}:∀l:List (Nat×AV),bA (QR i k es l) j=CB i k es (bA l j)|[]=>by simp[QR,bA,CB]|(m,x)::r=>by simp only[QR,bA];split;rfl;exact L6 r
def SInv.shutI{P:Program}{G:L_}{N:Nat}{h0:GH}{φ0:Nat->Value}{T0:aK}{w0:World}{a:Act}{w:World}{st:St}(hS:SInv P G N h0 φ0 T0 w0 st a w)(i:Nat):SInv P G N h0 φ0 T0 w0 (shutI st i) a w:=by unfold Hud.shutI;split;rename_i k es hg;obtain⟨hr,honce,⟨h,φ,hG,hE,hI,hSl⟩,hsz,hdf⟩:=hS;obtain⟨s1,s2⟩:=T6 hI (bH hg);refine⟨hr,?_,⟨_,φ,hG.mono (Cf hI (bH hg)),hE.trans s2,s1,λj=>?_⟩,hsz,hdf⟩;intro j x y hx hy;obtain⟨x',h1,h2⟩:=Yf hx;obtain⟨y',h3,h4⟩:=Yf hy;simp only at h2 h4;rw[h2,h4,honce j x' y' h1 h3];show Rp _ φ ((QS i k es st.T).set i none).length (bA (QR i k es st.s) j) _;rw[cL,L5,L6];exact Rx hI (bH hg) (hSl j);exact hS
def SInv.shut{P:Program}{G:L_}{N:Nat}{h0:GH}{φ0:Nat->Value}{T0:aK}{w0:World}{a:Act}{w:World}{st:St}(b:SInv P G N h0 φ0 T0 w0 st a w)(j:Nat):SInv P G N h0 φ0 T0 w0 (DB [] (Rk st j)) a w:=by
 have:∀(l:O3)(st:St),SInv P G N h0 φ0 T0 w0 st a w->SInv P G N h0 φ0 T0 w0 (Ef st l) a w:=by
  intro l
  induction l with
  |nil=>intro st h;exact h|cons i r ih=>intro st h;exact ih _ (h.shutI i)
 exact Ep [] (this _ _ b)
end
def Je{T:aK}{ev:Operand->AV}{o:HOp}(b:iE o=true){x:AV}{a:aK}(h:cE T ev o=some (x,a)):a=T:=by
 cases o<;>simp only[iE,jJ]at b<;>simp only[cE]at h<;>(repeat' split at h) <;>
  first
  |(simp only[O7,Prod.mk.injEq]at h;exact h.2.symm)|(simp at h;done)
def NI{G:L_}{s s':List (Nat×AV)}{x:Operand}(h:∀t∈bG x,bA s t=bA s' t):dW G s x=dW G s' x:=by cases x<;>simp only[dW];exact h _ (by simp[bG])
def aP9{T:aK}{ev e:Operand->AV}{o:HOp}(h:∀x,(∀t∈bG x,t∈pS o)->ev x=e x):cE T ev o=cE T e o:=by
 have g:∀(ps:List (Nat×Nat×Operand)),(∀t∈ps.flatMap (λp=>bG p.2.2),t∈pS o)->(ps.map λp=>(p.1,p.2.1,ev p.2.2))=ps.map λp=>(p.1,p.2.1,e p.2.2):=by intro ps q;refine LD λp j=>?_;rw[h p.2.2 λt d=>q t (H7.2 ⟨p,j,d⟩)]
 cases o
 case bld z ps=>simp only[cE];rw[g ps λt d=>d]
 case bsl k z ps n=>simp only[cE];rw[g ps λt d=>d]
 case bslS k z ps n=>
  have r:(ps.map λp=>ev p.2.2)=ps.map λp=>e p.2.2:=LD λp j=>h p.2.2 λt d=>H7.2 ⟨p,j,d⟩;have h2:(ps.map λp=>(p.1,p.2.1,uS T (iZ (ps.map λp=>ev p.2.2)) (ev p.2.2)))=ps.map λp=>(p.1,p.2.1,uS T (iZ (ps.map λp=>ev p.2.2)) (e p.2.2)):=LD λp j=>by rw[h p.2.2 λt d=>H7.2 ⟨p,j,d⟩]
  simp only[cE];rw[h2,r]
 case clo f cs=>simp only[cE];rw[LD λc l=>h c λt d=>H7.2 ⟨c,l,d⟩]
 case alloc=>rfl
 case mkm=>rfl
 case lku ag ls z m k ok=>simp only[cE];rw[h m t_,h k t_]
 case mup ag ls m k x=>simp only[cE];rw[h m t_,h k t_,h x t_]
 case men ag ls z m k=>simp only[cE];rw[h m t_,h k t_]
 case mst m k x=>simp only[cE];rw[h m t_,h k t_,h x t_]
 case del ag ls m k=>simp only[cE];rw[h m t_,h k t_]
 case lenM m=>simp only[cE];rw[h m t_]
 case mks k z b x y=>simp only[cE];rw[h x t_,h y t_]
 case s2b x=>simp only[cE];rw[h x t_]
 case b2s x=>simp only[cE];rw[h x t_]
 case b2b x=>simp only[cE];rw[h x t_]
 case apS x y=>simp only[cE];rw[h x t_,h y t_]
 case slx x lo hi mx k=>
  simp only[cE];rw[h x t_,h hi t_,h mx t_];cases lo<;>simp only<;>(try rw[h _ t_])
 case call=>rfl
 case nxt=>rfl
 case bad=>rfl
 case bmo f k cs=>simp only[cE];rw[LD λc l=>h c λt d=>H7.2 ⟨c,l,d⟩]
 case rgm m=>simp only[cE];rw[h m t_]
 case ent m=>simp only[cE];rw[h m t_]
 case clr x k z=>simp only[cE];rw[h x t_]
 case pick c a b=>simp only[cE];rw[h c t_,h a t_,h b t_]
 case mov x=>simp only[cE];rw[h x t_]
 case un u x=>simp only[cE];rw[h x t_]
 case conv k x=>simp only[cE];rw[h x t_]
 case box x=>simp only[cE];rw[h x t_]
 case ld n x=>simp only[cE];rw[h x t_]
 case fad x n=>simp only[cE];rw[h x t_]
 case fld x n k=>simp only[cE];rw[h x t_]
 case lenS x=>simp only[cE];rw[h x t_]
 case lenL x=>simp only[cE];rw[h x t_]
 case ext x i=>simp only[cE];rw[h x t_]
 case nilc x=>simp only[cE];rw[h x t_]
 case nilS n kd x=>simp only[cE];rw[h x t_]
 case mm n x y=>simp only[cE];rw[h x t_,h y t_]
 case slc x lo hi k=>
  simp only[cE];rw[h x t_];cases lo<;>cases hi<;>simp only<;>(try rw[h _ t_])<;>(try rw[h _ t_])
 case slcS x lo hi=>
  simp only[cE];rw[h x t_];cases lo<;>cases hi<;>simp only<;>(try rw[h _ t_])<;>(try rw[h _ t_])
 case bin op x y=>simp only[cE];rw[h x t_,h y t_]
 case eqa n ks x y=>simp only[cE];rw[h x t_,h y t_]
 case eqb n x y=>simp only[cE];rw[h x t_,h y t_]
 case st n x y=>simp only[cE];rw[h x t_,h y t_]
 case iad x y k=>simp only[cE];rw[h x t_,h y t_]
 case iadA x y n k=>simp only[cE];rw[h x t_,h y t_]
 case ixS x y=>simp only[cE];rw[h x t_,h y t_]
 case app x y k b=>simp only[cE];rw[h x t_,h y t_]
def Qg{P:Program}{G:L_}{r:Nat}{s s':List (Nat×AV)}{T:aK}{o:HOp}{K:AV->aK->Prop}(h:∀t∈pS o,bA s t=bA s' t):
 yF P G ⟨r,s,T⟩ o K=yF P G ⟨r,s',T⟩ o K:=by
 have a:∀x,(∀t∈bG x,t∈pS o)->dW G s x=dW G s' x:=λx d=>NI λt b=>h t (d t b);cases o
 case call f as_=>
  simp only[yF];rw[a f t_,LD λc e=>a c λt b=>by simp only[pS,cG,H7];exact .inr ⟨c,e,b⟩]
 case nxt p=>
  simp only[yF];rw[a p t_]
 case nilS n k x=>
  simp only[yF];rw[a x t_,aP9 a]
 all_goals simp only[yF];rw[aP9 a]
def Bg{s s':List (Nat×AV)}{g:Option (Nat×Bool)}(h:∀j b,g=some (j,b)->bA s j=bA s' j):fY s g=fY s' g:=by
 cases g with
 |none=>rfl|some p=>obtain⟨j,b⟩:=p;simp only[fY];rw[h j b rfl]
def aft(o:Oper):O3:=(o.after.toList.filter (Region.binds .any)).map (·.on)
def aJj(done:List O3)(o:Oper):O3:=((aft o).flatMap λe=>e::done.getD e []).eraseDups
def WG:List Oper->List O3->List O3|[],d=>d|o::a,d=>WG a (d++[aJj d o])
def Plan.ok (p:Plan) (a:List Oper):Bool :=
 (List.range p.hops.length).all λi=>match p.hops[i]?,a[i]? with
  | some o,some c=>
   (aft c).all (λe=>e<i&&(p.p i).contains e) &&
   (p.p i).all (λq=>(aft c).any λe=>q==e||(p.p e).contains q) &&
   (match o.dst with
   |none=>true|some d=>(List.range p.hops.length).all λj=>match p.hops[j]? with|none=>true|some b=>(j==i||!(b.dst==some d))&&(p.quiet i||!p.quiet j||!(Vr b).contains d||(p.p j).contains i||(p.p i).contains j))
  |_,_=>false
def Vs (p:Plan):Nat->Bool->O3->Option HD|0,_,_=>none| n+1,a,E=>match(p.ready E).find? p.quiet with
  |some i=>match p.hops[i]? with|some o=>(Vs p n a (i::E)).map (.q o)|none=>none
  | none=>match p.ready E with
   |[]=>some (.done a)|[i]=>match p.hops[i]? with|some o=>if(p.pend (i::E)).isEmpty=true then(Vs p n a (i::E)).map λx=>.alt o [] x .no else none|none=>none
   |_=>none
def NJ(p:Plan)(E l:O3):Bool:=(List.range p.hops.length).all λk=>E.contains k||l.contains k||l.all (p.p k).contains
def LH (p:Plan):Nat->Bool->O3->Option HD
 |0,_,_=>none
 | n+1,gc,E=>match(p.ready E).find? p.quiet with
  |some i=>match p.hops[i]? with
   |some o=>(LH p n gc (i::E)).map (.q o)
   |none=>none
  | none=>match p.ready E with
   |[]=>some (.done gc)
   |c::cs=>if(8<=cs.length&&NJ p E (c::cs)&&(Vs p n true ((c::cs)++E)).isSome)=true then(Vs p n true ((c::cs)++E)).map (.perm ((E.filter p.quiet).filterMap λq=>p.hops[q]?) ((c::cs).map λi=>(p.hops[i]?).getD default)) else if(!cs.isEmpty&&12<=((List.range p.hops.length).filter λk=>!E.contains k&&!p.quiet k).length)=true then some (.plan p.hops p.pre n gc E) else(c::cs).foldr (λi acc=>match acc,p.hops[i]?,LH p n (gc||(!p.ng&&!cs.isEmpty)) (i::E) with
    |some t,some o,some x=>some (.alt o (if iE o.op then [] else p.pend (i::E)) x t)
    |_,_,_=>none) (some .no)
def Gu(H:List (Nat×Option Nat×Nat))(a:HOper):HOper:=match a.op with|.bsl k z ps b=>if H.any (λx=>a.dst==some x.1&&x.2.2==1001)=true then⟨a.dst,.bslS k z ps b,a.guard⟩ else a|_=>a
def IW(P:Program)(N:Nat)(H:List (Nat×Option Nat×Nat))(a:Array Oper):Option HD :=
 match(aBB P N a a.toList).map (·.map (Gu H)) with
 |none=>none|some b=>let p:Plan:=⟨b,WG a.toList []++(if H.any (λx=>x.2.2==1002) then [[]] else [])⟩
  if p.ok a.toList&&(p.hops.length==a.size) then LH p (a.size+2) false [] else none
structure PlanOk(p:Plan)(ops:Array Oper):Prop where
 len:p.hops.length=ops.size
 aft:∀i c,ops[i]?=some c->∀e∈c.after,Region.binds .any e=true->e.on<i/\e.on∈p.p i
 pre:∀i c,ops[i]?=some c->∀q∈p.p i,∃e∈c.after,Region.binds .any e=true/\(q=e.on\/q∈p.p e.on)
 dst:∀(i j:Nat)(o o':HOper)(d:Nat),p.hops[i]?=some o->p.hops[j]?=some o'->o.dst=some d->o'.dst=some d->j=i
 rds:∀(i j:Nat)(o o':HOper)(d:Nat),p.hops[i]?=some o->p.hops[j]?=some o'->o.dst=some d->d∈Vr o'->p.quiet i=false->p.quiet j=true->i∈p.p j\/j∈p.p i
def HE{p:Plan}{i:Nat}(h:p.quiet i=true):
 ∃o d,p.hops[i]?=some o/\iE o.op=true/\o.dst=some d/\∀r a,p.hops[r]?=some a->d∈Vr a->i∈p.p r:=by
 unfold Plan.quiet at h;split at h;simp at h;rename_i o c;simp only[zJ]at h;obtain⟨g,h2⟩:=h;split at h2;simp at h2;rename_i d f;refine⟨o,d,c,g,f,λr a b e=>?_⟩;simp only[oD,uM]at h2;have:=h2 r (aQ6.1 b).1;rw[b]at this;simpa[e]using this
def Yg{o:Oper}{x:Nat}:x∈Hud.aft o↔∃e∈o.after,Region.binds .any e=true/\e.on=x:=by simp only[Hud.aft,dF,gR,Array.mem_toList_iff];constructor;rintro⟨e,⟨b,h2⟩,a⟩;exact⟨e,b,h2,a⟩;rintro⟨e,b,h2,a⟩;exact⟨e,⟨b,h2⟩,a⟩
def aF4{p:Plan}{b:Array Oper}(B:p.hops.length=b.size)(h:p.ok b.toList=true):PlanOk p b:=by
 have g:∀i o c,p.hops[i]?=some o->b[i]?=some c->_:=λi o c k f=>by have a:=h;simp only[Plan.ok,oD,uM]at a;have h2:=a i (aQ6.1 k).1;rw[k,(de:b.toList[i]?=some c)]at h2;simp only[zJ]at h2;exact h2
 have cE:∀i c,b[i]?=some c->∃o,p.hops[i]?=some o:=λi c f=>by have:=(aGI.1 f).1;exact⟨_,jN o_⟩
 have l:∀(i:Nat)(o:HOper),p.hops[i]?=some o->∃c,b[i]?=some c:=λi o f=>by have:=(aQ6.1 f).1;exact⟨_,Ri o_⟩
 refine⟨B,λi c f e u x=>?_,λi c f q A=>?_,λi j o y d k m w v=>?_,λi j o y d k m w z r n=>?_⟩;obtain⟨o,s⟩:=cE i c f;have a:=(g i o c s f).1.1;simp only[oD]at a;have:=a e.on (Yg.2 ⟨e,u,x,rfl⟩);simp only[zJ,decide_eq_true_eq]at this;exact⟨this.1,by simpa using this.2⟩;obtain⟨o,s⟩:=cE i c f;have a:=(g i o c s f).1.2;simp only[oD]at a;have:=a q A;simp only[CX]at this;obtain⟨e,u,h2⟩:=this;obtain⟨C,t,x,rfl⟩:=Yg.1 u;refine⟨C,t,x,?_⟩;simpa using h2;obtain⟨c,f⟩:=l i o k;have a:=(g i o c k f).2;rw[w]at a;simp only[oD,uM]at a;have h2:=a j (aQ6.1 m).1;rw[m]at h2;simp only[v,zJ,Ec,beq_self_eq_true,lI,jJ,or_false,beq_iff_eq]at h2;exact h2.1;obtain⟨c,f⟩:=l i o k;have a:=(g i o c k f).2;rw[w]at a;simp only[oD,uM]at a;have h2:=a j (aQ6.1 m).1;rw[m]at h2;simp only[r,n,zJ,Ec,jJ,lI,false_or,EX,JW,decide_eq_true_eq,decide_eq_false_iff_not,z,not_true_eq_false]at h2;exact h2.2
def NK{G:L_}{st:St}{l:List HOper}:qL G st l↔∀o∈l,qL G st [o]:=by
 induction l with
 |nil=>simp[qL]|cons o l ih=>
  simp only[cS,forall_eq_or_imp];rw[<-ih];simp[qL]
def NL{G:L_}{r:Nat}{s s':List (Nat×AV)}{T:aK}{o:HOper}(h:∀t∈Vr o,bA s t=bA s' t)(g:o.dst.map (bA s)=o.dst.map (bA s')):
 qL G ⟨r,s,T⟩ [o]=qL G ⟨r,s',T⟩ [o]:=by
 have c:fY s o.guard=fY s' o.guard:=Bg λj b e=>h j (by simp[Vr,e]);have f:cE T (dW G s) o.op=cE T (dW G s') o.op:=aP9 λx a=>NI λt d=>h t (by simp only[Vr,cG];exact .inl (a t d));simp only[qL,c,f,g]
def aA8{P:Program}{G:L_}{st:St}{o:HOp}{K:AV->aK->Prop}(h:yF P G st o K):yF P G st o λx T=>K x T/\(iE o=true->T=st.T):=by
 cases o
 case call f as_=>
  have:(λx T=>K x T/\(iE (HOp.call f as_)=true->T=st.T))=K:=by funext x T;simp[iE]
  rw[this];exact h
 case nxt p=>
  have:(λx T=>K x T/\(iE (HOp.nxt p)=true->T=st.T))=K:=by funext x T;simp[iE]
  rw[this];exact h
 case nilS n k x=>
  simp only[yF]at h⊢;split at h;rename_i b;rw[if_pos b];exact⟨⟨h.1,λ_=>trivial⟩,⟨h.2,λ_=>trivial⟩⟩;rename_i b;rw[if_neg b];split at h;rename_i x T c;exact⟨h,λa=>Je a c⟩;exact h.elim
 all_goals
  simp only[yF]at h⊢
  split at h
  rename_i x T c
  exact⟨h,λa=>Je a c⟩
  exact h.elim
def Kt(a:Array Bool):Nat->Nat|0=>0|m+1=>Kt a m+if a.getD m false then 0 else 1
def IX {a:Array Bool}:∀{m:Nat},Kt a m=0->∀i,i<m->a.getD i false=true
 |0,_,i,d=>by omega
 | m+1,h,i,d=>by
  simp only[Kt]at h;split at h;rename_i c;rcases eD i m with b|b;exact IX o_ i b;have:i=m:=o_;subst this;exact c;omega
def aCn{a:Array Bool}{i:Nat}:∀{m:Nat},m<=i->Kt (a.setIfInBounds i true) m=Kt a m|0,_=>rfl|m+1,h=>by simp only[Kt];rw[aCn o_,getD_set_ne false o_]
def L7{a:Array Bool}{i:Nat}(c:i<a.size)(b:a.getD i false=false):∀{m:Nat},i<m->Kt (a.setIfInBounds i true) m+1=Kt a m
 |0,h=>by omega
 | m+1,h=>by
  simp only[Kt];rcases eD i m with d|d;have:=L7 c b d;rw[getD_set_ne false o_];omega;have:i=m:=o_;subst this;have h2:(a.setIfInBounds i true).getD i false=true:=by simp[TR,c]
  rw[aCn (cN _),h2,b];simp
def Ku{P:Program}{N:Nat}{a:Array Oper}:∀{l:List Oper}{b:List HOper},aBB P N a l=some b->b.length=l.length/\∀(i:Nat) d,b[i]?=some d->∃o,l[i]?=some o/\qP P N a o=some d
 |[],b,h=>by simp only[aBB,O7]at h;subst h;simp
 | o::l,b,h=>by
  simp only[aBB]at h;split at h;rename_i d f k h2;cases h;obtain⟨j,g⟩:=Ku h2;refine⟨by simp[j],λi c e=>?_⟩
  cases i with
  |zero=>simp only[sW,O7]at e;subst e;exact⟨o,rfl,k⟩
  |succ i=>simpa using g i c E_
  simp at h
section
variable{P:Program}{G:L_}{N:Nat}{h0:GH}{φ0:Nat->Value}{T0:aK}{w0:World}
def Jf {φ:Nat->Value} {w:World} {a:Act}:∀(I:O3){st:St}{h:GH},tU G h->Inv h φ w st.T->uN h φ st.T.length st.s a ->
 ∃h2,tU G h2/\Inv h2 φ w (Gq st.T I)/\Evo h φ st.T w h2 φ (Gq st.T I) w/\∃b:List (Nat×AV),(∀j,bA b j=uS st.T I (bA st.s j))/\uN h2 φ (Gq st.T I).length b a
 |[],st,h,d,hI,c=>⟨h,d,hI,Evo.refl,st.s,λ_=>rfl,c⟩| i::r,st,h,d,hI,c=>by
  simp only[Gq,uS];split;rename_i k e f;obtain⟨l,b⟩:=T6 hI (bH f)
  obtain⟨h2,q,p,o,g,n,m⟩:=Jf r (st:=⟨st.r,QR i k e st.s,(QS i k e st.T).set i none⟩) (d.mono (Cf hI (bH f))) l (λj=>by
   show Rp _ φ ((QS i k e st.T).set i none).length (bA (QR i k e st.s) j) _;rw[cL,L5,L6]
   exact Rx hI (bH f) (c j))
  refine⟨h2,q,p,b.trans o,g,λj=>?_,m⟩;rw[n j,L6];rename_i t;exact Jf r d hI c
def NM:∀(I:O3)(T:aK)(f:Nat),uS T I (.cl f [])=.cl f []|[],_,_=>rfl|i::r,T,f=>by simp only[uS];split;simp only[CB,IB];exact NM r _ f;exact NM r T f
def Rz:∀(I:O3)(T:aK)(x:Value),uS T I (.v x)=.v x|[],_,_=>rfl|i::r,T,x=>by simp only[uS];split;simp only[CB];exact Rz r _ x;exact Rz r T x
def NO:∀(I:O3)(T:aK)(cs:O0),uS T I (.rp cs)=.rp cs|[],_,_=>rfl|i::r,T,cs=>by simp only[uS];split;simp only[CB];exact NO r _ cs;exact NO r T cs
def Jg:∀(I:O3)(T:aK),uS T I .any=.any|[],_=>rfl|i::r,T=>by simp only[uS];split;simp only[CB];exact Jg r _;exact Jg r T
def aCo{s a:List (Nat×AV)}{T:aK}{I:O3}(h:∀j,bA a j=uS T I (bA s j))(x:Operand):dW G a x=uS T I (dW G s x):=by
 cases x with
 |tmp t=>exact h t|const v=>exact(Rz I T v).symm|global g=>
  simp only[dW]
  cases G g with
  |none=>exact(Jg I T).symm|some b=>exact(NO I T b).symm
 |func f=>exact(NM I T f).symm
def PU{h:GH}{φ:Nat->Value}{w:World}{a:Act}{st:St}{K:AV->aK->Prop}{next:Act->World->Prop}{o:Oper}{k:Nat}{z:O5}{ps:List (Nat×Nat×Operand)}{b:Nat}(y:HB P o=some (.bsl k z ps b))(g:yF P G st (.bslS k z ps b) K)(B:tU G h)(hI:Inv h φ w st.T)(A:uN h φ st.T.length st.s a)
 (q:∀v f,CS h φ st.T w K v f->next (a.put o.dst v) f):rL P o a w next:=by
 have j:∃x d,cE st.T (dW G st.s) (.bslS k z ps b)=some (x,d)/\K x d:=by simp only[yF]at g;split at g;rename_i x d e;exact⟨x,d,e,g⟩;exact g.elim
 obtain⟨x,d,c,t⟩:=j;obtain⟨h2,I,H,F,m,E,D⟩:=Jf (iZ (ps.map λp=>dW G st.s p.2.2)) B hI A;refine NC y (st:=⟨st.r,m,Gq st.T (iZ (ps.map λp=>dW G st.s p.2.2))⟩) (K:=K) ?_ I H D λv f n=>q v f ?_;simp only[cE]at c;simp only[yF,cE];have:(ps.map λp=>(p.1,p.2.1,dW G m p.2.2))=ps.map λp=>(p.1,p.2.1,uS st.T (iZ (ps.map λp=>dW G st.s p.2.2)) (dW G st.s p.2.2)):=LD λp _=>by rw[aCo E]
 rw[this];split at c;rename_i O u;split at c;rename_i l;simp only[O7,Prod.mk.injEq]at c;obtain⟨rfl,rfl⟩:=c;rw[if_pos l];exact t;simp at c;simp at c;obtain⟨r,T2,C,i,N,M,L,J⟩:=n;exact⟨r,T2,C,i,N,F.trans M,L,J⟩
def NP{H:List (Nat×Option Nat×Nat)}(b:HOper):Gu H b=b\/∃k z ps a,b.op=.bsl k z ps a/\Gu H b=⟨b.dst,.bslS k z ps a,b.guard⟩:=by unfold Gu;split;rename_i k z ps a e;split;exact .inr ⟨k,z,ps,a,e,rfl⟩;exact .inl rfl;exact .inl rfl
def Yi{H:List (Nat×Option Nat×Nat)}{ro:Option Nat}{u:Array Oper}{Q:Exit->Act->World->Prop}{i:Nat}{o:Oper}{C:HOper}{st:St}{a:Act}{w:World}{next:Act->World->Prop}(hi:u[i]?=some o)(hc:(qP P N u o).map (Gu H)=some C)
 (hS:SInv P G N h0 φ0 T0 w0 st a w) (p:match fY st.s C.guard with|some true=>yF P G st C.op λx T=>∀J n,SInv P G N h0 φ0 T0 w0 ⟨st.r,fV st.s C.dst x,T⟩ J n->next J n|some false=>∀J n,SInv P G N h0 φ0 T0 w0 ⟨st.r,fV st.s C.dst (.v undef),st.T⟩ J n->next J n|none=>False):wpOpIn (fe ro) 0 P u Q i next a w:=by
 obtain⟨V,m,⟨h,S,K,W,hI,g⟩,A,E⟩:=hS;obtain⟨B,M,b⟩:=X9.1 hc;obtain⟨c1,Z,R,Y⟩:=Gt M;have t:∀j,o.dst=some j->j<a.tmps.size:=λj hj=>CV (c1 j hj) A;have q:∀v,N<=(a.put o.dst v).tmps.size:=by
  intro v
  cases o.dst with
  |none=>exact A|some j=>simpa[Act.put]using A
 unfold wpOpIn;simp only[hi];have F:C.dst=o.dst/\C.guard=B.guard:=by
  rcases NP (H:=H) B with e|⟨_,_,_,_,_,e⟩
  rw[<-b,e];exact⟨Z,rfl⟩;rw[<-b,e];exact⟨Z,rfl⟩
 rw[F.1,F.2]at p;split at p;rename_i y;have c:=IU g Y y;rw[if_pos c];have L:∀{U:Act->World->Prop},(∀v n,CS h S st.T w _ v n->U (a.put o.dst v) n)->rL P o a w U:=λd=>by
  rcases NP (H:=H) B with e|⟨k,z,ps,aa,e1,e2⟩
  rw[<-b,e]at p;exact NC R p K hI g d;rw[<-b,e2]at p;exact PU (by rw[R,e1]) p K hI g d
 refine aGS (IS R) (L λv n d=>?_);obtain⟨x,T',X,D,hk,l,O,hx⟩:=d;have I:uN X D T'.length st.s a:=λi=>(g i).mono l.le l.len l.phi;exact hk _ _ ⟨V,AT m _ _,⟨X,D,K.mono l.le,W.trans l,O,IT I hx t⟩,q v,(E.keep hI l).put _ _⟩;rename_i y;have c:=IU g Y y;rw[if_neg (by simp[c])];exact⟨λf _=>Ye ro f,p _ _ ⟨V,AT m _ _,⟨h,S,K,W,hI,IT g x_ t⟩,q _,E.put _ _⟩⟩;exact p.elim
structure Drawn(P:Program)(G:Nat->Option (List AV))(N:Nat)(h0:GH)(φ0:Nat->Value)(T0:aK)(w0:World)(p:Plan)(E:List Nat)(st:St)(listed:Array Bool)(a:Act)(w:World):Prop where
 size:listed.size=p.hops.length
 lt:∀i∈E,i<p.hops.length
 sub:∀i,listed.getD i false=true->i∈E
 clo:∀i,listed.getD i false=true->∀q∈p.p i,listed.getD q false=true
 heavy:∀i∈E,p.quiet i=false->listed.getD i false=true
 ecl:∀i∈E,∀q∈p.p i,q∈E
 pend:∀i∈E,listed.getD i false=false->∀o,p.hops[i]?=some o->qL G st [o]
 once:Jc st.s
 inv:∃s',(∀t,bA s' t=bA st.s t\/∃i o,i∈E/\listed.getD i false=false/\p.hops[i]?=some o/\o.dst=some t)/\SInv P G N h0 φ0 T0 w0 ⟨st.r,s',st.T⟩ a w
variable{p:Plan}{ops:Array Oper}{E:O3}{st:St}{listed:Array Bool}{a:Act}{w:World}
def Yj{a:Array Bool}{i:Nat}:(i<a.size/\a.getD i true=false)↔(i<a.size/\a.getD i false=false):=by constructor<;>rintro⟨h,b⟩<;>exact⟨h,by simpa[TR,h]using b⟩
def uG(g:PlanOk p ops)(d:Drawn P G N h0 φ0 T0 w0 p E st listed a w){i:Nat}(j:i∈Region.ready .any ops listed):
 listed.getD i false=false/\i<p.hops.length/\(∃o,ops[i]?=some o)/\∀q∈p.p i,listed.getD q false=true:=by
 obtain⟨n,o,b,h2⟩:=mem_ready.1 j;have c:i<listed.size:=by have:=(aGI.1 b).1;have:=g.len;have:=d.size;omega
 refine⟨(Yj.1 ⟨c,n⟩).2,by have:=d.size;omega,⟨o,b⟩,λq k=>?_⟩;obtain⟨e,l,m,f⟩:=g.pre i o b q k;have h:=h2 e l m;rcases f with rfl|f;exact h;exact d.clo _ h _ f
def Jh (c:PlanOk p ops) (h:listed.size=p.hops.length) (d:Region.ready .any ops listed=[]):∀i,i<p.hops.length->listed.getD i false=true:=by
 intro i
 induction i using Nat.strongRecOn with
 | _ i ih=>
  intro j;have a:i<ops.size:=by have:=c.len;omega
  by_cases b:listed.getD i false=true;exact b;have:i∈Region.ready .any ops listed:=by refine mem_ready.2 ⟨(Yj.2 ⟨o_,B_⟩).2,ops[i],Ri a,λe f g=>?_⟩;have:=(c.aft i _ (Ri a) e f g).1;exact ih e.on this o_
  rw[d]at this;simp at this
end
section
variable{P:Program}{G:L_}{N:Nat}{h0:GH}{φ0:Nat->Value}{T0:aK}{w0:World}
variable{H:List (Nat×Option Nat×Nat)}{ro:Option Nat}{p:Plan}{ops:Array Oper}{E:O3}{st:St}{listed:Array Bool}{a:Act}{w:World}{Q:Exit->Act->World->Prop}
def HF{f:FuncId}{args:O0}{T:aK}{K e:AV->aK->Prop}(h:∀x T,K x T->e x T)(a:IG P G f args T K):IG P G f args T e:=by obtain⟨d,g,a⟩:=a;refine⟨d,g,?_⟩;rcases a with a|⟨c,a⟩|a;obtain⟨L,c,h2,a⟩:=a;exact .inl ⟨L,c,h2,a.mono λr i b=>h _ _ b⟩;exact .inr (.inl ⟨c,a.mono λr i b=>⟨b.1,b.2.1,h _ _ b.2.2⟩⟩);exact .inr (.inr (a.mono h))
def Cg {st:St} {o:HOp} {K l:AV->aK->Prop} (h:∀x T,K x T->l x T) (a:yF P G st o K):yF P G st o l:=by
 cases o
 case call f as_=>
  simp only[yF]at a⊢;split at a;rename_i g j d;exact HF h a;rename_i g k w d;exact HF h a;rename_i i d;exact a.mono λr y m=>h _ _ m;exact a.elim
 case nxt p=>
  simp only[yF]at a⊢;split at a;split at a;exact h _ _ a;split at a;exact⟨a.1,a.2.1,λq=>h _ _ (a.2.2.1 q),λe k v b u h2 t s=>h _ _ (a.2.2.2 e k v b u h2 t s)⟩;exact a.elim;exact a.elim;exact a.elim
 case nilS n k x=>
  simp only[yF]at a⊢;split at a;rename_i c;rw[if_pos c];exact⟨h _ _ a.1,h _ _ a.2⟩;rename_i c;rw[if_neg c];split at a;exact h _ _ a;exact a.elim
 all_goals
  simp only[yF]at a⊢
  split at a
  exact h _ _ a
  exact a.elim
def WH{st:St}{o:HOp}{K:AV->aK->Prop}{x:AV}{T:aK}(c:iE o=true)(b:cE st.T (dW G st.s) o=some (x,T))(d:K x T):yF P G st o K:=by
 cases o
 case call f as_=>simp[iE]at c
 case nxt p=>simp[iE]at c
 case nilS n k y=>
  have a:Te k (dW G st.s y)≠true:=λa=>by unfold Te at a;split at a;rename_i e;simp[cE,e]at b;simp at a
  simp only[yF,b];rw[if_neg a];exact d
 all_goals
  simp only[yF,b]
  exact d
def WI(s:List (Nat×AV))(d:Nat)(x:AV):bA (fV s (some d) x) d=x:=by simp[fV,IP]
def Yk{s:List (Nat×AV)}{d t:Nat}{x:AV}(h:d≠t):bA (fV s (some d) x) t=bA s t:=by simp[fV,IP,h]
def Ch{s:List (Nat×AV)}{o:Option Nat}{t:Nat}{x:AV}(h:o≠some t):bA (fV s o x) t=bA s t:=by
 cases o with
 |none=>rfl|some d=>exact Yk λe=>h (by rw[e])
def iI{i:Nat}(a:i<listed.size)(j:Nat):(listed.setIfInBounds i true).getD j false=true↔j=i\/listed.getD j false=true:=by by_cases h:i=j;subst h;simp[TR,a];rw[getD_set_ne false h];constructor;exact .inr;rintro(rfl|b);exact absurd rfl h;exact b
def L8 (hp:PlanOk p ops) (m:Drawn P G N h0 φ0 T0 w0 p E st listed a w) {i:Nat} (S:i∈p.ready E) (U:p.quiet i=true) {o:HOper} (H:p.hops[i]?=some o) {x:AV}
 (Z:(fY st.s o.guard=some true/\∃X,cE st.T (dW G st.s) o.op=some (x,X))\/(fY st.s o.guard=some false/\x=.v undef)):
 Drawn P G N h0 φ0 T0 w0 p (i::E) ⟨st.r,fV st.s o.dst x,st.T⟩ listed a w:=by
 obtain⟨o',d,u,aa,R,L⟩:=HE U;rw[H]at u;cases u;simp only[Plan.ready,gR,uM,zJ,EX,JW,decide_eq_false_iff_not,oD,decide_eq_true_eq]at S;obtain⟨O,C,z⟩:=S;have M:listed.getD i false=false:=by cases hb:listed.getD i false;rfl;exact absurd (m.sub i hb) C
 have n:∀(k:Nat) g,k∈E\/k=i->p.hops[k]?=some g->d∉Vr g:=λk g f c hm=>by have A:=L k g c hm;rcases f with f|rfl;exact C (m.ecl k f i A);exact C (z k A)
 have l:∀(k:Nat) g,k∈E\/k=i->p.hops[k]?=some g->∀t∈Vr g,bA (fV st.s o.dst x) t=bA st.s t:=λk g f c t F=>by rw[R];exact Yk λe=>n k g f c (e ▸ F)
 refine⟨m.size,?_,λk f=>GU _ (m.sub k f),m.clo,?_,?_,?_,AT m.once _ _,?_⟩;intro k f;rcases cS.1 f with rfl|f;exact O;exact m.lt k f;intro k f B;rcases cS.1 f with rfl|f;rw[U]at B;simp at B;exact m.heavy k f B;intro k f q I;rcases cS.1 f with rfl|f;exact GU _ (z q I);exact GU _ (m.ecl k f q I);intro k f K g c;by_cases D:k=i;subst D;rw[H]at c;cases c;have W:fY (fV st.s o.dst x) o.guard=fY st.s o.guard:=Bg λj b e=>l k o (.inr rfl) H j (by simp[Vr,e]);have V:cE st.T (dW G (fV st.s o.dst x)) o.op=cE st.T (dW G st.s) o.op:=aP9 λy Y=>NI λt F=>l k o (.inr rfl) H t (by simp only[Vr,cG];exact .inl (Y t F));rw[R]at W V⊢;simp only[qL,W,V,R,iX,WI,and_true];rcases Z with⟨A,X,h2⟩|⟨A,h2⟩
 simp[A,h2];simp[A,h2];have J:k∈E:=by rcases cS.1 f with h|h;exact absurd h D;exact h
 rw[NL (s':=st.s) (l k g (.inl J) c) ?_];exact m.pend k J K g c
 cases Q:g.dst with
 |none=>rfl|some dk=>
  simp only[iX,O7];refine Ch λe=>D ?_;exact hp.dst i k o g dk H c (e ▸ rfl) Q
 obtain⟨s',hs,hS⟩:=m.inv;refine⟨s',λt=>?_,hS⟩;by_cases F:o.dst=some t;exact .inr ⟨i,o,k_,M,H,F⟩;rcases hs t with h|⟨k,g,A,h2,h3,h4⟩
 exact .inl (by rw[h];exact(Ch F).symm);exact .inr ⟨k,g,by simp[A],h2,h3,h4⟩
def NQ(q:PlanOk p ops)(j:Drawn P G N h0 φ0 T0 w0 p E st listed a w){i:Nat}(n:i∈Region.ready .any ops listed){o:HOper}(r:p.hops[i]?=some o){s':List (Nat×AV)}
 (m:∀t,bA s' t=bA st.s t\/∃i o,i∈E/\listed.getD i false=false/\p.hops[i]?=some o/\o.dst=some t):∀t∈Vr o,bA s' t=bA st.s t:=by
 intro t l;obtain⟨_,_,_,c⟩:=uG q j n;rcases m t with h|⟨k,z,y,h2,x,v⟩
 exact h;have g:p.quiet k=true:=by cases u:p.quiet k;rw[j.heavy k y u]at h2;simp at h2;rfl
 obtain⟨A,d,b,_,e,f⟩:=HE g;rw[x]at b;cases b;rw[v]at e;cases e;rw[c k (f i o r l)]at h2;simp at h2
def WJ (Z:PlanOk p ops) (hh:∀(i:Nat) z,p.hops[i]?=some z->∃o,ops[i]?=some o/\(qP P N ops o).map (Gu H)=some z) (g:Drawn P G N h0 φ0 T0 w0 p E st listed a w) {i:Nat} (Y:i∈Region.ready .any ops listed) (U:i∈E) {next:Act->World->Prop}
 (hn:∀u m,Drawn P G N h0 φ0 T0 w0 p E st (listed.setIfInBounds i true) u m->next u m):wpOpIn (fe ro) 0 P ops Q i next a w:=by
 obtain⟨y,S,⟨c,hc⟩,J⟩:=uG Z g Y;have hq:p.quiet i=true:=by cases L:p.quiet i;rw[g.heavy i U L]at y;simp at y;rfl
 obtain⟨o,d,z,I,V,aa⟩:=HE hq;obtain⟨s',X,hS⟩:=g.inv;have D:=NQ Z g Y z X;have f:=g.pend i U y o z;obtain⟨c',W,B⟩:=hh i o z;have O:∀x u m,x=bA st.s d->SInv P G N h0 φ0 T0 w0 ⟨st.r,fV s' o.dst x,st.T⟩ u m->next u m:=by
  intro x u m hx n;have l:i<listed.size:=by rw[g.size];exact S
  refine hn u m ⟨by simpa using g.size,g.lt,λk A=>?_,λk A q F=>?_,λk A R=>?_,g.ecl,λk A K=>?_,g.once,fV s' o.dst x,λt=>?_,n⟩;rcases(iI l k).1 A with rfl|h;exact U;exact g.sub k h;refine(iI l q).2 (.inr ?_);rcases(iI l k).1 A with rfl|h;exact J q F;exact g.clo k h q F;exact(iI l k).2 (.inr (g.heavy k A R));apply g.pend k A;cases L:listed.getD k false;rfl;rw[(iI l k).2 (.inr L)]at K;simp at K;by_cases v:o.dst=some t;rw[v];rw[V]at v;cases v;exact .inl (by rw[WI];exact hx);rw[Ch v];rcases X t with h|⟨k,ok,h1,h2,M,h4⟩
  exact .inl h;refine .inr ⟨k,ok,h1,?_,M,h4⟩;cases L:(listed.setIfInBounds i true).getD k false;rfl;rcases(iI l k).1 L with rfl|h;rw[z]at M;cases M;exact absurd h4 v;rw[h2]at h;simp at h
 apply Yi W B hS;have hw:fY s' o.guard=fY st.s o.guard:=Bg λj b e=>D j (by simp[Vr,e]);simp only[qL,and_true]at f;simp only[hw]
 cases C:fY st.s o.guard with
 |none=>simp[C]at f| some b=>
  rw[C]at f
  cases b with
  |false=>
   simp only[V,iX,O7]at f;exact λu m n=>O _ u m f.symm n
  |true=>
   simp only at f⊢;rw[Qg (s':=st.s) λt v=>D t (by simp only[Vr,cG];exact .inl v)];split at f;rename_i x T' he;simp only[V,iX,O7]at f;have hT:=Je I he;subst hT;exact WH (st:=⟨st.r,st.s,st.T⟩) I he λu m n=>O x u m f.symm n;exact f.elim
def WK (hp:PlanOk p ops) (hh:∀(i:Nat) M,p.hops[i]?=some M->∃o,ops[i]?=some o/\(qP P N ops o).map (Gu H)=some M) (g:Drawn P G N h0 φ0 T0 w0 p E st listed a w) {i:Nat} (hr:i∈Region.ready .any ops listed) (hi:i∉E) (hq:p.quiet i=false)
 {o:HOper} (M:p.hops[i]?=some o) {K:AV->aK->Prop}
 (L:match fY st.s o.guard with|some true=>yF P G st o.op λx T=>qL G ⟨st.r,fV st.s o.dst x,T⟩ (if iE o.op then [] else p.pend (i::E))/\K x T|some false=>qL G ⟨st.r,fV st.s o.dst (.v undef),st.T⟩ (if iE o.op then [] else p.pend (i::E))/\K (.v undef) st.T|none=>False) {next:Act->World->Prop}
 (hn:∀x T B n,K x T->Drawn P G N h0 φ0 T0 w0 p (i::E) ⟨st.r,fV st.s o.dst x,T⟩ (listed.setIfInBounds i true) B n->next B n):wpOpIn (fe ro) 0 P ops Q i next a w:=by
 obtain⟨ah,Y,⟨c,hc⟩,y⟩:=uG hp g hr;obtain⟨s',hs,hS⟩:=g.inv;have W:=NQ hp g hr M hs;obtain⟨c',af,R⟩:=hh i o M;have f:i<listed.size:=by rw[g.size];exact Y
 have ab:∀x T B n,qL G ⟨st.r,fV st.s o.dst x,T⟩ (if iE o.op then [] else p.pend (i::E))->(iE o.op=true->T=st.T)->K x T ->
  SInv P G N h0 φ0 T0 w0 ⟨st.r,fV s' o.dst x,T⟩ B n->next B n:=by
  intro x T B n aa ad d A;have I:∀k,(listed.setIfInBounds i true).getD k false=true->∀q∈p.p k,(listed.setIfInBounds i true).getD q false=true:=λk d q u=>by refine(iI f q).2 (.inr ?_);rcases(iI f k).1 d with rfl|h;exact y q u;exact g.clo k h q u
  have l:∀k∈i::E,p.quiet k=false->(listed.setIfInBounds i true).getD k false=true:=λk d C=>by rcases cS.1 d with rfl|d;exact(iI f k).2 (.inl rfl);exact(iI f k).2 (.inr (g.heavy k d C))
  refine hn x T B n d ⟨by simpa using g.size,λk d=>?_,λk d=>?_,I,l,λk d q u=>?_,λk d m J D=>?_,AT g.once _ _,fV s' o.dst x,λt=>?_,A⟩;rcases cS.1 d with rfl|d;exact Y;exact g.lt k d;rcases(iI f k).1 d with rfl|h;simp;exact GU _ (g.sub k h);rcases cS.1 d with rfl|d;exact GU _ (g.sub q (y q u));exact GU _ (g.ecl k d q u);have Z:k≠i:=λe=>by rw[(iI f k).2 (.inl e)]at m;simp at m
  have O:k∈E:=by rcases cS.1 d with h|h;exact absurd h Z;exact h
  have z:listed.getD k false=false:=by cases F:listed.getD k false;rfl;rw[(iI f k).2 (.inr F)]at m;simp at m
  have C:p.quiet k=true:=by cases F:p.quiet k;rw[g.heavy k O F]at z;simp at z;rfl
  by_cases X:iE o.op=true;have hT:=ad X;subst hT;rw[NL (s':=st.s) ?_ ?_];exact g.pend k O z J D;intro t S;refine Ch λe=>?_;rcases hp.rds i k o J t M D e S hq C with U|U;exact hi (g.ecl k O i U);rw[y k U]at z;simp at z
  cases ae:J.dst with
  |none=>rfl|some dk=>
   simp only[iX,O7];exact Ch λe=>Z (hp.dst i k o J dk M D e ae)
  rw[if_neg X]at aa;refine(NK.1 aa) J ?_;simp only[Plan.pend,aBJ,gR,zJ,EX,List.any_eq_false];refine⟨k,⟨d,C,λh hm F=>?_⟩,D⟩;simp only[JW,decide_eq_true_eq]at F;rw[I h (l h hm F.1) k F.2]at m;simp at m;by_cases S:o.dst=some t;simp only[S,WI,true_or];simp only[Ch S];rcases hs t with h|⟨k,J,U,h2,h3,h4⟩
  exact .inl h;refine .inr ⟨k,J,by simp[U],?_,h3,h4⟩;cases F:(listed.setIfInBounds i true).getD k false;rfl;rcases(iI f k).1 F with rfl|h;exact absurd U hi;rw[h2]at h;simp at h
 apply Yi af R hS;have ac:fY s' o.guard=fY st.s o.guard:=Bg λj b e=>W j (by simp[Vr,e]);simp only[ac]
 cases V:fY st.s o.guard with
 |none=>simp[V]at L| some b=>
  rw[V]at L
  cases b with
  |false=>
   simp only at L⊢;exact λB n A=>ab _ _ B n L.1 (λ_=>rfl) L.2 A
  |true=>
   simp only at L⊢;rw[Qg (s':=st.s) λt S=>W t (by simp only[Vr,cG];exact .inl S)];refine Cg (λx T h B n A=>?_) (aA8 L);exact ab x T B n h.1.1 h.2 h.1.2 A
def T7 {g:Bool} {n:Nat} {c:Bool} {G:L_} {K:St->Prop}:∀{l:O3}{d:HD},l.foldr (λi f=>match f,p.hops[i]?,LH p n (g||c) (i::E) with|some t,some o,some x=>some (.alt o (if iE o.op then [] else p.pend (i::E)) x t)|_,_,_=>none) (some .no)=some d->JV P G d st K->∀i∈l,∃o x,p.hops[i]?=some o/\LH p n (g||c) (i::E)=some x/\(match fY st.s o.guard with|some true=>yF P G st o.op λy T=>qL G ⟨st.r,fV st.s o.dst y,T⟩ (if iE o.op then [] else p.pend (i::E))/\JV P G x ⟨st.r,fV st.s o.dst y,T⟩ K|some false=>qL G ⟨st.r,fV st.s o.dst (.v undef),st.T⟩ (if iE o.op then [] else p.pend (i::E))/\JV P G x ⟨st.r,fV st.s o.dst (.v undef),st.T⟩ K|none=>False)|[],d,_,_,i,b=>by simp at b| j::l,d,a,e,i,b=>by simp only[List.foldr_cons]at a;split at a;rename_i t o x k h2 h;cases a;simp only[JV]at e;rcases cS.1 b with rfl|b;exact⟨o,x,h2,h,e.1⟩;exact T7 k e.2 i b;simp at a
def CD{α a:Type}(f:α->a):∀(l:List α)(j:Nat),(l.map f).eraseIdx j=(l.eraseIdx j).map f|[],_=>by simp|x::l,0=>by simp|x::l,j+1=>by simp[CD f l j]
def T8{E a:O3}(h:∀x,E.contains x=a.contains x):p.ready E=p.ready a:=by unfold Plan.ready;refine List.filter_congr λi _=>?_;rw[h,show E.contains=a.contains from funext h]
def WL{E a:O3}(h:∀x,E.contains x=a.contains x):(p.pend E).isEmpty=(p.pend a).isEmpty:=by
 have c:∀x,x∈E↔x∈a:=λx=>by have:=h x;simp only[JW]at this;exact decide_eq_decide.1 this
 have f:∀q,(E.any λk=>!p.quiet k&&(p.p k).contains q)=(a.any λk=>!p.quiet k&&(p.p k).contains q):=λq=>by rw[aO8,CX,CX];exact⟨λ⟨k,e,h2⟩=>⟨k,(c k).1 e,h2⟩,λ⟨k,e,h2⟩=>⟨k,(c k).2 e,h2⟩⟩
 have d:∀{E a:O3},(∀x,x∈E↔x∈a)->(∀q,(E.any λk=>!p.quiet k&&(p.p k).contains q)=(a.any λk=>!p.quiet k&&(p.p k).contains q))->∀o,o∈p.pend E->o∈p.pend a:=λc f o b=>by simp only[Plan.pend,aBJ,gR,f]at b⊢;obtain⟨q,⟨e,h2⟩,i⟩:=b;exact⟨q,⟨(c q).1 e,h2⟩,i⟩
 rw[aO8,aGM,aGM];constructor;intro g;exact TS.2 λo b=>by have:=d (λx=>(c x).symm) (λq=>(f q).symm) o b;rw[g]at this;simp at this
 intro g;exact TS.2 λo b=>by have:=d c f o b;rw[g]at this;simp at this
def Qh:∀(n:Nat)(b:Bool)(E a:O3),(∀x,E.contains x=a.contains x)->Vs p n b E=Vs p n b a
 |0,_,_,_,_=>rfl
 | n+1,b,E,a,h=>by
  have c:∀i x,(i::E).contains x=(i::a).contains x:=λi x=>by simp only[List.contains_cons,h]
  simp only[Vs,T8 h];have d:∀i,Vs p n b (i::E)=Vs p n b (i::a):=λi=>Qh n b _ _ (c i);have h2:∀i,(p.pend (i::E)).isEmpty=(p.pend (i::a)).isEmpty:=λi=>WL (c i)
  cases(p.ready a).find? p.quiet with
  |some i=>simp only;rw[d i]
  |none=>
   simp only;rcases p.ready a with _|⟨i,_|⟨j,e⟩⟩
   rfl;simp only;rw[d i,h2 i];rfl
def NR:∀(n:Nat)(b:Bool)(E:O3)(e:HD),Vs p n b E=some e->LH p n b E=some e
 |0,_,_,_,h=>by simp[Vs]at h
 | n+1,b,E,e,h=>by
  simp only[Vs]at h;simp only[LH]
  cases f:(p.ready E).find? p.quiet with
  | some i=>
   rw[f]at h;simp only at h⊢
   cases c:p.hops[i]? with
   |none=>rw[c]at h;simp at h
   |some o=>
    rw[c]at h;simp only at h⊢
    cases a:Vs p n b (i::E) with
    |none=>simp[a]at h
    |some x=>rw[a]at h;rw[NR n b _ _ a];exact h
  | none=>
   rw[f]at h;simp only at h⊢;rcases hr:p.ready E with _|⟨i,_|⟨j,l⟩⟩
   rw[hr]at h;exact h;rw [hr]at h;simp only at h⊢
   cases c:p.hops[i]? with
   |none=>rw[c]at h;simp at h
   | some o=>
    rw[c]at h;simp only at h;split at h;rename_i d
    cases a:Vs p n b (i::E) with
    |none=>simp[a]at h
    |some x=>
     rw[a]at h;have k:p.pend (i::E)=[]:=aGM.1 d;have g:=NR n b _ _ a;simp only[iX,O7]at h;subst h;simp[c,g,k]
    simp at h
   rw[hr]at h;simp at h
def aCp{G:L_}{st:St}{l a:List HOper}(h:∀o∈a,o∈l)(c:qL G st l):qL G st a:=NK.2 λo b=>NK.1 c o (h o b)
def NS (hp:PlanOk p ops) (hh:∀(i:Nat) z,p.hops[i]?=some z->∃o,ops[i]?=some o/\(qP P N ops o).map (Gu H)=some z) {l E0:O3} (C:∀i∈l,p.quiet i=false) (B:∀i∈l,∃o,p.hops[i]?=some o) (af:NJ p E0 l=true) (A:∀i∈l,i∉E0)
 {K:St->Prop} (J:∀(E:O3)(st:St),(∀x,E.contains x=(l++E0).contains x)->K st->∀(fuel:Nat)(c:Array Bool)(a:Act)(w:World),Drawn P G N h0 φ0 T0 w0 p E st c a w->Kt c p.hops.length<=fuel->wpAnyIn (fe ro) 0 P .any ops Q fuel c a w):
 ∀(n:Nat)(R E:O3)(st:St),R.length=n->(∀i∈R,i∈l)->(∀i,i∈E↔(i∈l/\i∉R)\/i∈E0)->R.Nodup->IH P G ((E0.filter p.quiet).filterMap λq=>p.hops[q]?) n (R.map λi=>(p.hops[i]?).getD default) st K ->
 ∀(fuel:Nat)(c:Array Bool)(a:Act)(w:World),Drawn P G N h0 φ0 T0 w0 p E st c a w->Kt c p.hops.length<=fuel->wpAnyIn (fe ro) 0 P .any ops Q fuel c a w
 |0,R,E,st,hR,g,F,O,hw=>by
  have:R=[]:=Ae hR;subst this;refine J E st (λx=>?_) hw;rw[aO8];simp[F]
 | n+1,R,E,st,hR,g,F,O,hw=>by
  have ac:∀k,k∈p.ready E->k∈R:=λk Y=>by
   simp only[Plan.ready,gR,uM,zJ,EX,JW,decide_eq_false_iff_not,oD,decide_eq_true_eq]at Y;obtain⟨t,d,U⟩:=Y;have Z:=af;simp only[NJ,oD,uM,Ec,JW,decide_eq_true_eq]at Z;rcases Z k t with(h2|h2)|h2;exact absurd ((F k).2 (.inr h2)) d;apply QB;intro h3;exact d ((F k).2 (.inl ⟨h2,h3⟩))
   cases R with
   |nil=>simp at hR|cons r R=>
    have y:=g r EV;have h4:=U r (h2 r y);rcases(F r).1 h4 with h5|h5;exact absurd EV h5.2;exact absurd h5 (A r y)
  have aa:∀(fuel:Nat),(∀(c:Array Bool)(a:Act)(w:World),Drawn P G N h0 φ0 T0 w0 p E st c a w->Kt c p.hops.length<=fuel->wpAnyIn (fe ro) 0 P .any ops Q fuel c a w) ->
   ∀(c:Array Bool)(a:Act)(w:World),Drawn P G N h0 φ0 T0 w0 p E st c a w->Kt c p.hops.length<=fuel+1->∀i∈Region.ready .any ops c,wpOpIn (fe ro) 0 P ops Q i (wpAnyIn (fe ro) 0 P .any ops Q fuel (c.setIfInBounds i true)) a w:=by
   intro fuel ih c a w v hf i hi;obtain⟨ak,S,_,ad⟩:=uG hp v hi;have aj:Kt (c.setIfInBounds i true) p.hops.length<=fuel:=by have:=L7 (by rw[v.size];exact S) ak S;omega
   by_cases W:i∈E;exact WJ hp hh v hi W λa' w' X=>ih _ a' w' X aj;have al:i∈p.ready E:=by simp only[Plan.ready,gR,uM,zJ,EX,JW,decide_eq_false_iff_not,oD,decide_eq_true_eq];exact⟨S,W,λq I=>v.sub q (ad q I)⟩
   have ai:=ac i al;have D:=g i ai;obtain⟨o,z⟩:=B i D;obtain⟨j,hj,V⟩:=List.mem_iff_getElem.1 ai;have an:(R.map λi=>(p.hops[i]?).getD default)[j]?=some o:=by simp[hj,V,z]
   have f:=hw j o an;have m:∀k,k∈R.eraseIdx j↔k∈R/\k≠i:=λk=>by rw[List.mem_eraseIdx_iff_getElem];constructor;rintro⟨q,I,am,rfl⟩;exact⟨eQ I,λe=>am ((C9 O).1 (e.trans V.symm))⟩;rintro⟨Z,h2⟩;obtain⟨q,I,rfl⟩:=List.mem_iff_getElem.1 Z;exact⟨q,I,λe=>h2 (by subst e;exact V),rfl⟩
   have M:∀q∈p.pend (i::E),q∈(E0.filter p.quiet).filterMap λq=>p.hops[q]?:=λq I=>by simp only[Plan.pend,aBJ,gR,zJ]at I⊢;obtain⟨k,⟨t,d,_⟩,U⟩:=I;refine⟨k,⟨?_,d⟩,U⟩;rcases cS.1 t with rfl|t;rw[C k D]at d;simp at d;rcases(F k).1 t with h5|h5;rw[C k h5.1]at d;simp at d;exact h5
   have L:∀s,qL G s ((E0.filter p.quiet).filterMap λq=>p.hops[q]?)->qL G s (if iE o.op then [] else p.pend (i::E)):=λs hc=>by split;trivial;exact aCp M hc
   refine WK hp hh v hi W (C i D) z (K:=λx T=>IH P G ((E0.filter p.quiet).filterMap λq=>p.hops[q]?) n ((R.eraseIdx j).map λi=>(p.hops[i]?).getD default) ⟨st.r,fV st.s o.dst x,T⟩ K) ?_ ?_;have ae:(R.map λi=>(p.hops[i]?).getD default).eraseIdx j=(R.eraseIdx j).map λi=>(p.hops[i]?).getD default:=CD _ R j;rw[ae]at f
   cases ab:fY st.s o.guard with
   |none=>rw[ab]at f;exact f|some b=>
    rw[ab]at f
    cases b with
    |true=>exact Cg (λx T ⟨Z,h2⟩=>⟨L _ Z,h2⟩) f|false=>exact⟨L _ f.1,f.2⟩
   intro x T a' w' Y X;refine NS hp hh C B af A J n (R.eraseIdx j) (i::E) _ (by rw[Rg hj];omega) (λk Y=>g k ((m k).1 Y).1) (λk=>?_) (O.eraseIdx j) Y fuel _ a' w' X aj;rw[cS,F,m];constructor;rintro(rfl|h|h);exact .inl ⟨D,λh=>h.2 rfl⟩;exact .inl ⟨h.1,λh2=>h.2 h2.1⟩;exact .inr h;rintro(h|h);by_cases ah:k=i;exact .inl ah;exact .inr (.inl ⟨h.1,λh2=>h.2 ⟨h2,ah⟩⟩);exact .inr (.inr h)
  intro fuel
  induction fuel with
  | zero=>
   intro c a w v hf;exfalso;have u:=IX (Tb.1 hf)
   cases R with
   |nil=>simp at hR|cons r R=>
    have y:=g r EV;obtain⟨o,z⟩:=B r y;have h4:=v.sub r (u r (aQ6.1 z).1);rcases(F r).1 h4 with h5|h5;exact absurd EV h5.2;exact absurd h5 (A r y)
  | succ fuel ih=>
   intro c a w v hf;refine⟨λy=>?_,aa fuel (λl a w=>ih l a w) c a w v hf⟩;exfalso;have u:=Jh hp v.size y
   cases R with
   |nil=>simp at hR|cons r R=>
    have y:=g r EV;obtain⟨o,z⟩:=B r y;have h4:=v.sub r (u r (aQ6.1 z).1);rcases(F r).1 h4 with h5|h5;exact absurd EV h5.2;exact absurd h5 (A r y)
def DK (m:PlanOk p ops) (W:∀(i:Nat) U,p.hops[i]?=some U->∃o,ops[i]?=some o/\(qP P N ops o).map (Gu H)=some U) {K:St->Prop}
 (hn:∀M J F,K M->SInv P G N h0 φ0 T0 w0 M J F->Q .normal J F):∀(n:Nat)(I:Bool)(E:O3)(st:St),vU P G p n I E st K ->
 ∀(fuel:Nat)(b:Array Bool)(a:Act)(w:World),Drawn P G N h0 φ0 T0 w0 p E st b a w->Kt b p.hops.length<=fuel->wpAnyIn (fe ro) 0 P .any ops Q fuel b a w
 |0,I,E,st,g=>g.elim| n+1,I,E,st,g=>by
  intro fuel b a w d v;simp only[vU]at g;split at g;rename_i i X;have e:=Mg X;have R:=aGO X;split at g;rename_i o U;split at g;rename_i A;split at g;rename_i x T' z;exact DK m W hn n I (i::E) _ g fuel b a w (L8 m d e R U (.inl ⟨A,T',z⟩)) v;exact g.elim;rename_i A;exact DK m W hn n I (i::E) _ g fuel b a w (L8 m d e R U (.inr ⟨A,rfl⟩)) v;exact g.elim;exact g.elim;rename_i B;have ac:∀i∈p.ready E,p.quiet i=false:=λi V=>by have:=Eb.1 B i V;simpa using this
  have L:∀(fuel:Nat),(∀(b:Array Bool)(a:Act)(w:World),Drawn P G N h0 φ0 T0 w0 p E st b a w->Kt b p.hops.length<=fuel->wpAnyIn (fe ro) 0 P .any ops Q fuel b a w) ->
   ∀(b:Array Bool)(a:Act)(w:World),Drawn P G N h0 φ0 T0 w0 p E st b a w->Kt b p.hops.length<=fuel+1->∀i∈Region.ready .any ops b,wpOpIn (fe ro) 0 P ops Q i (wpAnyIn (fe ro) 0 P .any ops Q fuel (b.setIfInBounds i true)) a w:=by
   intro fuel ih b a w d v i V;obtain⟨u,j,_,S⟩:=uG m d V;have Y:Kt (b.setIfInBounds i true) p.hops.length<=fuel:=by have:=L7 (by rw[d.size];exact j) u j;omega
   by_cases C:i∈E;exact WJ m W d V C λJ F D=>ih _ J F D Y;have e:i∈p.ready E:=by simp only[Plan.ready,gR,uM,zJ,EX,JW,decide_eq_false_iff_not,oD,decide_eq_true_eq];exact⟨j,C,λq hq=>d.sub q (S q hq)⟩
   split at g;rename_i z;rw[z]at e;simp at e;rename_i c cs z;rw[z]at e;obtain⟨o,h1,h3⟩:=g i e;exact WK m W d V C (ac i (by rw[z];exact e)) h1 (K:=λy T=>vU P G p n (I||!cs.isEmpty) (i::E) ⟨st.r,fV st.s o.dst y,T⟩ K) h3 λy T J F hk D=>DK m W hn n _ (i::E) _ hk fuel _ J F D Y
  have aa:∀(b:Array Bool)(a:Act)(w:World),Drawn P G N h0 φ0 T0 w0 p E st b a w->(∀i,i<p.hops.length->b.getD i false=true)->Q .normal a w:=by
   intro b a w d f;split at g;obtain⟨s',hs,hS⟩:=d.inv;have Z:SInv P G N h0 φ0 T0 w0 st a w:=by
    obtain⟨O,_,⟨h,φ,hG,hE,hI,ae⟩,ab,ad⟩:=hS;refine⟨O,d.once,⟨h,φ,hG,hE,hI,λt=>?_⟩,ab,ad⟩;have h1:=ae t;rcases hs t with h2|⟨k,ok,h2,h3,_⟩
    simp only at h1;rw[h2]at h1;exact h1;rw[f k (d.lt k h2)]at h3;simp at h3
   apply hn _ a w g;split;exact Ep _ Z;exact Z;rename_i c cs z;have hc:c∈p.ready E:=by rw[z];simp
   simp only[Plan.ready,gR,uM,zJ,EX,JW,decide_eq_false_iff_not]at hc;exact absurd (d.sub c (f c hc.1)) hc.2.1
  refine(?_:∀(fuel:Nat)(b:Array Bool)(a:Act)(w:World),Drawn P G N h0 φ0 T0 w0 p E st b a w->Kt b p.hops.length<=fuel->wpAnyIn (fe ro) 0 P .any ops Q fuel b a w) fuel b a w d v;clear v d b a w fuel;intro fuel b a w
  induction fuel generalizing b a w with
  | zero=>
   intro d v;have f:=IX (Tb.1 v);refine⟨?_,aa b a w d f⟩
   cases O:Region.ready .any ops b with
   |nil=>rfl|cons i l=>
    obtain⟨u,j,_,_⟩:=uG m d (i:=i) (by rw[O];simp);rw[f i j]at u;simp at u
  |succ fuel ih=>
   intro d v;exact⟨λO=>aa b a w d (Jh m d.size O),L fuel (λl a w=>ih l a w) b a w d v⟩
def Es (hp:PlanOk p ops) (hh:∀(i:Nat) ho,p.hops[i]?=some ho->∃o,ops[i]?=some o/\(qP P N ops o).map (Gu H)=some ho) {K:St->Prop}
  (hn:∀st' a' w',K st'->SInv P G N h0 φ0 T0 w0 st' a' w'->Q .normal a' w'):∀(n:Nat)(gc:Bool)(E:O3)(hd:HD)(st:St),LH p n gc E=some hd->JV P G hd st K ->
  ∀(fuel:Nat)(listed:Array Bool)(a:Act)(w:World),Drawn P G N h0 φ0 T0 w0 p E st listed a w->Kt listed p.hops.length<=fuel->wpAnyIn (fe ro) 0 P .any ops Q fuel listed a w
 |0,gc,E,hd,st,hm,_=>by simp[LH]at hm
 | n+1,gc,E,hd,st,hm,hw=>by
  intro fuel listed a w hJ hf;simp only[LH]at hm;split at hm
  ·
   rename_i i hfi;have hri:=Mg hfi;have hqi:=aGO hfi;split at hm
   ·rename_i o ho
    cases hx:LH p n gc (i::E) with
    |none=>simp[hx]at hm
    | some hd'=>
     simp only[hx,iX,O7]at hm;subst hm;simp only[JV]at hw;split at hw
     ·rename_i hwt;split at hw
      ·rename_i x T' he;exact Es hp hh hn n gc (i::E) hd' _ hx hw fuel listed a w (L8 hp hJ hri hqi ho (.inl ⟨hwt,T',he⟩)) hf
      ·exact hw.elim
     ·rename_i hwt;exact Es hp hh hn n gc (i::E) hd' _ hx hw fuel listed a w (L8 hp hJ hri hqi ho (.inr ⟨hwt,rfl⟩)) hf
     ·exact hw.elim
   ·simp at hm
  ·rename_i hnone;have hnq:∀i∈p.ready E,p.quiet i=false:=λi hi=>by have:=Eb.1 hnone i hi;simpa using this
   by_cases hperm:∃c cs,p.ready E=c::cs/\(8<=cs.length&&NJ p E (c::cs)&&(Vs p n true ((c::cs)++E)).isSome)=true
   ·obtain⟨c,cs,he,hb⟩:=hperm;rw[he]at hm;simp only[hb,if_true]at hm
    cases hq:Vs p n true ((c::cs)++E) with
    |none=>rw[hq]at hm;simp at hm
    | some x=>
     rw[hq]at hm;simp only[iX,O7]at hm;subst hm;simp only[JV]at hw;rw[aP]at hw;have hb2:NJ p E (c::cs)=true:=by simp only[zJ]at hb;exact hb.1.2
     have hmem:∀i∈c::cs,i<p.hops.length/\i∉E:=λi hi=>by rw[<-he]at hi;simp only[Plan.ready,gR,uM,zJ,EX,JW,decide_eq_false_iff_not]at hi;exact⟨hi.1,hi.2.1⟩
     have hnd:(c::cs).Nodup:=by rw[<-he];exact List.Pairwise.filter _ aBT
     exact NS hp hh (l:=c::cs) (E0:=E) (λi hi=>hnq i (by rw[he];exact hi)) (λi hi=>⟨_,jN (hmem i hi).1⟩) hb2 (λi hi=>(hmem i hi).2)
      (λE2 st2 hE2 hk fuel listed a w hJ hf=>Es hp hh hn n true E2 x st2 (NR _ _ _ _ ((Qh n true E2 _ hE2).trans hq)) hk fuel listed a w hJ hf)
      (c::cs).length (c::cs) E st rfl (λ_ h=>h) (λi=>⟨λh=>.inr h,λh=>h.elim (λh=>absurd h.1 h.2) id⟩) hnd hw fuel listed a w hJ hf
   by_cases hplan:∃c cs,p.ready E=c::cs/\(!cs.isEmpty&&12<=((List.range p.hops.length).filter λk=>!E.contains k&&!p.quiet k).length)=true
   ·obtain⟨c,cs,he,hb⟩:=hplan;rw[he]at hm;simp only at hm;rw[if_neg (λh=>hperm ⟨c,cs,he,h⟩),if_pos hb]at hm;injection hm with hm;subst hm;simp only[JV]at hw;exact DK hp hh hn n gc E st hw fuel listed a w hJ hf
   replace hm:(match p.ready E with
    |[]=>some (.done gc)
    |c::cs=>(c::cs).foldr (λi acc=>match acc,p.hops[i]?,LH p n (gc||(!p.ng&&!cs.isEmpty)) (i::E) with
     |some t,some o,some x=>some (.alt o (if iE o.op then [] else p.pend (i::E)) x t)
     |_,_,_=>none) (some .no))=some hd:=by
    cases he:p.ready E with
    |nil=>rw[he]at hm;exact hm
    |cons c cs=>
     rw[he]at hm;simp only at hm⊢;rw[if_neg (λh=>hperm ⟨c,cs,he,h⟩),if_neg (λh=>hplan ⟨c,cs,he,h⟩)]at hm;exact hm
   have step:∀(fuel:Nat),(∀(listed:Array Bool)(a:Act)(w:World),Drawn P G N h0 φ0 T0 w0 p E st listed a w->Kt listed p.hops.length<=fuel->wpAnyIn (fe ro) 0 P .any ops Q fuel listed a w) ->
     ∀(listed:Array Bool)(a:Act)(w:World),Drawn P G N h0 φ0 T0 w0 p E st listed a w->Kt listed p.hops.length<=fuel+1->∀i∈Region.ready .any ops listed,wpOpIn (fe ro) 0 P ops Q i (wpAnyIn (fe ro) 0 P .any ops Q fuel (listed.setIfInBounds i true)) a w:=by
    intro fuel ih listed a w hJ hf i hi;obtain⟨hul,hlt,_,hpre⟩:=uG hp hJ hi;have hf':Kt (listed.setIfInBounds i true) p.hops.length<=fuel:=by have:=L7 (by rw[hJ.size];exact hlt) hul hlt;omega
    by_cases hiE:i∈E
    ·exact WJ hp hh hJ hi hiE λa' w' hJ'=>ih _ a' w' hJ' hf'
    ·have hri:i∈p.ready E:=by simp only[Plan.ready,gR,uM,zJ,EX,JW,decide_eq_false_iff_not,oD,decide_eq_true_eq];exact⟨hlt,hiE,λq hq=>hJ.sub q (hpre q hq)⟩
     split at hm
     ·rename_i he;rw[he]at hri;simp at hri
     ·rename_i c cs he;rw[he]at hri;obtain⟨o,x,h1,h2,h3⟩:=T7 hm hw i hri;exact WK hp hh hJ hi hiE (hnq i (by rw[he];exact hri)) h1 h3 λy T a' w' hk hJ'=>Es hp hh hn n _ (i::E) x _ h2 hk fuel _ a' w' hJ' hf'
   have fin:∀(listed:Array Bool)(a:Act)(w:World),Drawn P G N h0 φ0 T0 w0 p E st listed a w->(∀i,i<p.hops.length->listed.getD i false=true)->Q .normal a w:=by
    intro listed a w hJ hall;split at hm
    ·injection hm with hm;subst hm;simp only[JV]at hw;obtain⟨s',hs,hS⟩:=hJ.inv;have hS':SInv P G N h0 φ0 T0 w0 st a w:=by
      obtain⟨hr,_,⟨h,φ,hG,hE,hI,hSl⟩,hsz,hdf⟩:=hS;refine⟨hr,hJ.once,⟨h,φ,hG,hE,hI,λt=>?_⟩,hsz,hdf⟩;have h1:=hSl t;rcases hs t with h2|⟨k,ok,h2,h3,_⟩
      ·simp only at h1;rw[h2]at h1;exact h1
      ·rw[hall k (hJ.lt k h2)]at h3;simp at h3
     apply hn _ a w hw;split
     ·exact Ep _ hS'
     ·exact hS'
    ·rename_i c cs he;have hc:c∈p.ready E:=by rw[he];simp
     simp only[Plan.ready,gR,uM,zJ,EX,JW,decide_eq_false_iff_not]at hc;exact absurd (hJ.sub c (hall c hc.1)) hc.2.1
   refine(?_:∀(fuel:Nat)(listed:Array Bool)(a:Act)(w:World),Drawn P G N h0 φ0 T0 w0 p E st listed a w->Kt listed p.hops.length<=fuel->wpAnyIn (fe ro) 0 P .any ops Q fuel listed a w) fuel listed a w hJ hf;clear hf hJ listed a w fuel;intro fuel listed a w
   induction fuel generalizing listed a w with
   | zero=>
    intro hJ hf;have hall:=IX (Tb.1 hf);refine⟨?_,fin listed a w hJ hall⟩
    cases hr:Region.ready .any ops listed with
    |nil=>rfl
    |cons i l=>
     obtain⟨hul,hlt,_,_⟩:=uG hp hJ (i:=i) (by rw[hr];simp);rw[hall i hlt]at hul;simp at hul
   |succ fuel ih=>
    intro hJ hf;exact⟨λhr=>fin listed a w hJ (Jh hp hJ.size hr),step fuel (λl a w=>ih l a w) listed a w hJ hf⟩
def WM {p:HD} {K:St->Prop} (c:IW P N H ops=some p) (A:JV P G p st K) (y:SInv P G N h0 φ0 T0 w0 st a w)
 (C:∀d z r,K d->SInv P G N h0 φ0 T0 w0 d z r->Q .normal z r):wpAnyIn (fe ro) 0 P .any ops Q ops.size (Array.replicate ops.size false) a w:=by
 unfold IW at c;split at c;simp at c;rename_i I q;simp only at c;generalize WG ops.toList []++(if(H.any λx=>x.2.2==1002)=true then [[]] else [])=pr at c;split at c;rename_i b;simp only[zJ,beq_iff_eq]at b;obtain⟨D,g,f⟩:=X9.1 q;obtain⟨u,e⟩:=Ku g;have B:=aF4 b.2 b.1;have n:∀i,(Array.replicate ops.size false).getD i false=false:=λi=>by simp[TR,Array.getElem?_replicate];split<;>rfl
 refine Es (H:=H) B (λi F v=>?_) C _ _ [] p st c A _ _ a w ⟨by simpa using b.2.symm,k_,λi h=>by rw[n]at h;simp at h,λi h=>by rw[n]at h;simp at h,k_,k_,k_,y.once,st.s,λt=>.inl rfl,y⟩ ?_;rw[<-f,gE]at v;obtain⟨j,l,k⟩:=X9.1 v;obtain⟨o,E,h2⟩:=e i j l;exact⟨o,by simpa using E,by rw[h2,iX,k]⟩;have:∀m,Kt (Array.replicate ops.size false) m=m:=λm=>by
  induction m with
  |zero=>rfl|succ m ih=>simp only[Kt,ih,n];simp
 rw[this];exact Nat.le_of_eq b.2;simp at c
end
def SInv.drawn{P:Program}{G:L_}{N:Nat}{h0:GH}{φ0:Nat->Value}{T0:aK}{w0:World}{st:St}{a:Act}{w:World}(j:SInv P G N h0 φ0 T0 w0 st a w):
 SInv P G N h0 φ0 T0 w0 st a {w with drawn:=w.drawn+1}:=by
 obtain⟨i,c,⟨h,g,k,b,hI,f⟩,d,e⟩:=j;exact⟨i,c,⟨h,g,k,⟨b.os,b.tape,b.output,b.size,b.frame,b.le,b.gfr,b.phi,b.org,b.len,uR b.drawn (Kl _)⟩,⟨hI.gh,hI.obj,hI.dis⟩,f⟩,d,e⟩
def aN9{T:aK}{i:Nat}{o:AObj}(e:T[i]?=some (some o)):i<T.length:=by rcases eD i T.length with a|a;exact a;rw[sX a]at e;simp at e
def F2{w:World}{l:Nat}{o:Obj}(e:w.heap[l]?=some o):l<w.heap.size:=by rcases eD l w.heap.size with a|a;exact a;rw[Hz a]at e;simp at e
section
variable{h h' h2:GH}{φ φ' φ2:Nat->Value}{T T' X:aK}{w w' w3:World}{l:Nat}
def aRz(hI:Inv h φ w T)(j:∀i x,T[i]?=some (some x)->kI (φ i)≠some l)(k:h l=none)(o:Obj):Inv h φ (w.putObj l o) T:=by refine⟨λb n e=>?_,λi x e=>?_,hI.dis⟩;obtain⟨E,m,f⟩:=hI.gh b n e;refine⟨E,m,?_⟩;rw[World.putObj_heap_other (λa=>by subst a;rw[k]at e;simp at e)];exact f;have d:=hI.obj i x e;exact qN d (CA.refl h) (cN _) (λ_ _=>rfl) (aN9 e) λg a=>⟨World.putObj_heap_other λc=>j i x e (c ▸ a),(iT d a).2⟩
def aF5(a:Evo h φ T w h' φ' T' w')(o:Obj):Evo h φ T (w.putObj l o) h' φ' T' (w'.putObj l o):=by refine⟨a.os,a.tape,a.output,by simpa using a.size,λb d f=>?_,a.le,λb g e=>?_,a.phi,λi o b e d=>?_,a.len,a.drawn⟩;rw[World.putObj_size]at d;by_cases c:b=l;subst c;rw[World.putObj_heap_same d,World.putObj_heap_same (CV d a.size)];rw[World.putObj_heap_other c,World.putObj_heap_other c];exact a.frame b d f;rw[World.putObj_size];exact a.gfr b g e;rw[World.putObj_size];exact a.org i o b e d
def aCq(hI:Inv h φ w T){i:Nat}{r:Loop}{s:List (Nat×AV)}(a:cR T i=some (.lp r s)):
 ∃l:Nat,φ i=.func (.yield l) #[] #[]/\w.heap[l]?=some (.loop r)/\h l=none/\(∀i x y,(i,x)∈s->(i,y)∈s->x=y)/\∀p∈s,Rp h φ T.length p.2 (r.tmps.getD p.1 undef):=hI.obj i _ (bH a)
def aCr(hI:Inv h φ w T){i:Nat}{r:Loop}{s:List (Nat×AV)}(d:cR T i=some (.lp r s))(a:φ i=.func (.yield l) #[] #[]):∀j x,(T.set i none)[j]?=some (some x)->kI (φ j)≠some l:=by
 intro j x e f;rcases oM e with⟨_,c⟩|⟨b,c⟩
 simp at c;exact b (hI.dis j i x _ l c (bH d) f sf)
def aRA(hI:Inv h φ w T){i:Nat}{r:Loop}{s:List (Nat×AV)}(F:cR T i=some (.lp r s))(m:φ i=.func (.yield l) #[] #[]){S:Obj}
 (c:Evo h φ (T.set i none) (w.putObj l S) h2 φ2 X w3) (R:Inv h2 φ2 w3 X) (z:Loop) (U:z.tmps=r.tmps):
 Evo h φ T w h2 φ2 (X.set i (some (.lp z s))) (w3.putObj l (.loop z))/\Inv h2 φ2 (w3.putObj l (.loop z)) (X.set i (some (.lp z s))):=by
 obtain⟨l',A,e2,e3,e4,e5⟩:=aCq hI F;rw[m]at A;injection A with A _ _;cases A;have W:l<w.heap.size:=F2 e2;have E:=YR F;have v:=aCr hI F m;have y:T.length<=X.length:=by have:=c.len;rwa[cL]at this
 have D:l<w3.heap.size:=by have:=c.size;rw[World.putObj_size]at this;omega
 have f:φ2 i=.func (.yield l) #[] #[]:=by rw[c.phi i (by rw[cL];exact E)];exact m
 have K:∀j x b,(T.set i none)[j]?=some (some x)->kI (φ j)=some b->∃j o,T[j]?=some (some o)/\kI (φ j)=some b:=by
  intro j x b e u;rcases oM e with⟨_,q⟩|⟨_,q⟩
  simp at q;exact⟨j,x,q,u⟩
 have g:∀j o,X[j]?=some (some o)->kI (φ2 j)≠some l:=by
  intro j o e u;rcases c.org j o l e u with a|⟨C,B,a,h2⟩
  rw[World.putObj_size]at a;omega;exact v C B a h2
 have G:h2 l=none:=by
  cases Y:h2 l with
  |none=>rfl|some N=>
   rcases c.gfr l N Y with a|a|⟨j,o,a,h2⟩
   rw[e3]at a;simp at a;rw[World.putObj_size]at a;omega;exact absurd h2 (v j o a)
 have H:=aRz R g G (.loop z);refine⟨⟨c.os,c.tape,c.output,by have:=c.size;simpa using this,λb u Q=>?_,c.le,λb N e=>?_,λj L=>c.phi j (by rw[cL];exact L),λj o b e u=>?_,by rw[cL];exact y,c.drawn⟩,⟨H.gh,λj o e=>?_,λj k P O b M Z d n=>?_⟩⟩;have t:b≠l:=λt=>Q i _ (bH F) (by rw[m,t];rfl);rw[World.putObj_heap_other t,c.frame b (by rw[World.putObj_size];exact u) λj o M d=>?_,World.putObj_heap_other t];obtain⟨C,B,a,h2⟩:=K j o b M d;exact Q C B a h2;rcases c.gfr b N e with a|a|⟨j,o,a,h2⟩
 exact .inl a;rw[World.putObj_size]at a;exact .inr (.inl a);exact .inr (.inr (K j o b a h2));rcases oM e with⟨rfl,_⟩|⟨_,q⟩
 rw[f]at u;exact .inr ⟨j,_,bH F,by rw[m];exact u⟩;rcases c.org j o b q u with a|⟨C,B,a,h2⟩
 rw[World.putObj_size]at a;exact .inl a;exact .inr (K C B b a h2);rw[cL];rcases oM e with⟨rfl,q⟩|⟨_,q⟩
 cases q;refine⟨l,f,World.putObj_heap_same D,G,e4,λp V=>?_⟩;rw[U];exact(e5 p V).mono c.le y λj L=>c.phi j (by rw[cL];exact L);exact H.obj j o q;rcases oM M with⟨rfl,_⟩|⟨_,J⟩<;>rcases oM Z with⟨rfl,_⟩|⟨_,I⟩
 rfl;rw[f]at d;simp only[kI,O7]at d;subst d;exact absurd n (g k O I);rw[f]at n;simp only[kI,O7]at n;subst n;exact absurd d (g j P J);exact R.dis j k P O b J I d n
def NT{d:O3}{q:Nat×AV}:∀{s:List (Nat×AV)},q∈Gr d s->q∈s|[],h=>by simp[Gr]at h| (i,x)::s,h=>by simp only[Gr]at h;split at h;rcases cS.1 h with h|h;simp[h];simp[NT h];simp[NT h]
def WN{n:Nat}{s:List (Nat×AV)}{t:Array Value}(a:∀p∈s,Rp h φ n p.2 (t.getD p.1 undef)):uN h φ n s ⟨t,[]⟩:=by intro i;rcases Rw (l:=s) (i:=i) with e|e;rw[e];simp[Rp];exact a _ e
def Qi{n:Nat}:∀{ps:O3}{xs:O0}{us:O5}{s:List (Nat×AV)}{t:Array Value},uN h φ n s ⟨t,[]⟩->Jc s->kR h φ n xs us->xs.length=ps.length->(∀p∈ps,p<t.size) ->
 uN h φ n (yJ s ps xs) ⟨(ps.zip us).foldl (λt(p,u)=>t.setIfInBounds p u) t,[]⟩/\Jc (yJ s ps xs)/\((ps.zip us).foldl (λt(p,u)=>t.setIfInBounds p u) t).size=t.size
 |[],[],us,s,t,a,c,b,_,_=>by simpa[yJ]using⟨a,c⟩|[],x::xs,us,s,t,a,c,b,d,_=>by simp at d|p::ps,[],us,s,t,a,c,b,d,_=>by simp at d|p::ps,x::xs,us,s,t,a,c,b,d,g=>by simp only[kR]at b;obtain⟨u,i,rfl,l,h2⟩:=b;have e:=IT (o:=some p) a l (λj f=>by cases f;exact g p k_);have:=Qi (t:=t.setIfInBounds p u) (s:=GW s p x) e (NF c p x) h2 d8 (λq k=>by rw[aBU];exact g q (by simp[k]));simpa only[yJ,List.zip_cons_cons,CW,aBU]using this
end
def IY(L:O3):O3->O3|[]=>L|i::r=>if L.contains i then IY L r else IY (i::L) r
def LI(L d:O3):O3:=L.filter λi=>!d.contains i
def aRB(b:Array Oper):List Oper->O3->O3->O3->O3×O3×O3
 |[],e,w,a=>(e,w,a)
 |o::f,e,w,a=>
  let g:=match o.guard with|some (j,_)=>(match(b[j]?).bind (·.dst) with|some d=>[d]|none=>[])|none=>[]
  let c:=LI (g++o.op.operands.toList.flatMap bG) w
  match o.dst with
  |some d=>aRB b f (IY e c) (d::w) (d::a)
  |none=>aRB b f (IY e c) w a
def atE:List (Nat×O3)->Nat->O3|[],_=>[]|(i,x)::r,j=>if i=j then x else atE r j
def qQ(d:List (Nat×O3))(e:O3):Code->O3->O3
 |.region _ f _,out=>let u:=aRB f f.toList [] [] [];IY u.1 (LI out u.2.1)|.seq a b,out=>qQ d e a (qQ d e b out)|.cond c a b,out=>IY (IY (bG c) (qQ d e a out)) (qQ d e b out)|.block i a,out=>qQ ((i,out)::d) e a out|.loop a,_=>qQ d e a []|.exit i,_=>atE d i|.ret,_=>e|.scope a,out=>qQ d e a out|.rangeFunc g ps a b,out=>
  let h:=d.map λp=>(p.1,([]:O3))
  IY (IY (IY (bG g) (LI (qQ h [] a (qQ h [] b [])) ps.toList)) out) (IY e (d.flatMap (·.2)))
 |_,out=>out
def Yl(d:O3)(h:HC):HC:=match d with|[]=>h|d=>.seq h (.kill d)
def Ym(d:O3)(h:HC):HC:=match d with|[]=>h|d=>.seq (.kill d) h
def aA9(a:O3):List (Nat×Option Nat×Nat)->HC->HC|[],h=>h|(j,c,k)::r,h=>aA9 a r (if a.contains j&&decide (k<1000) then .seq h (match k with|0=>.shut (c.getD j)|k=>.own j c k) else h)
def aHo(H:List (Nat×Option Nat×Nat)):Option Nat->Option Nat|none=>none|some d=>match H.find? λx=>x.1==d&&x.2.2==1000 with|some x=>some (x.2.1.getD d)|none=>none
def aCs(H:List (Nat×Option Nat×Nat)):List HOper->List HOper->HC|a,[]=>.reg a|a,o::b=>match aHo H o.dst with|some j=>.seq (.seq (.reg (a++[o])) (.shut j)) (aCs H [] b)|none=>aCs H (a++[o]) b
def cV(P:Program)(N:Nat)(H:List (Nat×Option Nat×Nat)):Code->List (Nat×O3)->O3->O3->Option HC
 |.skip,_,_,_=>some .skip|.region id j r,e,f,out=>
  let u:=aRB j j.toList [] [] []
  let k:=LI (IY u.2.2 (qQ e f (.region id j r) out)) out
  if r then(if P.follows .mixedOrders then(IW P N H j).map λd=>aA9 (LI u.2.2 k) H (Yl k (.regd d)) else none)
  else(aBB P N j j.toList).map λl=>aA9 (LI u.2.2 k) H (Yl k (aCs H [] l))
 |.seq a b,e,f,out=>match cV P N H a e f (qQ e f b out),cV P N H b e f out with|some x,some y=>some (.seq x y)|_,_=>none
 |.cond c a b,e,f,out=>
  let q:=qQ e f a out
  let o:=qQ e f b out
  let n:=IY (IY (bG c) q) o
  match cV P N H a e f out,cV P N H b e f out with
  |some x,some y=>some (.cond c (Ym (LI n q) x) (Ym (LI n o) y))|_,_=>none
 |.block i a,e,f,out=>(cV P N H a ((i,out)::e) f out).map λh=>aA9 [1000000+i] H (.block i h)|.loop a,e,f,_=>(cV P N H a e f (qQ e f a [])).map (.loop [])|.exit i,_,_,_=>some (.exit i)|.ret,_,_,_=>some .ret|.scope a,e,f,out=>cV P N H a e f out|.label _,_,_,_=>some .skip|.rangeFunc g ps a b,e,_,_=>
  let m:=e.map λp=>(p.1,([]:O3))
  match cV P N H a m [] (qQ m [] b []),cV P N H b m [] []with
  |some x,some y=>if ps.toList.all (· < N) then some (.rng g ps.toList (LI (qQ m [] a (qQ m [] b [])) ps.toList) x y) else none|_,_=>none
 |_,_,_,_=>none
structure HFun where
 nt:Nat
 res:List (Nat×Option (Option Nat))
 code:HC
 deriving Inhabited
def NU(P:Program):List ResultVar->Option (List (Nat×Option (Option Nat)))|[]=>some []|.tmp t::r=>(NU P r).map ((t,none)::·)|.cell a t::r=>match GY P t with|some n=>(NU P r).map ((a,some n)::·)|none=>none
def tF (P:Program) (f:FuncId) (H:List (Nat×Option Nat×Nat)):Option HFun :=
 match P.funcs[f]? with
 |none=>none| some a=>if a.name == "runtime.NumGoroutine" then none else match a.body,NU P a.results.toList with
  | some c,some d=>let b:=d.map (·.1)
   (cV P a.ntmps H c [] b b).map λh=>⟨a.ntmps,d,Ym (LI (List.range (a.params.size+a.nfree)) (qQ [] b c b)) h⟩
  |_,_=>none
section
variable{P:Program}{G:L_}{N:Nat}{H:List (Nat×Option Nat×Nat)}{h0:GH}{φ0:Nat->Value}{T0:aK}{w0:World}{a:Act}{w:World}
def exQ(Q:Ex->St->Prop):Exit->St->Prop|.normal,s=>Q .normal s|.exit i,s=>Q (.exit i) s|.ret,s=>Q .ret s|_,_=>False
def T9{p:Nat->Prop}(h:∃n,p n):∃n,p n/\∀m,m<n->¬p m:=by
 obtain⟨n,d⟩:=h
 induction n using Nat.strongRecOn with
 |_ n ih=>
  by_cases c:∃m,m<n/\p m;obtain⟨m,b,a⟩:=c;exact ih m b a;exact⟨n,d,λm b a=>c ⟨m,b,a⟩⟩
def SInv.kill{st:St}(p:SInv P G N h0 φ0 T0 w0 st a w)(d:O3):SInv P G N h0 φ0 T0 w0 ⟨st.r,aH8 d st.s,st.T⟩ a w:=by obtain⟨n,b,⟨h,j,q,t,hI,g⟩,c,f⟩:=p;have o:Jc (aH8 d st.s):=λi x y m k=>b i x y (IQ m) (IQ k);refine⟨n,o,⟨h,j,q,t,hI,λi=>?_⟩,c,f⟩;show Rp h j st.T.length (bA (aH8 d st.s) i) _;rcases Rw (l:=aH8 d st.s) (i:=i) with e|e;rw[e];simp[Rp];rw[<-NE b (IQ e)];exact g i
def aAa{d:O3}{c:HC}{Q:Ex->St->Prop}{st:St}(h:fZ P G (Yl d c) Q st):∃R:Ex->St->Prop,fZ P G c R st/\∀s,R .normal s->Q .normal s\/Q .normal ⟨s.r,aH8 d s.s,s.T⟩:=by
 cases d with
 |nil=>exact⟨Q,h,λs a=>.inl a⟩|cons i d=>exact⟨_,h,λs a=>.inr a⟩
def Ji {ro:Option Nat} {b:Array Oper} {Q:Exit->Act->World->Prop} {K:Ex->St->Prop}:∀{os acc:List HOper}{l1 l2:List Oper}{st:St}{a:Act}{w:World},aBB P N b l1=some acc->aBB P N b l2=some os->fZ P G (aCs H acc os) K st->SInv P G N h0 φ0 T0 w0 st a w ->
 (∀d m i,K .normal d->SInv P G N h0 φ0 T0 w0 d m i->Q .normal m i)->wpListIn (fe ro) 0 P b Q (l1++l2) a w
 |[],acc,l1,[],st,a,w,h,h2,c,g,f=>by rw[jO];exact aA7 h c g f|[],acc,l1,o::l2,st,a,w,h,h2,c,g,f=>by obtain⟨x,y,_,_,e⟩:=IV h2;simp at e
 |o::os,acc,l1,[],st,a,w,h,h2,c,g,f=>by simp[aBB]at h2|o::os,acc,l1,k::l2,st,a,w,h,h2,c,g,f=>by
  obtain⟨x,y,u,p,e⟩:=IV h2;cases e;have n:aBB P N b (l1++[k])=some (acc++[o]):=Ks h (by simp[aBB,u]);have r:l1++k::l2=(l1++[k])++l2:=k_;rw[r];simp only[aCs]at c;split at c;rename_i j v;simp only[fZ]at c;exact DJ n c g λd m i q l=>by have:=Ji (ro:=ro) (l1:=[]) (acc:=[]) rfl p q (l.shut j) f;simpa using this
  exact Ji (ro:=ro) n p c g f
def WO{d:O3}{l:HD}{Q:Ex->St->Prop}{st:St}(h:fZ P G (Yl d (.regd l)) Q st):
 ∃K:St->Prop,JV P G l st K/\∀s,K s->Q .normal s\/Q .normal ⟨s.r,aH8 d s.s,s.T⟩:=by
 cases d with
 |nil=>exact⟨Q .normal,h,λs a=>.inl a⟩|cons i d=>exact⟨_,h,λs a=>.inr a⟩
def R4{d:O3}{c:HC}{Q:Ex->St->Prop}{st:St}(h:fZ P G (Ym d c) Q st):fZ P G c Q st\/fZ P G c Q ⟨st.r,aH8 d st.s,st.T⟩:=by
 cases d with
 |nil=>exact .inl h|cons i d=>exact .inr h
def SInv.own {st:St} (t:SInv P G N h0 φ0 T0 w0 st a w) (j:Nat) (c:Option Nat) (k:Nat):SInv P G N h0 φ0 T0 w0 (QT st j c k) a w:=by
 have x:∀{h:GH}{φ:Nat->Value},Inv h φ w st.T->Evo h0 φ0 T0 w0 h φ st.T w ->
   Inv h (Zp φ st.T.length (.slice none 0 0)) w (st.T++[some (.arr k [])])/\Evo h0 φ0 T0 w0 h (Zp φ st.T.length (.slice none 0 0)) (st.T++[some (.arr k [])]) w:=by
  intro h φ hI y;have:=tL (w':=w) (o:=.arr k []) (v:=.slice none 0 0) hI rfl rfl rfl (cN _) (λ_ _=>rfl) (λg J=>by simp[kI]at J) ⟨k_,.inl ⟨none,bI,rfl⟩⟩;exact⟨this.1,y.trans this.2⟩
 cases c with
 | none=>
  simp only[QT];split;rename_i L;obtain⟨F,b,⟨h,φ,K,y,hI,f⟩,q,s⟩:=t;obtain⟨z,C⟩:=x hI y;have d:=f j;rw[L]at d;simp only[Rp]at d;refine⟨F,NF b _ _,⟨h,_,K,C,z,λi=>?_⟩,q,s⟩;rw[IP];split;rename_i e;subst e;simp only[Rp];exact⟨k_,by rw[d,bI],none,0,0,d⟩;exact(f i).mono (CA.refl h) k_ (λi I=>gN I);exact t
 | some c=>
  simp only[QT];split;rename_i i o L;split;rename_i O J;split;rename_i Q;obtain⟨F,b,⟨h,φ,K,y,hI,f⟩,q,s⟩:=t;obtain⟨z,C⟩:=x hI y;have r:=bH J;have H:i<st.T.length:=by rcases eD i st.T.length with A|A;exact A;rw[sX A]at r;simp at r
  have n:(st.T++[some (.arr k [])])[i]?=some (some (.box O)):=by rw[mY H];exact r
  obtain⟨g,B,E,U,S,R,M⟩:=z.obj i _ n
  have l:=Fw (w':=w) (o':=.box (O.set c (.own st.T.length))) z rfl rfl rfl (cN _) n (λ_ _ _=>rfl) (by
   refine⟨g,B,E,U,S,R,?_⟩;obtain⟨u,D,p⟩:=M.get Q;simp only[Rp]at p
   have:=M.set (m:=c) (c:=.own st.T.length) (u:=u) (by
    simp only[Rp]
    exact⟨k_,by rw[p,bI],none,0,0,p⟩)
   rwa[show B.toList.set c u=B.toList from by
    apply EW;intro m;rw[Hx];split;rename_i e;subst e;split;exact D.symm;rename_i A;rw[sX o_]
    rfl]at this)
  refine⟨F,b,⟨h,_,K,C.trans l.2,l.1,λi=>?_⟩,q,s⟩;exact(f i).mono (CA.refl h) k_ (λi I=>gN I);exact t;exact t;exact t
def R5 {n:O3}:∀{H:List (Nat×Option Nat×Nat)}{c:HC}{Q:Ex->St->Prop}{st:St},fZ P G (aA9 n H c) Q st->∃R:Ex->St->Prop,fZ P G c R st /\
 (∀s,R .normal s->∀(a:Act)(w:World),SInv P G N h0 φ0 T0 w0 s a w->∃m,Q .normal m/\SInv P G N h0 φ0 T0 w0 m a w)/\(∀i s,R (.exit i) s->Q (.exit i) s)/\(∀s,R .ret s->Q .ret s)
 |[],c,Q,st,h=>⟨Q,h,λs b a w f=>⟨s,b,f⟩,λ_ _ h=>h,λ_ h=>h⟩| (j,d,k)::r,c,Q,st,h=>by
  simp only[aA9]at h;obtain⟨R,e,h2,l,g⟩:=R5 h;split at e
  cases k with
  |zero=>
   simp only[fZ]at e;exact⟨_,e,λs b a w f=>h2 _ b a w (f.shut _),λi s b=>l i s b,λs b=>g s b⟩
  |succ k=>
   simp only[fZ]at e;exact⟨_,e,λs b a w f=>h2 _ b a w (f.own j d (k+1)),λi s b=>l i s b,λs b=>g s b⟩
  exact⟨R,e,h2,l,g⟩
def rM{b:Frame}{x:Code}{k:List Item}{cs:List Frame}:step P (lone (b.atR a (.code (.scope x)::k)) cs w)=.next (lone (b.atR a (.code x::.inScope x::k)) cs w):=
 step_lone_go (by simp[stepG,stepG.exec,Frame.atR])
def NV{b:Frame}{x:Code}{k:List Item}{cs:List Frame}:step P (lone (b.atR a (.inScope x::k)) cs w)=.next (lone (b.atR a k) cs w):=
 step_lone_go (by simp[stepG,stepG.exec,Frame.atR])
def UA{F:Fence}{n:Nat}{c:Code}{Q:Exit->Act->World->Prop}(h:c.wpIn F n P Q a w)(v:∀l a w,¬Q (.goto l) a w):(Code.scope c).wpIn F n P Q a w:=by
 intro b k cs o s q;have j:(lone (b.atR a (.code (.scope c)::k)) cs w).fenced P F:=fenced_calm s q rfl;obtain⟨e,g,d,i,f⟩:=h b (.inScope c::k) cs o s q
 cases e with
 |normal=>exact⟨.normal,g,d,i,.head j rM (StepsIn.trans f (.one (fenced_calm s q rfl) NV))⟩| exit id=>
  have t:exitTo id (.inScope c::k)=exitTo id k:=by simp[exitTo]
  exact⟨.exit id,g,d,i,λu r=>.head j rM (f.1 u (by rw[t];exact r)),
   λp r=>let⟨m,x,h2⟩:=f.2 p (by rw[t];exact r);⟨m,x,.head j rM h2⟩⟩
 |goto l=>exact absurd i (v l g d)|ret=>exact⟨_,g,d,i,.of_steps (.one j rM) f⟩|panic y=>exact⟨_,g,d,i,.of_steps (.one j rM) f⟩|outgrown=>exact⟨_,g,d,i,.of_steps (b:=b) (k:=k) (cs:=cs) (e:=.outgrown) (.one j rM) f⟩
def aF6(ro:Option Nat)(φ0:Nat->Value)(T0:aK)(w0:World):Prop:=∀l,ro=some l->(∃r,w0.heap[l]?=some (.loop r))/\∀i o,T0[i]?=some (some o)->kI (φ0 i)≠some l
def Jj(P:Program)(G:L_)(N:Nat)(H:List (Nat×Option Nat×Nat))(c:Code):Prop :=
 ∀{ro:Option Nat}{h0:GH}{φ0:Nat->Value}{T0:aK}{w0:World}{d:HC}{Q:Ex->St->Prop}{st:St}{a:Act}{w:World}{h:List (Nat×O3)}{g out:O3},aF6 ro φ0 T0 w0->cV P N H c h g out=some d->fZ P G d Q st->SInv P G N h0 φ0 T0 w0 st a w ->
  c.wpIn (fe ro) 0 P (λe i f=>∃b,exQ Q e b/\SInv P G N h0 φ0 T0 w0 b i f) a w
def UB {ca cb:Code} (ac:Jj P G N H ca) (ab:Jj P G N H cb) {ha hb:HC} {ps:O3} {aa:List (Nat×O3)} {ra oa v ob:O3} (ea:cV P N H ca aa ra oa=some ha) (eb:cV P N H cb aa v ob=some hb)
 (af:∀p∈ps,p<N) {r:Loop} (r1:r.state=.ready) (r2:r.pending=none) (r3:r.params.toList=ps) (r4:r.assign=ca) (r5:r.body=cb) (r6:N<=r.tmps.size)
 (i:Nat) (s:List (Nat×AV)) (T:aK) (args:O0) (post:AV->aK->Prop) (I:cR T i=some (.lp r s)) (hl:args.length=ps.length)
 (hw:fZ P G ha (λe s1=>match e with|.normal=>fZ P G hb (JZ i r s T.length post) s1|_=>False) ⟨T.length,yJ s ps args,T.set i none⟩):DA P G i args T post:=by
 intro h φ W k l hG hI hA w;obtain⟨l',J,e2,e3,e4,e5⟩:=aCq hI I;rw[w]at J;injection J with J _ _;cases J;have z:=F2 e2;have al:=hA.length;have V:r.params.size=ps.length:=by rw[<-r3,GV]
 have c:=aCr hI I w;have am:=YR I;refine⟨_,_,_,_,run_yield e2 (by rw[V,<-hl,al,GV]),?_⟩;obtain⟨p1,p2,p3⟩:=Qi (h:=h) (φ:=φ) (n:=T.length) (ps:=ps) (xs:=args) (us:=k.toList) (s:=s) (t:=r.tmps) (WN e5) e4 hA hl (λp hp=>CV (af p hp) r6);have C:(r.params.zip k).foldl (λQ(x:Tmp×Value)=>Q.setIfInBounds x.1 x.2) r.tmps=(ps.zip k.toList).foldl (λt(p,u)=>t.setIfInBounds p u) r.tmps:=by rw[<-Array.foldl_toList,Array.toList_zip,r3]
 rw[C];revert p1 p2 p3;generalize(ps.zip k.toList).foldl (λt(p,u)=>t.setIfInBounds p u) r.tmps=tm;intro p1 p2 p3;obtain⟨d1,d2⟩:=xI hI i
 have ak:SInv P G N h φ (T.set i none) W ⟨T.length,yJ s ps args,T.set i none⟩ ⟨tm,[]⟩ W :=
  ⟨k_,p2,⟨h,φ,hG,Evo.refl,d1,by simpa using p1⟩,by rw[p3];exact r6,by simp[Eo]⟩
 have ad:aF6 (some l) φ (T.set i none) W:=by intro l2 h2;cases h2;exact⟨⟨r,e2⟩,c⟩
 rw[r4,r5];refine roundIn_of_wpIn (F:=Fence.wide) trivial (wpIn_mono (ac (ro:=some l) ad ea hw ak) ?_);rintro e a1 w1 ⟨R,A,Z⟩
 cases e with
 | normal=>
  simp only[exQ]at A;have X:w1.heap[l]?=some (.loop r):=by obtain⟨_,_,⟨_,_,_,hE,_,_⟩,_,_⟩:=Z;rw[hE.frame l z c];exact e2
  refine⟨_,run_beginRound X r1,?_⟩;let v:Loop:={r with state:=.busy}
  have aj:SInv P G N h φ (T.set i none) (W.putObj l (.loop v)) R a1 (w1.putObj l (.loop v)):=by
   obtain⟨q1,q2,⟨g,q,q3,E,q5,q6⟩,q7,q8⟩:=Z;have S:∀j o,R.T[j]?=some (some o)->kI (q j)≠some l:=by
    intro j o e hb;rcases E.org j o l e hb with g|⟨j',o',g,h2⟩
    omega;exact c j' o' g h2
   have ah:g l=none:=by
    cases hh:g l with
    |none=>rfl|some cs=>
     rcases E.gfr l cs hh with g|g|⟨j,o,g,h2⟩
     rw[e3]at g;simp at g;omega;exact absurd h2 (c j o g)
   refine⟨q1,q2,⟨g,q,q3,aF5 E _,aRz q5 S ah _,q6⟩,q7,q8.1,λd hd=>?_⟩;obtain⟨D,f1,f2,f3⟩:=q8.2 d hd;refine⟨D,f1,by simpa using f2,?_⟩;rw[World.putObj_heap_other (λhD=>by subst hD;rw[X]at f3;simp at f3)];exact f3
  have U:aF6 (some l) φ (T.set i none) (W.putObj l (.loop v)):=by intro l2 h2;cases h2;exact⟨⟨v,World.putObj_heap_same z⟩,c⟩
  apply wpIn_mono (ab (ro:=some l) U eb A aj);rintro e a3 w3 ⟨m,a,Y⟩;have B:w3.heap[l]?=some (.loop v):=by obtain⟨_,_,⟨_,_,_,hE,_,_⟩,_,_⟩:=Y;rw[hE.frame l (by rw[World.putObj_size];exact z) c];exact World.putObj_heap_same z
  have hX:∀y:Bool,∃h2 f,Evo h φ (T.set i none) (W.putObj l (.loop v)) h2 f (if y then(DB [] ⟨T.length,[],m.T⟩).T else m.T) w3/\Inv h2 f w3 (if y then(DB [] ⟨T.length,[],m.T⟩).T else m.T):=by
   intro y;obtain⟨q1,q2,⟨g,q,q3,E,q5,q6⟩,q7,q8⟩:=Y
   cases y with
   |false=>exact⟨g,q,E,q5⟩|true=>
    have ai:SInv P G 0 h φ (T.set i none) (W.putObj l (.loop v)) ⟨T.length,[],m.T⟩ ⟨#[],[]⟩ w3:=⟨k_,λ_ _ _ hx=>by simp at hx,⟨g,q,q3,E,q5,λ_=>by simp[bA,Rp]⟩,pR _,by simp[Eo]⟩
    obtain⟨_,_,⟨h4,φ4,_,g1,g2,_⟩,_,_⟩:=Ep (st:=⟨T.length,[],m.T⟩) [] ai;exact⟨h4,φ4,g1,g2⟩
  cases e with
  | normal=>
   simp only[exQ,JZ]at a;obtain⟨y,a⟩:=a;obtain⟨h2,f,O,M⟩:=hX y;have b:=run_endRound (P:=P) none B;have ae:({v with state:=if(none:Option Code).isNone then .ready else .done,pending:=none}:Loop)=r:=by cases r;simp_all[v]
   rw[ae]at b;refine⟨_,_,b,_,rfl,_,_,h2,f,a,?_⟩;obtain⟨L,K⟩:=aRA hI I w O M r rfl;exact⟨L,K,x_⟩
  |exit id=>
   simp only[exQ,JZ]at a;obtain⟨y,a⟩:=a;obtain⟨h2,f,O,M⟩:=hX y;have b:=run_endRound (P:=P) (some (.exit id)) B;refine⟨_,_,b,_,rfl,_,_,h2,f,a,?_⟩;obtain⟨L,K⟩:=aRA hI I w O M (left r (.exit id)) rfl;exact⟨L,K,x_⟩
  |ret=>
   simp only[exQ,JZ]at a;obtain⟨y,a⟩:=a;obtain⟨h2,f,O,M⟩:=hX y;have b:=run_endRound (P:=P) (some .ret) B;refine⟨_,_,b,_,rfl,_,_,h2,f,a,?_⟩;obtain⟨L,K⟩:=aRA hI I w O M (left r .ret) rfl;exact⟨L,K,x_⟩
  |_=>exact a.elim
 |exit id=>exact A.elim|goto id=>exact A.elim|ret=>exact A.elim|panic id=>exact A.elim|outgrown=>exact A.elim
def IZ{f:FuncId}(b:Rl P f)(a:Array Value)(w:World):(callFunc f a).run P w=.ok (.enter f a) w:=by obtain⟨g,c,e,h2,d⟩:=b;simp[callFunc,e,d,h2]
def UC {ca cb:Code} (iha:Jj P G N H ca) (ihb:Jj P G N H cb) {g:Operand} {params:Array Tmp}:Jj P G N H (.rangeFunc g params ca cb):=by
 intro ro h0 φ0 T0 w0 hc Q st a w exs rt out hroo e hw hS;simp only[cV]at e;split at e
 ·rename_i ha hb ea eb;split at e
  ·rename_i hall;injection e with e;subst e;simp only[fZ]at hw;have hps:∀p∈params.toList,p<N:=λp hp=>by simpa using oD.1 hall p hp
   obtain⟨hr,honce,⟨h,φ,hG,hE,hI,hSl⟩,hsz,hdf⟩:=hS;apply wpIn_rangeFunc;intro fn _;rw[T4];have hent:∃(l:Nat)(mark:List Deferred)(w1:World)(df:Nat),(Instr.enterLoop fn a.tmps params ca cb ro).run P w=.ok (l,mark) w1/\w.heap.size<=l/\w1.os=w.os/\w1.tape=w.tape/\w1.output=w.output/\w1.drawn=w.drawn/\w.heap.size<=w1.heap.size /\
     (∀b,b<w.heap.size->w1.heap[b]?=w.heap[b]?)/\w1.heap[l]?=some (.loop {state:=.ready,pending:=none,fn,tmps:=a.tmps,params,assign:=ca,body:=cb,defers:=df}) /\
     (mark=[]\/∃D,mark=[{target:=.collected D,args:=#[]}]/\w.heap.size<=D/\w1.heap[D]?=some (.deferred (some []))):=by
    cases ro with
    |none=>
     refine⟨_,_,_,w.heap.size,run_enterLoop_outer fn a.tmps params ca cb,o_,rfl,rfl,rfl,rfl,by simp only[World.size_alloc];omega,λb hb=>?_,?_,.inr ⟨_,rfl,cN _,?_⟩⟩;rw[kX _ _ b f_,kX _ _ b hb];have:=World.alloc_heap_new (w.alloc (.deferred (some []))) (.loop {state:=.ready,pending:=none,fn,tmps:=a.tmps,params,assign:=ca,body:=cb,defers:=w.heap.size});rwa[World.size_alloc]at this;rw[kX _ _ _ k_];exact World.alloc_heap_new w _
    | some l0=>
     obtain⟨⟨r0,e0⟩,hoff0⟩:=hroo l0 rfl;have hl0:w.heap[l0]?=some (.loop r0):=by rw[hE.frame l0 (F2 e0) hoff0];exact e0
     refine⟨w.heap.size,[],w.alloc (.loop {state:=.ready,pending:=none,fn,tmps:=a.tmps,params,assign:=ca,body:=cb,defers:=r0.defers}),r0.defers,?_,cN _,rfl,rfl,rfl,rfl,k_,λb hb=>kX _ _ b hb,World.alloc_heap_new w _,.inl rfl⟩;unfold Instr.enterLoop;simp only[Sem.run_bind,run_getLoop hl0,Result.andThen_ok,Sem.run_pure,run_newObj_alloc]
   obtain⟨l,mark,w1,df,n1,n2,n3,n4,n5,n6,n7,n8,n9,n10⟩:=hent;revert n1 n9;generalize hrec:({state:=.ready,pending:=none,fn,tmps:=a.tmps,params,assign:=ca,body:=cb,defers:=df}:Loop)=r;intro n1 n9;have r1:r.state=.ready:=by rw[<-hrec]
   have r2:r.pending=none:=by rw[<-hrec]
   have r3:r.params=params:=by rw[<-hrec]
   have r4:r.assign=ca:=by rw[<-hrec]
   have r5:r.body=cb:=by rw[<-hrec]
   have r6:r.tmps=a.tmps:=by rw[<-hrec]
   have hw:=hw r r1 r2 (by rw[r3,GV]) (λi s T args post hi hl hcw=>UB iha ihb ea eb hps r1 r2 (by rw[r3]) r4 r5 (by rw[r6];exact hsz) i s T args post hi hl hcw);split at hw
   ·rename_i f caps hev;obtain⟨hgb,hw⟩:=hw;have hf:=dN hG hSl g;rw[hev]at hf;simp only[Rp]at hf;obtain⟨us,hu,hcs⟩:=hf;have hk:∀q∈Gr (LI (qQ (exs.map λp=>(p.1,([]:O3))) [] ca (qQ (exs.map λp=>(p.1,([]:O3))) [] cb [])) params.toList) st.s,q∈st.s:=λq hq=>NT hq;revert hk hw;generalize Gr (LI (qQ (exs.map λp=>(p.1,([]:O3))) [] ca (qQ (exs.map λp=>(p.1,([]:O3))) [] cb [])) params.toList) st.s=s0;intro hw hk;obtain⟨i1,i2⟩:=tL (w':=w1) (o:=AObj.lp r s0) (v:=Value.func (.yield l) #[] #[]) hI n3 n4 n5 n7 n8 (λg' hg'=>by simp only[kI,O7]at hg';omega)
     ⟨l,bI,n9,by
      cases hh:h l with
      |none=>rfl
      |some cs=>have:=Ca hI hh;omega,λj x y hx hy=>honce j x y (hk _ hx) (hk _ hy),λp hp=>by
      rw[r6,<-NE honce (show(p.1,p.2)∈st.s from hk p hp)]
      exact(hSl p.1).mono (CA.refl h) o_ λi hi=>gN hi⟩ (by rw[n6];exact cN _)
    have hargs:kR h (Zp φ st.T.length (Value.func (.yield l) #[] #[])) (st.T++[some (AObj.lp r s0)]).length (.yl st.T.length::caps) (#[Value.func (.yield l) #[] #[]]++us).toList:=by simp only[TV,jC,dM,kR];refine⟨_,_,rfl,?_,hcs.mono (CA.refl h) k_ λi hi=>gN hi⟩;simp only[Rp];exact⟨k_,bI.symm,l,rfl⟩
    refine⟨l,mark,w1,{target:=.fn (.func f) us,args:=#[.func (.yield l) #[] #[]]},w1,f,#[.func (.yield l) #[] #[]]++us,w1,n1,?_,λf' _=>Ye ro f',?_,λhh=>by rw[T5]at hh;simp at hh,?_⟩;simp only[resolve,hu];simp[go_sem];simp only[invoke];exact IZ hgb _ _
    ·rcases Ei hw hG i1 hargs with⟨_,hcall⟩|⟨v,w',e',_⟩
     rotate_left;rw[IZ hgb]at e';simp at e';refine(NG hcall).mono ?_;rintro e w3 ⟨v,rfl,rr,T2,h2,φ2,hK,hE2,hI2,_⟩;simp only[Vv]at hK;split at hK;rename_i rec s' hT2;obtain⟨hnb,hK⟩:=hK;obtain⟨l',e1,e2,e3,e4,e5⟩:=aCq hI2 hT2;have hφl:φ2 st.T.length=.func (.yield l) #[] #[]:=by rw[hE2.phi _ k_,bI]
     rw[hφl]at e1;injection e1 with e1 _ _;injection e1 with e1;subst e1;have hrun:=run_endLoop (P:=P) e2 hnb;have hset:=Fw (w':=w3.putObj l (.loop {rec with state:=.exhausted})) (o':=.lp {rec with state:=.exhausted} s') hI2 rfl rfl rfl k_ (bH hT2)
      (λb _ hne=>World.putObj_heap_other λhb=>hne (by rw[hφl,hb];rfl)) ⟨l,hφl,World.putObj_heap_same (F2 e2),e3,e4,e5⟩
     have hdrop:=xI hset.1 st.T.length;rw[List.set_set]at hdrop;have hEE:=((hE.trans i2).trans hE2).trans (hset.2.trans hdrop.2);have hdf4:Eo w0 {a with defers:=mark++a.defers} (w3.putObj l (.loop {rec with state:=.exhausted})):=by
      have hdf1:Eo w0 a w1:=by refine⟨hdf.1,λd hd=>?_⟩;obtain⟨D,f1,f2,f3⟩:=hdf.2 d hd;exact⟨D,f1,f2,by rw[n8 D (F2 f3)];exact f3⟩
      have hdf2:Eo w0 {a with defers:=mark++a.defers} w1:=by
       rcases n10 with rfl|⟨D,rfl,g1,g2⟩
       exact hdf1;refine⟨?_,λd hd=>?_⟩;rw[List.singleton_append,H5];refine⟨λd hd=>?_,hdf.1⟩;obtain⟨D',f1,f2,f3⟩:=hdf.2 d hd;rw[f1];intro hh;injection hh with hh;subst hh;have:=F2 f3;omega;rcases cG.1 hd with hd|hd;simp only[aE5]at hd;subst hd;exact⟨D,rfl,by have:=hE.size;omega,g2⟩;exact hdf1.2 d hd
      exact((hdf2.keep i1 hE2).keep hI2 hset.2)
     have hSf:SInv P G N h0 φ0 T0 w0 ⟨st.r,st.s,T2.set st.T.length none⟩ {a with defers:=mark++a.defers} (w3.putObj l (.loop {rec with state:=.exhausted})):=by
      refine⟨hr,honce,⟨h2,φ2,hG.mono hE2.le,hEE,hdrop.1,λi=>?_⟩,hsz,hdf4⟩;have hl2:=hE2.len;exact(hSl i).mono hE2.le (by rw[cL];simp at hl2;omega) λj hj=>by rw[hE2.phi j f_,gN hj]
     revert hrun hSf;generalize w3.putObj l (.loop {rec with state:=.exhausted})=w4;intro hrun hSf;refine⟨rec.pending,_,hrun,?_⟩;split at hK;rename_i hp;rw[hp];exact⟨_,hK,hSf⟩;rename_i id hp;rw[hp];exact wpIn_exit ⟨_,hK,hSf⟩;rename_i hp;rw[hp];exact wpIn_ret ⟨_,hK,hSf⟩;exact hK.elim;exact hK.elim
   exact hw.elim
  simp at e
 simp at e
def NW:∀(c:Code),Jj P G N H c:=by
 intro c
 induction c with
 |skip=>
  intro ro h0 φ0 T0 w0 B Q q a w k u out b e d p;simp only[cV,O7]at e;subst e;exact wpIn_skip ⟨q,d,p⟩
 |label l=>
  intro ro h0 φ0 T0 w0 B Q q a w k u out b e d p;simp only[cV,O7]at e;subst e;exact wpIn_label ⟨q,d,p⟩
 |scope x ih=>
  intro ro h0 φ0 T0 w0 B Q q a w k u out b e d p;simp only[cV]at e;exact UA (ih b e d p) λl a w ⟨_,h,_⟩=>h
 |rangeFunc g ps x y z v=>exact UC z v| region id F T=>
  intro ro h0 φ0 T0 w0 B Q q a w k u out b e d p
  cases T with
  | true=>
   simp only[cV,if_true]at e;split at e;rename_i hm
   cases L:IW P N H F with
   |none=>simp[L]at e|some hd=>
    simp only[L,iX,O7]at e;subst e;obtain⟨R,d,h2,_,_⟩:=R5 (N:=N) (h0:=h0) (φ0:=φ0) (T0:=T0) (w0:=w0) d;obtain⟨K,d,hK⟩:=WO d;refine wpIn_region_any hm (WM L d p.drawn λf s r Y j=>(hK f Y).elim (λo=>h2 f o s r j) λo=>h2 _ o s r (j.kill _))
   simp at e
  | false=>
   simp only[cV,jJ,if_false]at e
   cases L:aBB P N F F.toList with
   |none=>simp[L]at e|some hl=>
    simp only[L,iX,O7]at e;subst e;obtain⟨R,d,h2,_,_⟩:=R5 (N:=N) (h0:=h0) (φ0:=φ0) (T0:=T0) (w0:=w0) d;obtain⟨K,d,hK⟩:=aAa d;have:=Ji (H:=H) (ro:=ro) (l1:=[]) (acc:=[]) (Q:=λe s r=>∃f,exQ Q e f/\SInv P G N h0 φ0 T0 w0 f s r) rfl L d p λf s r Y j=>(hK f Y).elim (λo=>h2 f o s r j) λo=>h2 _ o s r (j.kill _);exact wpIn_region_list this
 | seq x y z v=>
  intro ro h0 φ0 T0 w0 B Q q a w k u out b e d p;simp only[cV]at e;split at e;rename_i C hy U h2;cases e;simp only[fZ]at d;refine wpIn_seq (wpIn_mono (z b U d p) λS s r ⟨f,o,j⟩=>?_)
  cases S with
  |normal=>exact v b h2 o j|exit i=>exact⟨f,o,j⟩|ret=>exact⟨f,o,j⟩|_=>exact o.elim
  simp at e
 | cond c x y z v=>
  intro ro h0 φ0 T0 w0 B Q q a w k u out b e d p;simp only[cV]at e;split at e;rename_i C hy U h2;cases e;simp only[fZ]at d;split at d;rename_i t ht;have j:=p;obtain⟨hr,W,⟨h,φ,hG,hE,hI,ab⟩,af,ai⟩:=j;apply wpIn_cond (t:=t) (lW hG ab ht);cases t;rcases R4 d with d|d;exact v b h2 d p;exact v b h2 d (p.kill _);rcases R4 d with d|d;exact z b U d p;exact z b U d (p.kill _);exact d.elim;simp at e
 | block id x ih=>
  intro ro h0 φ0 T0 w0 B Q q a w k u out b e d p;simp only[cV]at e
  cases C:cV P N H x ((id,out)::k) u out with
  |none=>simp[C]at e| some V=>
   simp only[C,iX,O7]at e;subst e;obtain⟨R,d,h2,h3,h4⟩:=R5 (N:=N) (h0:=h0) (φ0:=φ0) (T0:=T0) (w0:=w0) d;simp only[fZ]at d;refine wpIn_block (wpIn_mono (ih b C d p) λS s r ⟨f,o,j⟩=>?_)
   cases S with
   |normal=>exact h2 f o s r j|exit i=>
    simp only[exQ]at o;simp only[Exit.inBlock];split;rename_i Z;rw[if_pos Z]at o;exact h2 f o s r j;rename_i Z;rw[if_neg Z]at o;exact⟨f,h3 _ _ o,j⟩
   |ret=>exact⟨f,h4 _ o,j⟩|_=>exact o.elim
 | loop x ih=>
  intro ro h0 φ0 T0 w0 B Q q a w k u out b e d p;simp only[cV]at e
  cases C:cV P N H x k u (qQ k u x []) with
  |none=>simp[C]at e| some V=>
   simp only[C,iX,O7]at e;subst e;simp only[fZ]at d;obtain⟨I,⟨n0,ad⟩,D⟩:=d;let J:Act->World->Nat->Prop:=λa w n=>∃q,I n q/\SInv P G N h0 φ0 T0 w0 q a w;refine wpIn_loop (λa w=>∃n,J a w n) (λa w=>open Classical in if h:∃n,J a w n then(T9 h).choose else 0) ⟨n0,ad.elim (λh=>⟨_,h,Ep _ p⟩) λh=>⟨_,h,p⟩⟩ λa w hJ=>?_;obtain⟨f,ae,j⟩:=(T9 hJ).choose_spec.1;refine wpIn_mono (ih b C (D _ f ae) j) λS s r ⟨M,o,E⟩=>?_
   cases S with
   | normal=>
    obtain⟨m,hm,ac⟩:=o;have O:J s r m:=ac.elim (λh=>⟨_,h,Ep _ E⟩) λh=>⟨_,h,E⟩
    have A:∃n,J s r n:=⟨m,O⟩
    refine⟨A,?_⟩;simp only[dif_pos A,dif_pos hJ];have ah:(T9 A).choose<=m:=by rcases eD m (T9 A).choose with X|aa;exact absurd O ((T9 A).choose_spec.2 m X);exact aa
    omega
   |exit i=>exact⟨M,o,E⟩|ret=>exact⟨M,o,E⟩|_=>exact o.elim
 |exit i=>
  intro ro h0 φ0 T0 w0 B Q q a w k u out b e d p;simp only[cV,O7]at e;subst e;exact wpIn_exit ⟨q,d,p⟩
 |ret=>
  intro ro h0 φ0 T0 w0 B Q q a w k u out b e d p;simp only[cV,O7]at e;subst e;exact wpIn_ret ⟨q,d,p⟩
 |_=>intro ro h0 φ0 T0 w0 B Q q a w k u out b e;simp[cV]at e
end
def aLJ:Nat->O0->List (Nat×AV)|_,[]=>[]|i,x::r=>(i,x)::aLJ (i+1) r
def Jk:O0->AV|[x]=>x|l=>.tup l
def aCt(st:St)(p:Nat×Option (Option Nat)):Option AV:=match p.2 with|none=>some (bA st.s p.1)|some n=>match cE st.T (dW (λ_=>none) st.s) (.ld n (.tmp p.1)) with|some (x,_)=>some x|none=>none
def R6(st:St):List (Nat×Option (Option Nat))->Option O0|[]=>some []| p::r=>match aCt st p with
  |some x=>match R6 st r with|some l=>some (x::l)|none=>none
  |none=>none
def UD(a:List (Nat×Option (Option Nat)))(post:AV->aK->Prop)(st:St):Prop :=
 match R6 st a with
 |some l=>
  let r:=Jk l
  let L:=Bc st.T (List.range st.r++MM r)
  post (Bd L r) (GX L st.T)\/post r st.T
 |none=>False
def aGU(b:List (Nat×Option (Option Nat)))(post:AV->aK->Prop):Ex->St->Prop|.normal,a=>UD b post a|.ret,a=>UD b post a|_,_=>False
def aJk(P:Program)(G:L_)(a:HFun)(args:O0)(T:aK)(post:AV->aK->Prop):Prop :=
 fZ P G a.code (aGU a.res post) ⟨T.length,aLJ 0 args,T⟩
def Jl:∀(i:Nat)(l:O0),Jc (aLJ i l)/\∀j x,(j,x)∈aLJ i l->i<=j|i,[]=>⟨λ_ _ _ h=>by simp[aLJ]at h,λ_ _ h=>by simp[aLJ]at h⟩| i,x::l=>by obtain⟨f,h2⟩:=Jl (i+1) l;refine⟨λj a b c d=>?_,λj a c=>?_⟩;simp only[aLJ,cS,Prod.mk.injEq]at c d;rcases c with⟨rfl,rfl⟩|c<;>rcases d with⟨e,rfl⟩|d;rfl;have:=h2 _ _ d;omega;subst e;have:=h2 _ _ c;omega;exact f j a b c d;simp only[aLJ,cS,Prod.mk.injEq]at c;rcases c with⟨rfl,_⟩|c;exact cN _;have:=h2 _ _ c;omega
section
variable{P:Program}{G:L_}{h:GH}{φ:Nat->Value}{n:Nat}
def Ia {P:Program} {o:Func} {tmps:Array Value} {R:Ending->World->Prop} {h0:GH} {φ0:Nat->Value} {T0:aK} {w0:World} {h:GH} {φ:Nat->Value} {T:aK}
 (c:∀w,Inv h φ w T->Evo h0 φ0 T0 w0 h φ T w->∃v,(results o tmps).run P w=.ok v w/\R (.returned v) w):∀(ds:List Deferred)(w:World),(ds.Pairwise λx y=>x.target≠y.target) ->
 (∀d∈ds,∃D,d.target=.collected D/\w0.heap.size<=D/\w.heap[D]?=some (.deferred (some [])))->Inv h φ w T->Evo h0 φ0 T0 w0 h φ T w->LeavesInM Fence.wide 0 P o tmps R ds .returning w
 |[],w,_,_,hI,a=>c w hI a| d::ds,w,t,n,hI,a=>by
  obtain⟨D,q,I,k⟩:=n d k_;have z:=run_takeDeferred (P:=P) k;refine⟨k_,.inl ⟨D,_,q,z,?_⟩⟩;obtain⟨f,e⟩:=H5.1 t;refine Ia c ds _ e (λr m=>?_) ?_ ?_;obtain⟨G,p,C,B⟩:=n r (by simp[m]);refine⟨G,p,C,?_⟩;rw[World.putObj_heap_other λj=>f r m (by rw[q,p,j])];exact B;refine aRz hI (λi x s g=>NH (hI.obj i x s) g _ k) ?_ _
  cases A:h D with
  |none=>rfl|some F=>
   obtain⟨E,H,l⟩:=hI.gh D F A;rw[k]at l;simp at l
  refine⟨a.os,a.tape,a.output,by simpa using a.size,λb g u=>?_,a.le,a.gfr,a.phi,a.org,a.len,a.drawn⟩;rw[World.putObj_heap_other o_];exact a.frame b g u
def R7:∀(i:Nat)(l:O0)(a us post:O5),a.length=i->kR h φ n l us->uN h φ n (aLJ i l) ⟨(a++us++post).toArray,[]⟩
 |i,[],a,us,post,_,_=>λj=>by simp[aLJ,bA,Rp]
 | i,x::l,a,us,post,e,d=>by
  simp only[kR]at d;obtain⟨u,b,rfl,k,h2⟩:=d;have:=R7 (i+1) l (a++[u]) b post (by simp[e]) h2;intro j;simp only[aLJ,bA];split;rename_i c;subst c;have g:(a++u::b++post).toArray.getD i undef=u:=by subst e;simp[TR]
  rw[g];exact k;have f:=this j;simp only[lq2,List.singleton_append]at f⊢;exact f
def aCu:O5->Value|[v]=>v|l=>.tuple l.toArray
def R8{t:TypeId}{u v:Value}{w w':World}(e:(Instr.loadAt t u).run P w=.ok v w'):(do loadVar t (<-asAddr u):Sem Value).run P w=.ok v w':=by
 have b:∀(s:String),¬((do loadVar t (<-stuck s):Sem Value).run P w=.ok v w'):=by intro s h;simp[stuck]at h
 cases u with
 |pointer a=>
  cases a with
  |none=>exact absurd e (b _)|some a=>exact e
 |_=>exact absurd e (b _)
def UE {F:Func} {T:aK} {st:St} {a:Act} {w:World} (Q:tU G h) (hI:Inv h φ w st.T) (E:uN h φ st.T.length st.s a) {m:List (Nat×Option (Option Nat))} (K:NU P F.results.toList=some m) {l:O0} (M:R6 st m=some l):
 ∃c,(results F a.tmps).run P w=.ok (aCu c) w/\kR h φ st.T.length l c:=by
 have r:∀(g:ResultVar->Sem Value),(∀t,g (.tmp t)=pure (a.tmps.getD t undef))->(∀i t,g (.cell i t)=(do loadVar t (<-asAddr (a.tmps.getD i undef)):Sem Value)) ->
  ∀(j:List ResultVar)(m:List (Nat×Option (Option Nat)))(l:O0),NU P j=some m->R6 st m=some l->∃c,(j.mapM g).run P w=.ok c w/\kR h φ st.T.length l c:=by
  intro g N C j
  induction j with
  |nil=>
   intro m l d f;simp only[NU,O7]at d;subst d;simp only[R6,O7]at f;subst f;exact⟨[],k_,se⟩
  | cons x j ih=>
   intro m l d f;have k:∀(p:Nat×Option (Option Nat))(b:List (Nat×Option (Option Nat))),NU P j=some b->m=p::b->(∀y,aCt st p=some y->∃v,(g x).run P w=.ok v w/\Rp h φ st.T.length y v)->∃c,((x::j).mapM g).run P w=.ok c w/\kR h φ st.T.length l c:=by intro p b q h2 R;subst h2;simp only[R6]at f;split at f;rename_i y e;split at f;rename_i I B;injection f with f;subst f;obtain⟨v,J,z⟩:=R y e;obtain⟨c,u,A⟩:=ih b I q B;refine⟨v::c,?_,?_⟩;rw[List.mapM_cons];simp[J,u];simp only[kR];exact⟨v,c,rfl,z,A⟩;simp at f;simp at f
   cases x with
   | tmp t=>
    simp only[NU]at d
    cases o:NU P j with
    |none=>simp[o]at d
    |some b=>
     simp only[o,iX,O7]at d;refine k (t,none) b o d.symm λy e=>?_;simp only[aCt,O7]at e;subst e;exact⟨_,by rw[N];simp,E t⟩
   | cell i t=>
    simp only[NU]at d;split at d;rename_i n L
    cases o:NU P j with
    |none=>simp[o]at d
    |some b=>
     simp only[o,iX,O7]at d;refine k (i,some n) b o d.symm λy e=>?_;simp only[aCt]at e;split at e;rename_i H U O;injection e with e;subst e;have D:cE st.T (dW G st.s) (.ld n (.tmp i))=some (H,U):=O;obtain⟨_,v,q,h2⟩:=Mu (P:=P) (w:=w) L Q hI E D;exact⟨v,by rw[C];exact R8 q,h2⟩;simp at e
    simp at d
 obtain⟨c,q,h2⟩:=r (fun|.tmp t=>pure (a.tmps.getD t undef)|.cell S t=>do loadVar t (<-asAddr (a.tmps.getD S undef))) (λt=>rfl) (λi t=>rfl) _ _ _ K M;refine⟨c,?_,h2⟩;unfold results;rw[Sem.run_bind,aBS,Sem.run_map];erw[q];simp only[Result.andThen_ok,Sem.run_pure]
 match c with
 |[]=>rfl
 |[t]=>rfl
 |t::V::l=>rfl
def aF7{l:O0}{vs:O5}(a:kR h φ n l vs):Rp h φ n (Jk l) (aCu vs):=by
 match l,vs,a with
 |[],vs,a=>simp only[kR]at a;subst a;simp only[Jk,aCu,Rp];exact⟨_,rfl,se⟩|[x],vs,a=>simp only[kR]at a;obtain⟨u,e,rfl,c,rfl⟩:=a;exact c
 |x::y::l,vs,a=>
  have b:=a;simp only[kR]at a;obtain⟨u,e,rfl,c,f,d,rfl,h2,g⟩:=a;simp only[Jk,aCu,Rp];exact⟨_,rfl,B_⟩
def Yn {f:FuncId} {hf:HFun} {H:List (Nat×Option Nat×Nat)} (k:tF P f H=some hf) {args:O0} {T:aK} {post:AV->aK->Prop} (hT:True) (z:aJk P G hf args T post):aA P G f args T post:=by
 unfold tF at k;split at k;simp at k
 ·rename_i g C;split at k;simp at k
  ·rename_i p;split at k
   ·rename_i c L hb R
    cases m:cV P g.ntmps H c [] (L.map (·.1)) (L.map (·.1)) with
    |none=>simp[m]at k| some W=>
     simp only[m,iX,O7]at k;subst k;intro h φ w a hG hI hA;refine .inl ⟨?_,?_⟩;have hn:¬g.name = "runtime.NumGoroutine" := by simpa using p
     simp[callFunc,C,hn,hb]
     ·have E:SInv P G g.ntmps h φ T w ⟨T.length,aLJ 0 args,T⟩ ⟨a++Array.replicate (g.ntmps-a.size) undef,[]⟩ w:=by
       refine⟨rfl,(Jl 0 args).1,⟨h,φ,hG,Evo.refl,hI,?_⟩,f_,by simp[Eo]⟩;have:=R7 (h:=h) (φ:=φ) (n:=T.length) 0 args [] a.toList (List.replicate (g.ntmps-a.size) undef) rfl hA;have e:a++Array.replicate (g.ntmps-a.size) undef=(a.toList++List.replicate (g.ntmps-a.size) undef).toArray:=by apply EY.1;simp
       rw[e];simpa only[dM]using this
      have Q:c.wpIn Fence.wide 0 P (λe M q=>∃u,exQ (aGU L post) e u/\SInv P G g.ntmps h φ T w u M q) ⟨a++Array.replicate (g.ntmps-a.size) undef,[]⟩ w:=by
       have B:aF6 none φ T w:=λl hl=>by simp at hl
       rcases R4 z with z|z;exact NW (N:=g.ntmps) c (ro:=none) B m z E;exact NW (N:=g.ntmps) c (ro:=none) B m z (E.kill _)
      refine callsIn_wide.1 (callsIn_of_wp_marks (n:=0) C hb trivial (wpIn_mono Q ?_))
      ·rintro e M q ⟨st,d,hS⟩;have K:UD L post st->bodyPostM Fence.wide 0 P g (λe q=>∃v,e=.returned v/\CS h φ T w post v q) .ret M q:=by
        intro d;obtain⟨hr,U,⟨h2,t,I,o,j,X⟩,aa,D⟩:=hS;simp only[UD]at d;split at d;rotate_left;exact d.elim;rename_i s V;refine Ia (λwf j o=>?_) M.defers q D.1 D.2 j o;obtain⟨vs,A,S⟩:=UE (T:=st.T) I j X R V;refine⟨_,A,_,rfl,?_⟩;have b:=aF7 S;revert b;generalize aCu vs=v;intro b;rcases d with d|d;have Z:SInv P G 0 h φ T w ⟨st.r,[(0,Jk s)],st.T⟩ ⟨#[v],[]⟩ wf:=by refine⟨hr,λi x y hx hy=>?_,⟨h2,t,I,o,j,λi=>?_⟩,k_,by simp[Eo]⟩;simp only[aE5,Prod.mk.injEq]at hx hy;rw[hx.2,hy.2];simp only[bA];split;rename_i hi;subst hi;exact b;simp[Rp]
        obtain⟨_,_,⟨h4,O,_,J,F,Y⟩,_,_⟩:=Ep (st:=⟨st.r,[(0,Jk s)],st.T⟩) [] Z;have h5:=Y 0;have hg:DB [] ⟨st.r,[(0,Jk s)],st.T⟩=⟨st.r,[(0,Bd (Bc st.T (List.range st.r++MM (Jk s))) (Jk s))],GX (Bc st.T (List.range st.r++MM (Jk s))) st.T⟩:=by simp[DB,aH8,gP,LG,PS,Td]
        rw[hg]at J F h5;exact⟨_,_,h4,O,d,J,F,h5⟩;exact⟨_,_,h2,t,d,o,j,b⟩
       cases e with
       |normal=>exact K d|ret=>exact K d|_=>exact d.elim
   simp at k
end
end Hud
