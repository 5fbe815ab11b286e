import Derived.Test.YtfbnbkidnmhhoaaGreatDoorLib00
set_option linter.all false
namespace Hud
open Go
section
variable{P:Program}{w:World}
def Bf:∀{ks:List LK}{xs a:O5}{b:Bool},rJ ks xs a=some b->xs.length=ks.length/\a.length=ks.length
 |[],xs,a,b,e=>by cases xs<;>cases a<;>simp_all[rJ]
 | k::ks,xs,a,b,e=>by
  cases xs with
  |nil=>cases k<;>simp[rJ]at e
  | cons x xs=>
   cases a with
   |nil=>cases k<;>cases x<;>simp[rJ]at e
   | cons y a=>
    cases k<;>cases x<;>cases y<;>simp only[rJ]at e<;>(try (simp at e;done))
    case int.int.int k k1 p k2 q=>
     split at e;split at e;rename_i r c;have:=Bf c;simp_all;simp at e;simp at e
    all_goals
     split at e
     rename_i r c
     have:=Bf c
     simp[this.1,this.2]
     simp at e
def IJ:∀{ks i:List LK}{xs d:O5}{b:Bool},rJ (ks++i) xs d=some b ->
 ∃h g,rJ ks (xs.take ks.length) (d.take ks.length)=some h/\rJ i (xs.drop ks.length) (d.drop ks.length)=some g/\b=(h&&g)
 |[],i,xs,d,b,e=>⟨true,b,by simp[rJ],E_,k_⟩| k::ks,i,xs,d,b,e=>by
  cases xs with
  |nil=>cases k<;>simp[rJ]at e
  | cons x xs=>
   cases d with
   |nil=>cases k<;>cases x<;>simp[rJ]at e
   | cons y d=>
    simp only[jC]at e;cases k<;>cases x<;>cases y<;>simp only[rJ]at e<;>(try (simp at e;done))
    case int.int.int k k1 a k2 c=>
     split at e;rename_i m;split at e;rename_i r f;injection e with e;obtain⟨h,g,l,h2,j⟩:=IJ f;grind[rJ,Bool.and_assoc];simp at e;simp at e
    case bool.bool.bool a c=>
     split at e;rename_i r f;injection e with e;obtain⟨h,g,l,h2,j⟩:=IJ f;grind[rJ,Bool.and_assoc];simp at e
    case str.string.string a c=>
     split at e;rename_i r f;injection e with e;obtain⟨h,g,l,h2,j⟩:=IJ f;grind[rJ,Bool.and_assoc];simp at e
abbrev Ms(ag:Bool)(xs:List Value):Value:=iY ag xs
def Eg{t:TypeId}{X:Array Value}{off:Nat}{ag:Bool}{n:Nat}(c:GY P t=some (aGP ag n))(d:ag=false->n=1)(e:off+n<=X.size):
 (part t X off).run P w=.ok (Ms ag ((X.toList.drop off).take n)) w:=by
 cases ag with
 |false=>
  have:=d rfl;subst this;have a:GY P t=some none:=c;have h:=Fu (w:=w) a;have b:X[off]?=some X[off]:=Ri o_;simp only[part,Sem.run_bind,h.1,Result.andThen_ok,jJ,if_false,b,iY];simp[Hw,b]
 |true=>
  have a:GY P t=some (some n):=c;have h:=Fu (w:=w) a;simp only[part,Sem.run_bind,h.1,h.2,Result.andThen_ok,if_true,iY,Sem.run_pure];congr 2;grind
def QV {n:Nat} (ih:∀t i ks,iF P n t=some (i,ks)->(i=false->ks.length=1)/\∀d,n<=d->∀u s b,rJ ks u s=some b->(Op.equalIn d t (Ms i u) (Ms i s)).run P w=.ok b w)
 {d:Nat} (v:n<=d) (X Y:Array Value):∀(p:List Field)(off:Nat)(ks:List LK)(b:Bool),G7 P (iF P n) p off=some ks ->
  rJ ks (X.toList.drop off) (Y.toList.drop off)=some b->off<=X.size->off<=Y.size->(Op.eqFields d X Y p).run P w=.ok b w
 |[],off,ks,b,a,j,_,_=>by
  simp only[G7]at a;cases a;cases z:X.toList.drop off<;>cases y:Y.toList.drop off<;>rw[z,y]at j<;>simp[rJ]at j;subst j;simp[Op.eqFields]
 | f::p,off,ks,b,a,j,J,I=>by
  simp only[G7]at a;split at a;rename_i i g D;split at a;rename_i E;obtain⟨h,e,o⟩:=E;split at a;rename_i l B;cases a;obtain⟨H,G,F,h2,x⟩:=IJ j;have m:=Bf j;simp only[vY,dZ,GV]at m;obtain⟨c,C⟩:=ih _ _ _ D;have r:(part f.type X f.offset).run P w=.ok (Ms i ((X.toList.drop off).take g.length)) w:=by rw[e];exact Eg o c o_
  have q:(part f.type Y f.offset).run P w=.ok (Ms i ((Y.toList.drop off).take g.length)) w:=by rw[e];exact Eg o c o_
  have A:=C d v _ _ _ F;simp only[Op.eqFields,h,ne_eq,not_false_eq_true,if_true,Sem.run_bind,r,q,Result.andThen_ok,A];rw[Kg,Kg]at h2;have k:=QV ih v X Y p (off+g.length) l G B h2 o_ o_;cases H;simp[x];simp[k,x];simp at a;simp at a;simp at a
def Fv:∀(n:Nat)(t:TypeId)(ag:Bool)(ks:List LK),iF P n t=some (ag,ks) ->
 (ag=false->ks.length=1)/\∀d,n<=d->∀xs c b,rJ ks xs c=some b->(Op.equalIn d t (Ms ag xs) (Ms ag c)).run P w=.ok b w
 |0,_,_,_,e=>by simp[iF]at e
 | n+1,t,ag,ks,e=>by
  have f:∀(k:LK)(xs c:O5)(b:Bool),rJ [k] xs c=some b->∃x y,xs=[x]/\c=[y]:=by
   intro k xs c b a;have:=Bf a
   match xs,c,this with
   |[x],[y],_=>exact⟨x,y,rfl,rfl⟩
  simp only[iF]at e;split at e
  ·rename_i k g;injection e with e;injection e with j i;subst j;subst i;refine⟨λ_=>rfl,λd o xs c b a=>?_⟩;obtain⟨d,rfl⟩:∃m,d=m+1:=⟨d-1,o_⟩
   obtain⟨x,y,rfl,rfl⟩:=f _ _ _ _ a;cases x<;>cases y<;>simp only[rJ]at a<;>(try (simp at a;done))
   split at a;rename_i u;obtain⟨rfl,rfl⟩:=u;injection a with a;subst a;simp only[iY,yH,jJ,if_false,List.getD_cons_zero];exact run_equalIn_int w d t _ _ _ _ g;simp at a
  ·rename_i g;injection e with e;injection e with j i;subst j;subst i;refine⟨λ_=>rfl,λd o xs c b a=>?_⟩;obtain⟨d,rfl⟩:∃m,d=m+1:=⟨d-1,o_⟩
   obtain⟨x,y,rfl,rfl⟩:=f _ _ _ _ a;cases x<;>cases y<;>simp only[rJ]at a<;>(try (simp at a;done))
   injection a with a;subst a;simp[iY,run_equalIn_bool' w d t _ _ g]
  ·rename_i g;injection e with e;injection e with j i;subst j;subst i;refine⟨λ_=>rfl,λd o xs c b a=>?_⟩;obtain⟨d,rfl⟩:∃m,d=m+1:=⟨d-1,o_⟩
   obtain⟨x,y,rfl,rfl⟩:=f _ _ _ _ a;cases x<;>cases y<;>simp only[rJ]at a<;>(try (simp at a;done))
   injection a with a;subst a;simp[iY,run_equalIn_string w d t _ _ g]
  rename_i q g;split at e;simp at e;rename_i r;split at e;rename_i l s;injection e with e;injection e with j i;subst j;subst i;refine⟨λh=>by simp at h,λd o xs c b a=>?_⟩;obtain⟨d,rfl⟩:∃m,d=m+1:=⟨d-1,o_⟩
  have p:P.fieldsOf t=q:=by simp[Program.fieldsOf,g]
  have:=run_equalIn_struct (P:=P) w d t xs.toArray c.toArray (by rw[p];exact g) (by simpa using r);simp only[iY,if_true];rw[this,p];exact QV (Fv n) o_ xs.toArray c.toArray q.toList 0 l b s oe k_ k_;simp at e;simp at e
end
def cK.sub{h:GH}{cs:O0}{us:O5}(a:cK h cs us)(m k:Nat):cK h ((cs.drop m).take k) ((us.drop m).take k):=
 cK.mk (by simp[a.length]) λi c u d b=>by rw[BT]at d b;split at d;rw[if_pos (by assumption)]at b;rw[Hw]at d b;obtain⟨f,e,h2⟩:=a.get d;rw[e]at b;cases b;exact h2;simp at d
def mR.vals{h:GH}{b:Nat}:∀{cs:O0}{o:Nat},mR h b cs o->∃d,cK h cs d/\∀j u,d[j]?=some u->oY h b (o+j)=some u
 |[],o,_=>⟨[],by simp[cK],λj u a=>by simp at a⟩
 |c::cs,o,e=>by
  simp only[mR]at e;obtain⟨⟨u,_,k,h2⟩,i⟩:=e;obtain⟨d,g,f⟩:=i.vals;refine⟨u::d,by simp only[cK];exact⟨u,d,rfl,h2,g⟩,λj x a=>?_⟩
  cases j with
  |zero=>simp only[sW,O7]at a;subst a;exact k
  |succ j=>simp only[oX]at a;rw[<-f j x a];congr 1;omega
def Mt{α:Type}{k:Nat}:∀{es:List (List α)},(∀e∈es,e.length=k)->∀{j:Nat}{e:List α},es[j]?=some e->(es.flatten.drop (j*k)).take k=e
 |[],_,j,e,a=>by simp at a
 | d::es,b,j,e,a=>by
  have c:=b d k_
  cases j with
  |zero=>simp only[sW,O7]at a;subst a;simp[<-c]
  |succ j=>
   simp only[oX]at a;have:(j+1)*k=d.length+j*k:=by rw[Gp,c];omega
   rw[zK,this,List.drop_append,LB o_];simp only[dM];rw[(o_:d.length+j*k-d.length=j*k)];exact Mt (λe f=>b e (by simp[f])) a
def Af{α:Type}{k:Nat}:∀{es:List (List α)},(∀e∈es,e.length=k)->es.flatten.length=es.length*k|[],_=>by simp|d::es,a=>by rw[zK,dZ,Af (λe b=>a e (by simp[b])),a d (by simp),sE,Gp];omega
section
variable{P:Program}{G:L_}{h:GH}{φ:Nat->Value}{T:aK}{w:World}{s:List (Nat×AV)}{a:Act}
def aC5{t:TypeId}{m:Option Nat}(g:GY P t=some m){us:O5}{cs:O0}{n:Nat}{b o off:Nat}(i:kR h φ n cs us)(l:∀j u,us[j]?=some u->w.cell? ⟨b,o+j,none⟩=some u)
 {x:AV} (f:Mo cs off m=some x):∃v,(loadVar t ⟨b,o+off,none⟩).run P w=.ok v w/\Rp h φ n x v:=by
 have c:=YS i f;have a:=Vw (P:=P) (w:=w) g (b:=b) (o:=o+off) (us:=us.drop off) (λj u d=>by rw[Hw]at d;have:=l _ _ d;rw[sY];exact this)
 cases m with
 |none=>
  obtain⟨u,e,h2⟩:=c;exact⟨u,a u (by rw[Hw];simpa using e),h2⟩
 |some k=>
  obtain⟨e,h2⟩:=c;exact⟨_,a (by rw[vY];omega),h2⟩
def AS {i k:Nat} {es:N_} (hI:Inv h φ w T) (b:cR T i=some (.arr k es)):
 (∀e∈es,e.length=k/\∀c∈e,aX c=true)/\((∃A,φ i=.slice A 0 0/\es=[]) \/
  ∃(g c:Nat)(a:Array Value)(E:TypeId),φ i=.slice (some ⟨g,0,none⟩) es.length (c+1)/\w.heap[g]?=some (.cells a E (0,0))/\es.length<=c+1/\c+1<=maxLen/\a.size=(c+1)*k/\h g=none /\
   cK h es.flatten (a.toList.take (es.length*k))):=hI.obj i _ (bH b)
def Ls{b:Bool}{c:AV}(a:PO b c=true):gS c=true:=by
 cases b with
 |false=>exact a|true=>
  cases c<;>simp_all[PO,aX,gS];rename_i v;cases v<;>simp_all[aX]
def C6(h:GH)(φ:Nat->Value)(n:Nat)(b:Bool)(cs:O0)(us:O5):Prop:=if b then cK h cs us else kR h φ n cs us
def C6.toL{φ:Nat->Value}{n:Nat}{b:Bool}{cs:O0}{us:O5}(a:C6 h φ n b cs us):kR h φ n cs us:=by
 cases b with
 |true=>exact cK.to a|false=>exact a
def DE{o:Option AObj}{k:Nat}{es:N_}{b:Bool}(e:sZ o=some (k,es,b)):o=some (jE b k es):=by
 cases o with
 |none=>simp[sZ]at e|some o=>cases o<;>simp[sZ]at e<;>(obtain⟨rfl,rfl,rfl⟩:=e;rfl)
def mS {φ:Nat->Value} {n:Nat} {i:Nat} {b:Bool} {k:Nat} {es:N_}:uF h φ n w i (jE b k es)↔((∀e∈es,e.length=k/\∀c∈e,PO b c=true)/\((∃A,φ i=.slice A 0 0/\es=[]) \/
   ∃(g c:Nat)(a:Array Value)(E:TypeId),φ i=.slice (some ⟨g,0,none⟩) es.length (c+1)/\w.heap[g]?=some (.cells a E (0,0))/\es.length<=c+1/\c+1<=maxLen/\a.size=(c+1)*k/\h g=none /\
    C6 h φ n b es.flatten (a.toList.take (es.length*k)))):=by cases b<;>exact Iff.rfl
def rK {i k:Nat} {es:N_} {b:Bool} (hI:Inv h φ w T) (d:sZ (cR T i)=some (k,es,b)):
 (∀e∈es,e.length=k/\∀c∈e,PO b c=true)/\((∃A,φ i=.slice A 0 0/\es=[]) \/
  ∃(g c:Nat)(a:Array Value)(E:TypeId),φ i=.slice (some ⟨g,0,none⟩) es.length (c+1)/\w.heap[g]?=some (.cells a E (0,0))/\es.length<=c+1/\c+1<=maxLen/\a.size=(c+1)*k/\h g=none /\
   C6 h φ T.length b es.flatten (a.toList.take (es.length*k))):=mS.1 (hI.obj i _ (bH (DE d)))
def kR.sub{φ:Nat->Value}{n:Nat}{cs:O0}{us:O5}(a:kR h φ n cs us)(m k:Nat):kR h φ n ((cs.drop m).take k) ((us.drop m).take k):=(a.drop m).take k
def QW{i k:Nat}{es:N_}{b:Bool}(hI:Inv h φ w T)(p:sZ (cR T i)=some (k,es,b)){j:Nat}{e:O0}(l:es[j]?=some e):
 ∃(g c:Nat)(us:O5),φ i=.slice (some ⟨g,0,none⟩) es.length (c+1)/\kR h φ T.length e us/\∀m u,us[m]?=some u->w.cell? ⟨g,j*k+m,none⟩=some u:=by
 obtain⟨o,s|⟨g,c,t,E,f,n,h2,y,x,v,r⟩⟩:=rK hI p;rw[s.choose_spec.2]at l;simp at l;have a:=r.toL.sub (j*k) k;rw[Mt (λe q=>(o e q).1) l]at a;refine⟨g,c,_,f,a,λm u d=>?_⟩;rw[DD n];rw[BT]at d;split at d;rw[Hw,BT]at d;split at d;rw[<-d];simp;simp at d;simp at d
def iG(b o m:Nat):(⟨b,o,none⟩:Addr).add m=⟨b,o+m,none⟩:=by unfold Addr.add;split<;>simp_all
def Mu {t:TypeId} {m:Option Nat} (I:GY P t=some m) (U:tU G h) (hI:Inv h φ w T) (S:uN h φ T.length s a) {p:Operand} {x:AV} {M:aK}
 (f:cE T (dW G s) (.ld m p)=some (x,M)):M=T/\∃v,(Instr.loadAt t (a.eval p)).run P w=.ok v w/\Rp h φ T.length x v:=by
 have r:=dN U S p;simp only[cE]at f;split at f;rename_i i H q;rw[q]at r;simp only[Rp]at r;obtain⟨_,g,z,B⟩:=r;split at f;rename_i W J;split at f;rename_i y A;cases f;obtain⟨V,L,E,d,N,_,O⟩:=QU hI J;rw[z]at d;cases d;refine⟨rfl,?_⟩;rw[B];simp only[Instr.loadAt,Instr.sureAddr];have:=aC5 (P:=P) (w:=w) (b:=g) (o:=0) I O (λj u C=>by rw[DD N];simpa using C) A;simpa using this;simp at f;simp at f;rename_i W q;rw[q]at r;simp only[Rp]at r;obtain⟨b,o,B,R⟩:=r;split at f;rename_i y A;cases f;obtain⟨L,K,h2⟩:=R.vals;refine⟨rfl,?_⟩;rw[B];simp only[Instr.loadAt,Instr.sureAddr];have:=aC5 (P:=P) (w:=w) (φ:=φ) (n:=T.length) (b:=b) (o:=o) I (cK.to K) (λj u C=>Tf hI (h2 j u C)) A;simpa using this;simp at f;rename_i i k j H q;rw[q]at r;simp only[Rp]at r;obtain⟨_,g,l,c,z,B⟩:=r;split at f;rename_i X Y b J;split at f;rename_i Q;subst Q;split at f;rename_i e C;split at f;rename_i y A;cases f;obtain⟨V,Z,L,d,K,h2⟩:=QW hI J C;rw[z]at d;injection d with d _ _;cases d;refine⟨rfl,?_⟩;rw[B];simp only[Instr.loadAt,Instr.sureAddr];exact aC5 (P:=P) (w:=w) (φ:=φ) (n:=T.length) (b:=g) (o:=j*k) I K h2 A;simp at f;simp at f;simp at f;simp at f;simp at f
end
section
variable{P:Program}{G:L_}{h:GH}{φ:Nat->Value}{T:aK}{w:World}{s:List (Nat×AV)}{a:Act}
def qM{t:TypeId}{n:Nat}(e:oZ P t=some n):(Go.sizeOf t).run P w=.ok n w:=by
 unfold oZ at e
 cases a:P.info? t with
 |none=>simp[a]at e|some i=>simp[a]at e;subst e;simp[Go.sizeOf,typeInfo,a]
def Zl{t:TypeId}{D:Array Field}(F:P.underlying t=some (.struct D)){f:Nat}{B:Field}(I:D[f]?=some B){n:Nat}(H:oZ P B.type=some n)(h0:n≠0)
 (L:tU G h) (K:uN h φ T.length s a) {p:Operand} {x:AV} {E:aK} (d:cE T (dW G s) (.fad p B.offset)=some (x,E)):
 E=T/\∃v,(Instr.fieldAt t (a.eval p) f).run P w=.ok v w/\Rp h φ T.length x v:=by
 have m:=dN L K p;have q:∀b o,(Instr.fieldAt t (.pointer (some ⟨b,o,none⟩)) f).run P w=.ok (.pointer (some ⟨b,o+B.offset,none⟩)) w:=by intro b o;simp[Instr.fieldAt,run_underlying F,I,Instr.sureAddr,fieldPlace,qM H,h0,iG]
 simp only[cE]at d;split at d;rename_i i u e;rw[e]at m;simp only[Rp]at m;obtain⟨C,g,r,y⟩:=m;cases d;rw[y];exact⟨rfl,_,q g u,by simp only[Rp];exact⟨C,g,r,rfl⟩⟩;rename_i i k j u e;rw[e]at m;simp only[Rp]at m;obtain⟨C,g,l,c,r,y⟩:=m;cases d;rw[y];exact⟨rfl,_,q g _,by simp only[Rp];exact⟨C,g,l,c,r,by rw[sY]⟩⟩;rename_i M e;rw[e]at m;simp only[Rp]at m;obtain⟨b,o,y,J⟩:=m;cases d;rw[y];exact⟨rfl,_,q b o,by simp only[Rp];exact⟨b,_,rfl,J.drop _⟩⟩;simp at d
def Mv{t:TypeId}{m:Option Nat}(e:GY P t=some m){us:Array Value}{cs:O0}{n:Nat}(f:kR h φ n cs us.toList){off:Nat}{x:AV}(d:Mo cs off m=some x):
 ∃v,(part t us off).run P w=.ok v w/\Rp h φ n x v:=by
 have b:=YS f d;have a:=Fu (w:=w) e
 cases m with
 |none=>
  obtain⟨u,c,h2⟩:=b;refine⟨u,?_,h2⟩;have:us[off]?=some u:=oW;simp[part,a.1,this]
 |some k=>
  obtain⟨c,h2⟩:=b;refine⟨_,?_,h2⟩;simp only[part,Sem.run_bind,a.1,a.2,Result.andThen_ok,if_true,Sem.run_pure];congr 2;apply EY.1;simp[Array.toList_extract,List.extract]
def Zm {t:TypeId} {D:Array Field} (A:P.underlying t=some (.struct D)) {f:Nat} {q:Field} (C:D[f]?=some q) {m:Option Nat} (B:GY P q.type=some m)
 (H:tU G h) (F:uN h φ T.length s a) {p:Operand} {x:AV} {E:aK} (b:cE T (dW G s) (.fld p q.offset m)=some (x,E)):
 E=T/\∃v,(Instr.field t (a.eval p) f).run P w=.ok v w/\Rp h φ T.length x v:=by
 have e:=dN H F p;simp only[cE]at b;split at b;rename_i I d;rw[d]at e;simp only[Rp]at e;obtain⟨g,k,l⟩:=e;split at b;rename_i y j;cases b;obtain⟨v,o,h2⟩:=Mv (P:=P) (w:=w) B l j;rw[k];exact⟨rfl,v,by simp[Instr.field,run_underlying A,C,asAgg,o],h2⟩;simp at b;rename_i g d;rw[d]at e;simp only[Rp]at e;split at b;rename_i y j;cases b;have l:kR h φ T.length (g.toList.map .v) g.toList:=kR.mk k_ λi c u n k=>by rw[gE,k]at n;simp at n;subst n;simp[Rp]
 obtain⟨v,o,h2⟩:=Mv (P:=P) (w:=w) B l j;rw[e];exact⟨rfl,v,by simp[Instr.field,run_underlying A,C,asAgg,o],h2⟩;simp at b;simp at b
def Zn {t e:TypeId} (U:P.underlying t=some (.slice e)) {k:Nat} (W:oZ P e=some k)
 (L:tU G h) (hI:Inv h φ w T) (K:uN h φ T.length s a) {p q:Operand} {x:AV} {S:aK} (d:cE T (dW G s) (.iad p q k)=some (x,S)):
 S=T/\∃v,(Instr.indexAt t (a.eval p) (a.eval q)).run P w=.ok v w/\Rp h φ T.length x v:=by
 have r:=dN L K p;have z:∀b o u J C(i:Int),0<=i->i.toNat<u->(Instr.indexAt t (.slice (some ⟨b,o,none⟩) u J) (.int C i)).run P w=.ok (.pointer (some ⟨b,o+i.toNat*k,none⟩)) w:=by
  intro b o u J C i B hl;have:0<=i/\i<u:=⟨B,o_⟩
  simp[Instr.indexAt,run_underlying U,asIntOf,this,qM W,iG]
 simp only[cE]at d;split at d;rename_i R F C i n j;rw[n]at r;simp only[Rp,oB]at r;obtain⟨A,c,M,h1,h2,Q⟩:=r;split at d;rename_i E;obtain⟨rfl,B⟩:=E;split at d;rename_i el D;cases d;have f:i.toNat<F.length:=by rcases eD i.toNat F.length with O|O;exact O;simp[sX O]at D
 rcases Q with rfl|⟨b,o,rfl,Y⟩
 simp at D;rw[M,lW L K j];refine⟨rfl,_,z b o _ _ _ i B f,?_⟩;simp only[Rp];exact⟨b,_,rfl,(Y.get D).2⟩;simp at d;simp at d;rename_i i0 C i n j;rw[n]at r;simp only[Rp]at r;split at d;rename_i R F b X;split at d;rename_i E;obtain⟨rfl,B,f⟩:=E;cases d;have D:F[i.toNat]?=some F[i.toNat]:=jN f;obtain⟨g,c,us,y,_,_⟩:=QW hI X D;rw[r.2.1,y,lW L K j];refine⟨rfl,_,z g 0 _ _ _ i B f,?_⟩;simp only[Rp];exact⟨r.1,g,_,c+1,y,k_⟩;simp at d;simp at d;rename_i i0 R lo m C i n j;rw[n]at r;simp only[Rp]at r;split at d;rename_i E;obtain⟨rfl,B,f⟩:=E;cases d;obtain⟨N,A,c,M,_,_,Q⟩:=r;rcases Q with rfl|⟨g,l,Z,y,rfl,V⟩
 omega;rw[M,lW L K j];refine⟨rfl,_,z g _ _ _ _ i B f,?_⟩;simp only[Rp];exact⟨N,g,l,Z,y,by rw[xE,mG]⟩;simp at d;simp at d
def Vx{t e:TypeId}{u:Nat}(K:P.underlying t=some (.array u e)){k:Nat}(L:oZ P e=some k)
 (F:tU G h) (E:uN h φ T.length s a) {p q:Operand} {x:AV} {J:aK} (d:cE T (dW G s) (.iadA p q u k)=some (x,J)):
 J=T/\∃v,(Instr.indexAt t (a.eval p) (a.eval q)).run P w=.ok v w/\Rp h φ T.length x v:=by
 have n:=dN F E p;have r:∀b o A(i:Int),0<=i/\i<u->(Instr.indexAt t (.pointer (some ⟨b,o,none⟩)) (.int A i)).run P w=.ok (.pointer (some ⟨b,o+i.toNat*k,none⟩)) w:=by intro b o A i z;simp[Instr.indexAt,run_underlying K,asIntOf,Instr.sureAddr,z,qM L,iG]
 simp only[cE]at d;split at d;rename_i j o A i m f;rw[m]at n;simp only[Rp]at n;obtain⟨H,g,y,B⟩:=n;split at d;rename_i z;cases d;rw[B,lW F E f];exact⟨rfl,_,r g o _ i z,by simp only[Rp];exact⟨H,g,y,rfl⟩⟩;simp at d;rename_i N A i m f;rw[m]at n;simp only[Rp]at n;obtain⟨b,o,B,I⟩:=n;split at d;rename_i z;cases d;rw[B,lW F E f];exact⟨rfl,_,r b o _ i z,by simp only[Rp];exact⟨b,_,rfl,I.drop _⟩⟩;simp at d;rename_i b M j o A i m f;rw[m]at n;simp only[Rp]at n;obtain⟨H,g,l,c,y,B⟩:=n;split at d;rename_i z;cases d;rw[B,lW F E f];exact⟨rfl,_,r g _ _ i z,by simp only[Rp];exact⟨H,g,l,c,y,by rw[sY]⟩⟩;simp at d;simp at d
def Zo {t:TypeId} (o:P.underlying t=some .string)
 (m:tU G h) (l:uN h φ T.length s a) {p q:Operand} {x:AV} {n:aK} (c:cE T (dW G s) (.ixS p q)=some (x,n)):
 n=T/\∃v,(Instr.index t (a.eval p) (a.eval q)).run P w=.ok v w/\Rp h φ T.length x v:=by
 simp only[cE]at c;split at c;rename_i e z i j f;split at c;rename_i r;split at c;rename_i b k;cases c;rw[lW m l j,lW m l f];refine⟨rfl,.int .u8 b.toNat,?_,x_⟩;have:e[i.toNat]?=some b:=by
  have d:i.toNat<e.data.size:=by rcases eD i.toNat e.data.size with g|g;exact g;simp[Hz g]at k
  rw[Ri d]at k;rw[getElem?_pos e i.toNat d];exact k
 simp[Instr.index,run_underlying o,asIntOf,r,this];simp at c;simp at c;simp at c
def Vy{t ty:TypeId}(g:P.underlying t=some .string)
 (j:tU G h) (i:uN h φ T.length s a) {p:Operand} {x:AV} {e:aK} {ts:Array TypeId} (c:ts[0]?=some t) (b:cE T (dW G s) (.lenS p)=some (x,e)):
 e=T/\∃v,(Builtin.len_ ts ty #[a.eval p]).run P w=.ok v w/\Rp h φ T.length x v:=by
 simp only[cE]at b;split at b;rename_i f d;cases b;rw[lW j i d];exact⟨rfl,goInt f.size,by simp[Builtin.len_,c,run_underlying g],dw⟩;simp at b
def Vz{t e ty:TypeId}(F:P.underlying t=some (.slice e))
 (B:tU G h) (hI:Inv h φ w T) (z:uN h φ T.length s a) {p:Operand} {x:AV} {D:aK} {ts:Array TypeId} (y:ts[0]?=some t) (d:cE T (dW G s) (.lenL p)=some (x,D)):
 D=T/\∃v,(Builtin.len_ ts ty #[a.eval p]).run P w=.ok v w/\Rp h φ T.length x v:=by
 have n:=dN B z p;have j:∀A l c,(Builtin.len_ ts ty #[.slice A l c]).run P w=.ok (goInt l) w:=by intro A l c;simp[Builtin.len_,y,run_underlying F]
 simp only[cE]at d;split at d;rename_i k I f;rw[f]at n;simp only[Rp,oB]at n;obtain⟨A,c,u,_⟩:=n;cases d;rw[u];exact⟨rfl,_,j _ _ _,dw⟩;rename_i i f;rw[f]at n;simp only[Rp]at n;split at d;rename_i k I b H;cases d;rw[n.2.1];obtain⟨_,⟨A,C⟩|⟨g,c,J,E,r,_⟩⟩:=rK hI H;rw[C.1,C.2];exact⟨rfl,_,j _ _ _,dw⟩;rw[r];exact⟨rfl,_,j _ _ _,dw⟩;simp at d;rename_i f;cases d;rw[lW B z f];exact⟨rfl,_,j _ _ _,dw⟩;rename_i i k K m f;rw[f]at n;simp only[Rp]at n;obtain⟨_,A,c,u,_⟩:=n;cases d;rw[u];exact⟨rfl,_,j _ _ _,dw⟩;simp at d
end
def Ca{h:GH}{φ:Nat->Value}{T:aK}{w:World}(hI:Inv h φ w T){b:Nat}{cs:Array Value}(e:h b=some cs):b<w.heap.size:=by obtain⟨E,c,a⟩:=hI.gh b cs e;grind
def iT{h:GH}{φ:Nat->Value}{n:Nat}{w:World}{i:Nat}{o:AObj}(e:uF h φ n w i o){g:Nat}(C:kI (φ i)=some g):
 g<w.heap.size/\h g=none:=by
 have z:∀{x:Obj},w.heap[g]?=some x->g<w.heap.size:=by grind
 cases o with
 |box D=>
  obtain⟨d,u,E,a,h2,b,_⟩:=e;grind[kI,Option.some.injEq]
 |arr k p=>
  obtain⟨_,⟨A,a⟩|⟨d,c,j,E,a,h2,_,_,_,b,_⟩⟩:=e;simp_all[kI];grind[kI,Option.some.injEq]
 |arf k p=>
  obtain⟨_,⟨A,a⟩|⟨d,c,j,E,a,h2,_,_,_,b,_⟩⟩:=e;simp_all[kI];grind[kI,Option.some.injEq]
 |lp r s=>
  obtain⟨d,a,h2,b,_⟩:=e;grind[kI,Option.some.injEq]
 |mit m f l v=>
  obtain⟨d,y,a,h2,b,_⟩:=e;grind[kI,Option.some.injEq]
 |map G B t bs F=>
  obtain⟨d,q,a,h2,b,_⟩:=e;grind[kI,Option.some.injEq]
def qN{h h':GH}{φ y:Nat->Value}{n I:Nat}{w w':World}{i:Nat}{o:AObj}(e:uF h φ n w i o)(le:CA h h')(B:n<=I)(b:∀j,j<n->y j=φ j)(t:i<n)
 (x:∀g,kI (φ i)=some g->w'.heap[g]?=w.heap[g]?/\h' g=none):uF h' y I w' i o:=by
 cases o with
 |box P=>
  obtain⟨g,J,E,a,h2,u,d⟩:=e;obtain⟨q,z⟩:=x g sf;exact⟨g,J,E,ot,by rw[q];exact h2,z,d.mono le B b⟩
 |arr k L=>
  obtain⟨A,a|⟨g,c,v,E,a,h2,u,d,q,z,F⟩⟩:=e;exact⟨A,.inl ot⟩;obtain⟨l,f⟩:=x g sf;exact⟨A,.inr ⟨g,c,v,E,ot,by rw[l];exact h2,u,d,q,f,F.mono le⟩⟩
 |arf k L=>
  obtain⟨A,a|⟨g,c,v,E,a,h2,u,d,q,z,F⟩⟩:=e;exact⟨A,.inl ot⟩;obtain⟨l,f⟩:=x g sf;exact⟨A,.inr ⟨g,c,v,E,ot,by rw[l];exact h2,u,d,q,f,F.mono le B b⟩⟩
 |lp r s=>
  obtain⟨g,a,h2,u,d,q⟩:=e;obtain⟨l,f⟩:=x g sf;exact⟨g,ot,by rw[l];exact h2,f,d,λp D=>(q p D).mono le B b⟩
 |mit m C H N=>
  obtain⟨g,K,a,h2,u,d⟩:=e;obtain⟨l,f⟩:=x g sf;refine⟨g,K,ot,by rw[l];exact h2,f,?_⟩;grind
 |map R O M bs Q=>
  obtain⟨g,G,a,h2,u,d,q,z⟩:=e;obtain⟨l,f⟩:=x g sf;exact⟨g,G,ot,by rw[l];exact h2,f,d,q,z.mono le B b⟩
def Zp(φ:Nat->Value)(n:Nat)(v:Value):Nat->Value:=λi=>if i=n then v else φ i
def gN{φ:Nat->Value}{n i:Nat}{v:Value}(h:i<n):Zp φ n v i=φ i:=by grind[Zp]
theorem bI{φ:Nat->Value}{n:Nat}{v:Value}:Zp φ n v n=v:=by grind[Zp]
def kG{T:aK}{o:Option AObj}{i:Nat}{x:AObj}(e:(T++[o])[i]?=some (some x)):(i<T.length/\T[i]?=some (some x))\/(i=T.length/\o=some x):=m_
def oM{T:aK}{o:Option AObj}{i j:Nat}{x:AObj}(e:(T.set j o)[i]?=some (some x)):(i=j/\o=some x)\/(i≠j/\T[i]?=some (some x)):=m_
def tL {h:GH} {φ:Nat->Value} {T:aK} {w w':World} (hI:Inv h φ w T) (r:w'.os=w.os) (p:w'.tape=w.tape) (l:w'.output=w.output) (q:w.heap.size<=w'.heap.size)
 (F:∀b,b<w.heap.size->w'.heap[b]?=w.heap[b]?) {o:AObj} {v:Value} (A:∀g,kI v=some g->w.heap.size<=g) (K:uF h (Zp φ T.length v) (T.length+1) w' T.length o)
 (s:w.drawn<=w'.drawn:=by first|exact cN _|exact Kl _|assumption):
 Inv h (Zp φ T.length v) w' (T++[some o])/\Evo h φ T w h (Zp φ T.length v) (T++[some o]) w':=by
 have C:∀i x,T[i]?=some (some x)->i<T.length:=m_;refine⟨⟨?_,?_,?_⟩,⟨r,p,l,q,λb u _=>F b u,CA.refl h,λ_ _ e=>.inl e,λi d=>gN d,?_,k_,s⟩⟩;intro b I e;obtain⟨E,M,J⟩:=hI.gh b I e;grind;intro i x e;rcases kG e with⟨d,n⟩|⟨rfl,n⟩
 have B:=hI.obj i x n;rw[dZ];exact qN B (CA.refl h) k_ (λj m=>gN m) d λg D=>by obtain⟨h2,L⟩:=iT B D;simp_all
 simp_all;intro i j z y b H G c a;rcases kG H with⟨d,k⟩|⟨rfl,k⟩<;>rcases kG G with⟨m,f⟩|⟨rfl,f⟩
 rw[gN d]at c;rw[gN m]at a;exact hI.dis i j z y b k f c a;rw[gN d]at c;rw[bI]at a;have:=(iT (hI.obj i z k) c).1;have:=A b a;omega;rw[bI]at c;rw[gN m]at a;have:=(iT (hI.obj j y f) a).1;have:=A b c;omega;rfl;intro i x b e t;rcases kG e with⟨d,n⟩|⟨rfl,n⟩
 rw[gN d]at t;grind;grind[bI]
def Fw {h:GH} {φ:Nat->Value} {T:aK} {w w':World} (hI:Inv h φ w T) (n:w'.os=w.os) (f:w'.tape=w.tape) (c:w'.output=w.output) (l:w.heap.size<=w'.heap.size)
 {i:Nat} {o o':AObj} (q:T[i]?=some (some o)) (v:∀b,b<w.heap.size->kI (φ i)≠some b->w'.heap[b]?=w.heap[b]?) (R:uF h φ T.length w' i o')
 (r:w.drawn<=w'.drawn:=by first|exact cN _|exact Kl _|assumption):
 Inv h φ w' (T.set i (some o'))/\Evo h φ T w h φ (T.set i (some o')) w':=by
 have I:i<T.length:=m_;refine⟨⟨?_,?_,?_⟩,⟨n,f,c,l,λb u H=>v b u (H i o q),CA.refl h,λ_ _ e=>.inl e,λ_ _=>rfl,?_,k_,r⟩⟩;intro b O e;obtain⟨E,L,G⟩:=hI.gh b O e;refine⟨E,L,?_⟩;rw[v b (Ca hI e) λa=>?_];exact G;have:=(iT (hI.obj i o q) a).2;simp_all;intro j x e;rw[cL];rcases oM e with⟨rfl,A⟩|⟨p,A⟩
 simp_all;have C:=hI.obj j x A;have J:j<T.length:=m_;exact qN C (CA.refl h) (cN _) (λ_ _=>rfl) J λg B=>by obtain⟨h2,K⟩:=iT C B;exact⟨v g h2 λa=>p (hI.dis j i x o g A q B a),K⟩
 intro j k Q P b N M t s;have d:∀{m:Nat}{x:AObj},(T.set i (some o'))[m]?=some (some x)->∃y,T[m]?=some (some y):=by grind
 obtain⟨y,F⟩:=d N;obtain⟨z,D⟩:=d M;exact hI.dis j k y z b F D t s;grind
def xI{h:GH}{φ:Nat->Value}{T:aK}{w:World}(hI:Inv h φ w T)(i:Nat):Inv h φ w (T.set i none)/\Evo h φ T w h φ (T.set i none) w:=by
 have a:∀{m:Nat}{x:AObj},(T.set i none)[m]?=some (some x)->T[m]?=some (some x):=by grind
 refine⟨⟨hI.gh,?_,?_⟩,⟨rfl,rfl,rfl,cN _,λ_ _ _=>rfl,CA.refl h,λ_ _ e=>.inl e,λ_ _=>rfl,?_,k_,cN _⟩⟩;intro j x e;rw[cL];exact hI.obj j x (a e);intro j k x y b e c;exact hI.dis j k x y b (a e) (a c);grind
section
variable{P:Program}{G:L_}{h:GH}{φ:Nat->Value}{T:aK}{w:World}{s:List (Nat×AV)}{a:Act}
def jD(h:GH)(φ:Nat->Value)(T:aK)(w:World)(c:Result Value)(x:AV)(e:aK):Prop :=
 ∃v b d a,c=.ok v b/\Evo h φ T w d a e b/\Inv d a b e/\Rp d a e.length x v
def kX(w:World)(o:Obj)(b:Nat)(h:b<w.heap.size):(w.alloc o).heap[b]?=w.heap[b]?
 := by rw[World.alloc,Array.getElem?_push,if_neg o_]
def YT(hI:Inv h φ w T){cs:O0}{us:Array Value}(a:kR h φ T.length cs us.toList)(E:TypeId):
 jD h φ T w (.ok (.pointer (some ⟨w.heap.size,0,none⟩)) (w.alloc (.cells us E))) (.ptr T.length 0) (T++[some (.box cs)]):=by
 have c:h w.heap.size=none:=by
  cases e:h w.heap.size with
  |none=>rfl|some cs=>have:=Ca hI e;omega
 have:=tL (w':=w.alloc (.cells us E)) (o:=.box cs) (v:=.pointer (some ⟨w.heap.size,0,none⟩)) hI rfl rfl rfl k_ (λb j=>kX w _ b j)
  (λg f=>by simp only[kI,O7]at f;omega)
  ⟨w.heap.size,us,E,bI,heap_alloc_new w _,c,a.mono (CA.refl h) o_ λi d=>gN d⟩
 refine⟨_,_,h,_,rfl,this.2,this.1,?_⟩;simp only[Rp];exact⟨k_,w.heap.size,bI,rfl⟩
def Zq(j:tU G h)(hI:Inv h φ w T)(i:uN h φ T.length s a){E:TypeId}{p:Operand}{x:AV}{e:aK}(b:cE T (dW G s) (.box p)=some (x,e)):
 jD h φ T w ((Instr.box E (a.eval p)).run P w) x e:=by
 simp only[cE]at b;split at b;rename_i d;cases b;have f:=CZ (dN j i p) (λc g=>oD.1 d c g);have:(Instr.box E (a.eval p)).run P w=.ok (.pointer (some ⟨w.heap.size,0,none⟩)) (w.alloc (.cells (a.eval p).cells E)):=by simp[Instr.box,newVar,newRow]
 rw[this];exact YT hI f E;simp at b
def Mw(h:GH)(φ:Nat->Value)(n:Nat):∀(us:O5),kR h φ n (us.map .v) us|[]=>by simp[kR]|u::us=>by simp only[fG,kR];exact⟨u,us,rfl,x_,Mw h φ n us⟩
def Tg(hI:Inv h φ w T){E:TypeId}{i:TypeInfo}{z:Value}(d:P.info? E=some i)(c:i.zero=some z){ev:Operand->AV}{x:AV}{b:aK}(a:cE T ev (.alloc z.cells.toList)=some (x,b)):
 jD h φ T w ((Instr.alloc E true (.tuple #[])).run P w) x b:=by
 simp only[cE]at a;cases a;have:(Instr.alloc E true (.tuple #[])).run P w=.ok (.pointer (some ⟨w.heap.size,0,none⟩)) (w.alloc (.cells z.cells E)):=by simp[Instr.alloc,zeroValue,typeInfo,d,c,newVar,newRow]
 rw[this];exact YT hI (by simpa using Mw h φ T.length z.cells.toList) E
def aC6(vs:Array Value)(off:Nat)(cs:Array Value)(b:off+vs.size<=cs.size):
 (vs.zipIdx.foldl (λcs(c,j)=>cs.setIfInBounds (off+j) c) cs).toList=cs.toList.take off++vs.toList++cs.toList.drop (off+vs.size):=by
 have a:∀(l:O5)(k:Nat)(cs:Array Value),off+k+l.length<=cs.size ->
  ((l.zipIdx k).foldl (λ(cs:Array Value)(p:Value×Nat)=>cs.setIfInBounds (off+p.2) p.1) cs).toList=cs.toList.take (off+k)++l++cs.toList.drop (off+k+l.length):=by
  intro l
  induction l with
  |nil=>intro k cs _;simp|cons v l ih=>
   intro k cs d;simp only[sE]at d;simp only[List.zipIdx_cons,CW];rw[ih (k+1) _ f_];have:=list_seg_step cs.toList (off+k) v l f_;simpa[Array.toList_setIfInBounds,sY]using this
 have:=a vs.toList 0 cs B_;rw[<-Array.foldl_toList,Array.toList_zipIdx];simpa using this
def Rn(a:Act)(l:List (Nat×Nat×Operand)):List (Nat×Nat×Value):=l.map λp=>(p.1,p.2.1,a.eval p.2.2)
def Zr(a:O5):List (Nat×Nat×Value)->Option O5|[]=>some a|(b,n,x)::r=>if x.cells.size=n/\b+n<=a.length then Zr (a.take b++x.cells.toList++a.drop (b+n)) r else none
def V0(k:tU G h)(j:uN h φ T.length s a):∀(l:List (Nat×Nat×Operand)){b:O0}{us:O5}{cs:O0},kR h φ T.length b us ->
 JY b (l.map λp=>(p.1,p.2.1,dW G s p.2.2))=some cs->∃g,Zr us (Rn a l)=some g/\kR h φ T.length cs g
 |[],b,us,cs,d,e=>by
  simp only[uP,JY,O7]at e;subst e;exact⟨us,rfl,d⟩
 |p::l,b,us,cs,d,e=>by simp only[fG,JY]at e;split at e;rename_i o;have i:=CZ (dN k j p.2.2) (λc f=>oD.1 o.2.2 c f);have n:=i.length;have m:=d.length;simp only[Rn,fG,Zr];rw[if_pos ⟨by simp only[GV]at n;omega,o_⟩];exact V0 k j l (((d.take _).app i).app (d.drop _)) e;simp at e
def Ro{place:Nat->Option (Nat×Nat)}(b:Nat->Nat×Nat):∀(l:List (Nat×Value))(a:Array Value)(vs:O5),
 (∀p∈l,place p.1=some (b p.1))->Zr a.toList (l.map λp=>((b p.1).1,(b p.1).2,p.2))=some vs->Instr.fill place a l=some vs.toArray
 |[],a,vs,_,e=>by
  simp only[uP,Zr,O7]at e;subst e;simp[Instr.fill]
 |(i,v)::l,a,vs,d,e=>by have c:=d (i,v) k_;simp only[fG,Zr]at e;split at e;rename_i f;simp only[GV]at f;simp only[Instr.fill,c];rw[if_neg f_];apply Ro b l _ vs (λp c=>d p (by simp[c]));rw[aC6 _ _ _ o_,f.1];exact e;simp at e
def QX(n:Nat):∀(l:List (Nat×Operand)),Jb n l=l.map λp=>(p.1*n,n,p.2)|[]=>rfl|(i,x)::l=>by simp[Jb,QX n l]
def plB(P:Program)(a:List Field)(i:Nat):Nat×Nat:=match a[i]? with|some f=>(f.offset,(oZ P f.type).getD 0)|none=>(0,0)
def QY {b:List Field}:∀{l:List (Nat×Operand)}{r:List (Nat×Nat×Operand)},Ja P b l=some r ->
 r=(l.map λp=>((plB P b p.1).1,(plB P b p.1).2,p.2))/\∀p∈l,∃f n,b[p.1]?=some f/\oZ P f.type=some n/\plB P b p.1=(f.offset,n)
 |[],r,e=>by simp only[Ja,O7]at e;subst e;simp| (i,x)::l,r,e=>by
  simp only[Ja]at e;split at e;simp at e;rename_i f g;split at e;rename_i n k d h;injection e with e;obtain⟨j,h2⟩:=QY h;have c:plB P b i=(f.offset,n):=by simp[plB,g,d]
  subst j;subst e;refine⟨by simp[c],λp a=>?_⟩;rcases cS.1 a with rfl|a;exact⟨f,n,g,d,c⟩;exact h2 p a;simp at e
def Th(a:List Field)(b:∀f∈a,(oZ P f.type).isSome=true):
 (a.mapM λf=>do pure (f.offset,<-Go.sizeOf f.type):Sem (List (Nat×Nat))).run P w=.ok (a.map λf=>(f.offset,(oZ P f.type).getD 0)) w:=by
 induction a with
 |nil=>simp|cons f a ih=>
  obtain⟨n,c⟩:=aBI.1 (b f k_);rw[List.mapM_cons];simp only[Sem.run_bind,qM c,Result.andThen_ok,Sem.run_pure,ih λf d=>b f (by simp[d]),fG,c,Mi]
def V1 {t:TypeId} {c:Array Field} (y:P.underlying t=some (.struct c)) {i:TypeInfo} (F:P.info? t=some i) {z:Value} (u:i.zero=some z) {b:Array (Nat×Operand)} {l:List (Nat×Nat×Operand)}
 (E:Ja P c.toList b.toList=some l) (j:c.toList.all (λf=>(oZ P f.type).isSome)=true) (J:tU G h) (I:uN h φ T.length s a) {x:AV} {r:aK}
 (e:cE T (dW G s) (.bld z.cells.toList l)=some (x,r)):
 r=T/\∃v,(Instr.build t (b.map λ(i,x)=>(i,a.eval x))).run P w=.ok v w/\Rp h φ T.length x v:=by
 simp only[cE]at e;split at e;rename_i Q m;cases e;obtain⟨o,M,h2⟩:=V0 J I l (Mw h φ T.length z.cells.toList) m;obtain⟨L,K⟩:=QY E;have g:=Th (P:=P) (w:=w) c.toList (λf k=>oD.1 j f k);have d:=Ro (place:=λi=>(c.toList.map λf=>(f.offset,(oZ P f.type).getD 0)).toArray[i]?) (plB P c.toList) (b.toList.map λp=>(p.1,a.eval p.2)) z.cells o
  (λp B=>by
   obtain⟨q,A,rfl⟩:=dF.1 B;obtain⟨f,n,k,C,H⟩:=K q A
   simp[k,H,C]) (by rw[<-M,L];simp[Rn,rI,Function.comp_def])
 refine⟨rfl,.agg o.toArray,?_,by simp only[Rp];exact⟨_,rfl,dx⟩⟩;have D:(c.mapM λf=>do pure (f.offset,<-Go.sizeOf f.type):Sem (Array (Nat×Nat))).run P w=.ok (c.toList.map λf=>(f.offset,(oZ P f.type).getD 0)).toArray w:=by rw[aBS];simp only[Sem.run_map,g,Result.andThen_ok]
 simp only[Instr.build,Sem.run_bind,zeroValue,typeInfo,run_program,Result.andThen_ok,F,Sem.run_pure,u,run_underlying y,D];simp only[Array.toList_map];rw[d];rfl;simp at e
end
def Kq{k:Nat}:∀(n:Nat)(cs:O0),cs.length=n*k->(yI k n cs).flatten=cs/\(yI k n cs).length=n/\∀e∈yI k n cs,e.length=k
 |0,cs,a=>by
  grind[yI]
 |n+1,cs,a=>by rw[Gp]at a;obtain⟨c,h2,b⟩:=Kq (k:=k) n (cs.drop k) (by rw[vY];omega);simp_all[yI,cS,eC]
def Zs{h:GH}{φ:Nat->Value}{n:Nat}:∀{x:AV}{u:Value},Rp h φ n x u->aX x=true->oB h x u|.v _,u,e,_=>by simpa[Rp,oB]using e|.ls k b,u,e,_=>by simpa only[Rp]using e|.ag _,_,_,a=>by simp[aX]at a|.own _,_,_,a=>by simp[aX]at a|.ptr _ _,_,_,a=>by simp[aX]at a|.elt _ _ _ _,_,_,a=>by simp[aX]at a|.vw _ _ _ _,_,_,a=>by simp[aX]at a|.mp _,_,_,a=>by simp[aX]at a|.yl _,_,_,a=>by simp[aX]at a|.rp _,_,_,a=>by simp[aX]at a|.cl _ _,_,_,a=>by simp[aX]at a|.bm _ _ _,_,_,a=>by simp[aX]at a|.tup _,_,_,a=>by simp[aX]at a|.any,_,_,a=>by simp[aX]at a
def V2{h:GH}{φ:Nat->Value}{n:Nat}{cs:O0}{us:O5}(e:kR h φ n cs us)(f:∀c∈cs,aX c=true):cK h cs us :=
 cK.mk e.length λi c u b d=>by obtain⟨g,a,h2⟩:=e.get b;rw[d]at a;cases a;exact Zs h2 (f c (Kd b))
def Mx(z:O5):∀n,(II z n).length=n*z.length|0=>by simp[II]|n+1=>by simp[II,Mx z n,Gp];omega
def My(z:O5)(c:0<z.length):∀(n i:Nat),i<n*z.length->(II z n)[i]?=z[i%z.length]?|0,i,b=>by simp at b|n+1,i,b=>by simp only[II];by_cases a:i<z.length;rw[mY a,EZ a];rw[Mc o_,My z c n (i-z.length) (by rw[xE,Km]at b;omega)];congr 1;exact(Nat.mod_eq_sub_mod o_).symm
def QZ(z:Array Value)(b:0<z.size)(n:Nat):((Array.range (n*z.size)).map λi=>z[i%z.size]!).toList=II z.toList n:=by apply EW;intro i;rcases eD i (n*z.size) with a|a;rw[My z.toList B_ n i oe];have c:i%z.size<z.size:=zM _ b;simp[a,c];rw[sX f_,sX (by rw[Mx];simpa using a)]
def cK.app{h:GH}{cs ds:O0}{us vs:O5}(a:cK h cs us)(b:cK h ds vs):cK h (cs++ds) (us++vs):=by
 induction cs generalizing us with
 |nil=>simp only[cK]at a;subst a;simpa using b|cons c cs ih=>
  grind[cK]
def cK.take{h:GH}{cs:O0}{us:O5}(a:cK h cs us)(m:Nat):cK h (cs.take m) (us.take m):=by simpa using a.sub 0 m
def cK.drop{h:GH}{cs:O0}{us:O5}(a:cK h cs us)(m:Nat):cK h (cs.drop m) (us.drop m):=by have:=a.sub m cs.length;rwa[sG k_,sG (by rw[vY,a.length];omega)]at this
def Ti{k:Nat}:∀{es:N_},(∀e∈es,e.length=k)->∀{j:Nat}{e:O0},es[j]?=some e->∀{off n:Nat}{x:O0},off+n<=k ->
 (es.set j (e.take off++x++e.drop (off+n))).flatten=es.flatten.take (j*k+off)++x++es.flatten.drop (j*k+off+n)
 |[],_,j,e,a,_,_,_,_=>by simp at a| d::es,c,j,e,a,off,n,x,b=>by
  have h:=c d k_
  cases j with
  |zero=>
   grind
  |succ j=>
   simp only[oX]at a;simp only[yG,zK];rw[Ti (λe f=>c e (by simp[f])) a b];have g:(j+1)*k+off=d.length+(j*k+off):=m_;rw[g,sY d.length,aGH,X3];simp[lq2]
def Mz{α:Type}(L a:List α)(p n m:Nat)(c:p+n<=m)(h2:m<=L.length)(b:a.length=n):
 (L.take p++a++L.drop (p+n)).take m=(L.take m).take p++a++(L.take m).drop (p+n):=by
 rw[List.take_append,sG f_,List.drop_take,Mj];grind
section
variable{P:Program}{G:L_}{h:GH}{φ:Nat->Value}{T:aK}{w:World}{s:List (Nat×AV)}{a:Act}
def Fx(hI:Inv h φ w T):h w.heap.size=none:=by
 cases e:h w.heap.size with
 |none=>rfl|some a=>have:=Ca hI e;omega
def C6.mono{h h':GH}{φ c:Nat->Value}{n d:Nat}{b:Bool}{cs:O0}{us:O5}(g:CA h h')(f:n<=d)(e:∀i,i<n->c i=φ i)(a:C6 h φ n b cs us):C6 h' c d b cs us:=by
 cases b with
 |true=>exact cK.mono g a|false=>exact kR.mono g f e a
def C6.app{h:GH}{φ:Nat->Value}{n:Nat}{b:Bool}{cs ds:O0}{us vs:O5}(x:C6 h φ n b cs us)(y:C6 h φ n b ds vs):C6 h φ n b (cs++ds) (us++vs):=by
 cases b with
 |true=>exact cK.app x y|false=>exact kR.app x y
def C6.take{h:GH}{φ:Nat->Value}{n:Nat}{b:Bool}{cs:O0}{us:O5}(x:C6 h φ n b cs us)(m:Nat):C6 h φ n b (cs.take m) (us.take m):=by
 cases b with
 |true=>exact cK.take x m|false=>exact kR.take x m
def C6.drop{h:GH}{φ:Nat->Value}{n:Nat}{b:Bool}{cs:O0}{us:O5}(x:C6 h φ n b cs us)(m:Nat):C6 h φ n b (cs.drop m) (us.drop m):=by
 cases b with
 |true=>exact cK.drop x m|false=>exact kR.drop x m
def C6.length{h:GH}{φ:Nat->Value}{n:Nat}{b:Bool}{cs:O0}{us:O5}(x:C6 h φ n b cs us):cs.length=us.length:=by
 cases b with
 |true=>exact cK.length x|false=>exact kR.length x
def C6.of{h:GH}{φ:Nat->Value}{n:Nat}{b:Bool}{cs:O0}{us:O5}(e:kR h φ n cs us)(a:∀c∈cs,PO b c=true):C6 h φ n b cs us:=by
 cases b with
 |true=>exact V2 e a|false=>exact e
def C6.weaken{h:GH}{φ:Nat->Value}{n:Nat}{b c:Bool}{cs:O0}{us:O5}(x:C6 h φ n b cs us)(a:c=true->b=true):C6 h φ n c cs us:=by
 cases c with
 |true=>rw[a rfl]at x;exact x|false=>exact x.toL
def qO{b c:Bool}{x:AV}(a:PO b x=true)(d:c=true->b=true):PO c x=true:=by
 cases c with
 |true=>rw[d rfl]at a;exact a|false=>exact Ls a
def tD(hI:Inv h φ w T){w1:World}(u:w1.heap=w.heap)(p:w1.os=w.os)(m:w1.tape=w.tape)(f:w1.output=w.output){b:Bool}{k n c:Nat}{es:N_}(l:∀e∈es,e.length=k/\∀c∈e,PO b c=true)(y:es.length=n){a:Array Value}(s:n<=c)(r:c<=maxLen)(q:a.size=c*k)
 (x:C6 h φ T.length b es.flatten (a.toList.take (n*k))) (E:TypeId) (A:w.drawn<=w1.drawn:=by first|exact cN _|exact Kl _|assumption):
 jD h φ T w (.ok (.slice (some ⟨w.heap.size,0,none⟩) n c) (w1.alloc (.cells a E))) (.own T.length) (T++[some (jE b k es)]):=by
 subst y;have d:w1.heap.size=w.heap.size:=by rw[u]
 have j:(w1.alloc (.cells a E)).heap[w.heap.size]?=some (.cells a E (0,0)):=by rw[<-d];exact heap_alloc_new w1 _
 have:=tL (w':=w1.alloc (.cells a E)) (o:=jE b k es) (v:=.slice (some ⟨w.heap.size,0,none⟩) es.length c) hI p m f (by simp[d]) (λb B=>by rw[kX w1 _ b o_,u])
  (λg t=>by
   cases c with
   |zero=>simp[kI]at t|succ c=>simp only[kI,O7]at t;omega)
  (mS.2 (by
   cases c with
   |zero=>exact⟨l,.inl ⟨_,by rw[bI,Tb.1 s],Ae (Tb.1 s)⟩⟩|succ c=>exact⟨l,.inr ⟨w.heap.size,c,a,E,bI,j,s,r,q,Fx hI,x.mono (CA.refl h) o_ λi z=>gN z⟩⟩))
 refine⟨_,_,h,_,rfl,this.2,this.1,?_⟩;simp only[Rp];exact⟨k_,bI.symm,_,_,_,rfl⟩
def YU(hI:Inv h φ w T){w1:World}(r:w1.heap=w.heap)(g:w1.os=w.os)(f:w1.tape=w.tape)(d:w1.output=w.output){k n c:Nat}{es:N_}(i:∀e∈es,e.length=k/\∀c∈e,aX c=true)(p:es.length=n){a:Array Value}(q:n<=c)(m:c<=maxLen)(l:a.size=c*k)
 (o:cK h es.flatten (a.toList.take (n*k))) (E:TypeId) (j:w.drawn<=w1.drawn:=by first|exact cN _|exact Kl _|assumption):
 jD h φ T w (.ok (.slice (some ⟨w.heap.size,0,none⟩) n c) (w1.alloc (.cells a E))) (.own T.length) (T++[some (.arr k es)]):=tD (b:=true) hI r g f d i p q m l o E j
def Zt {t e:TypeId} (S:P.underlying t=some (.slice e)) {i:TypeInfo} (M:P.info? e=some i) {z:Value} (Q:i.zero=some z) (v:z.cells.size=i.size) (h0:0<i.size) {f:Nat} (K:f*i.size<=2^20) (A:0<f) {g:Array (Nat×Operand)}
 (V:tU G h) (hI:Inv h φ w T) (U:uN h φ T.length s a) {x:AV} {J:aK}
 (m:cE T (dW G s) (.bsl i.size (II z.cells.toList f) (Jb i.size g.toList) f)=some (x,J)):
 jD h φ T w ((Instr.buildSlice t f (g.map λ(i,x)=>(i,a.eval x))).run P w) x J:=by
 simp only[cE]at m;split at m;rename_i cs I;obtain⟨b,n,R⟩:∃b:Bool,(∀c∈cs,PO b c=true)/\(some (AV.own T.length,T++[some (jE b i.size (yI i.size f cs))])=some (x,J)):=by split at m;rename_i n;exact⟨true,λc B=>oD.1 n c B,m⟩;split at m;rename_i n;exact⟨false,λc B=>oD.1 n c B,m⟩;simp at m
 clear m;have m:=R;cases m;obtain⟨r,W,h2⟩:=V0 V U (Jb i.size g.toList) (Mw h φ T.length (II z.cells.toList f)) I;have q:=QZ z.cells o_ f;have o:=Ro (place:=λj=>some (j*i.size,i.size)) (λj=>(j*i.size,i.size)) (g.toList.map λp=>(p.1,a.eval p.2)) ((Array.range (f*z.cells.size)).map λj=>z.cells[j%z.cells.size]!) r (λp _=>rfl)
  (by rw[q,<-W,QX];simp[Rn,rI,Function.comp_def])
 have L:cs.length=f*i.size:=by
  have u:∀(l:List (Nat×Nat×AV))(k cs:O0),JY k l=some cs->cs.length=k.length:=by
   intro l
   induction l with
   |nil=>intro k cs e;simp only[JY,O7]at e;rw[e]|cons p l ih=>
    grind[JY,List.length_append,List.length_take,List.length_drop]
  grind
 obtain⟨O,Y,X⟩:=Kq f cs L;have D:=h2.length;have y:(Instr.buildSlice t f (g.map λ(i,x)=>(i,a.eval x))).run P w=.ok (.slice (some ⟨w.heap.size,0,none⟩) f f) (w.alloc (.cells r.toArray e)):=by
  have F:¬(f*i.size=0):=by have:=Nat.mul_pos A h0;omega
  have E:¬(16777216<f*i.size):=o_;rw[v]at o;simp only[Instr.buildSlice,Sem.run_bind,run_underlying S,Result.andThen_ok,Go.sizeOf,typeInfo,run_program,M,Sem.run_pure,zeroValue];simp only[F,if_false,gt_iff_lt,Nat.reducePow,E,Sem.run_bind,run_program,Result.andThen_ok,M,Q,Sem.run_pure,Array.toList_map,v];simp[o,newRow]
 rw[y];have H:f<=maxLen:=by have h':f<=f*i.size:=Nat.le_mul_of_pos_right _ h0;unfold maxLen;omega
 have C:r.toArray.size=f*i.size:=by rw[Gn];omega
 refine tD hI rfl rfl rfl rfl (λd N=>⟨X d N,λc B=>n c (by rw[<-O];exact Kh.2 ⟨d,N,B⟩)⟩) Y (cN _) H C ?_ e;rw[O];have:(r.toArray.toList.take (f*i.size))=r:=sG (by show r.length<=_;rw[<-D,L];exact cN _);rw[this];exact C6.of h2 n;simp at m
def Lt{i:Nat}{o o':AObj}(hI:Inv h φ w T)(j:T[i]?=some (some o)){g:Nat}{d new:Array Value}{E:TypeId}(k:w.heap[g]?=some (.cells d E (0,0)))(c:kI (φ i)=some g)
 (f:uF h φ T.length (w.setRow g new) i o'):Inv h φ (w.setRow g new) (T.set i (some o'))/\Evo h φ T w h φ (T.set i (some o')) (w.setRow g new):=
 Fw (w':=w.setRow g new) hI rfl rfl rfl k_ j (λb _ a=>setRow_other w g b new λe=>a (by rw[c,e])) f
def aC7 {t:TypeId} {n:Nat} (ht:oZ P t=some n) (Z:tU G h) (hI:Inv h φ w T) (Y:uN h φ T.length s a) {p q:Operand} {x:AV} {T':aK} (y:cE T (dW G s) (.st n p q)=some (x,T')):
 ∃w',(Instr.storeAt t (a.eval p) (a.eval q)).run P w=.ok () w'/\x=.v undef/\Evo h φ T w h φ T' w'/\Inv h φ w' T':=by
 have M:=dN Z Y p;have O:∀(g o:Nat)(m:Array Value)(E:TypeId),w.heap[g]?=some (.cells m E (0,0))->(∀c∈dT (dW G s q),gS c=true)->(dT (dW G s q)).length=n->o+n<=m.size ->
  (Instr.storeAt t (.pointer (some ⟨g,o,none⟩)) (a.eval q)).run P w=.ok () (w.setRow g (m.toList.take o++(a.eval q).cells.toList++m.toList.drop (o+n)).toArray):=by
  intro g o m E D r R am;have I:=CZ (dN Z Y q) r;have N:=I.length;rw[R]at N;have h1:∀v∈(a.eval q).cells.toList,v.oneCell'=true:=by
   intro v hv;obtain⟨j,H⟩:=QF hv;have F:j<(dT (dW G s q)).length:=m_;obtain⟨u,h2,h3⟩:=I.get (jN F);rw[H]at h2;cases h2;exact Lr h3 (r _ (eQ F))
  have:=run_storeCells_at P g o E (a.eval q).cells.toList 0 m w D o_ h1;have aa:(a.eval q).cells.size=n:=e_;simp only[mG]at this;rw[<-N]at this;simp[Instr.storeAt,Instr.sureAddr,storeVar,qM ht,aa,this]
 simp only[cE]at y;split at y;rename_i i off L;rw[L]at M;simp only[Rp]at M;obtain⟨_,g,B,hu⟩:=M;split at y;rename_i cs S;split at y;rename_i A;obtain⟨c1,c2,c3⟩:=A;cases y;obtain⟨g',X,E,f,D,ah,hr⟩:=QU hI S;rw[B]at f;cases f;have r:∀c∈dT (dW G s q),gS c=true:=λc A=>oD.1 c3 c A;have ab:=hr.length;rw[hu,O g off X E D r c1 (by simp only[GV]at ab;omega)];have I:=CZ (dN Z Y q) r;have:=Lt (o':=.box (cs.take off++dT (dW G s q)++cs.drop (off+n))) hI (bH S) D (by rw[B];rfl)
  (new:=(X.toList.take off++(a.eval q).cells.toList++X.toList.drop (off+n)).toArray)
  ⟨g,_,E,B,setRow_heap w g X _ E _ D,ah,by simpa using((hr.take off).app I).app (hr.drop (off+n))⟩
 simp_all;simp at y;simp at y;rename_i i k j off L;rw[L]at M;simp only[Rp]at M;obtain⟨_,g,l,c,B,hu⟩:=M;split at y;rename_i k' C b S;split at y;rename_i hk;subst hk;split at y;rename_i e H;split at y;rename_i A;obtain⟨c1,c2,c3⟩:=A;cases y;have z:∀c∈dT (dW G s q),PO b c=true:=λc A=>oD.1 c3 c A;have r:∀c∈dT (dW G s q),gS c=true:=λc A=>Ls (z c A);obtain⟨J,h1|⟨g',c',m,E,f,D,h2,h3,h4,h5,h6⟩⟩:=rK hI S;rw[h1.choose_spec.2]at H;simp at H;rw[B]at f;injection f with f ae aj;cases f;subst aj;have N:∀e∈C,e.length=k:=λe y=>(J e y).1;have F:j<C.length:=by rcases eD j C.length with hh|hh;exact hh;simp[sX hh]at H
 have an:e.length=k:=N e (Kd H);have af:(j+1)*k<=C.length*k:=aOo k F;have ai:C.length*k<=(c'+1)*k:=aOo k h2;rw[Gp]at af;rw[hu,O g _ m E D r c1 o_];have I:=C6.of (b:=b) (CZ (dN Z Y q) r) z;have K:=Ti (x:=dT (dW G s q)) N H (off:=off) (n:=n) o_;have ad:∀d∈C.set j (e.take off++dT (dW G s q)++e.drop (off+n)),d.length=k/\∀c∈d,PO b c=true:=by intro d hd;rcases aGK hd with hd|rfl;exact J d hd;refine⟨by simp only[dZ,eC,vY];omega,λc A=>?_⟩;have U:=(J e (Kd H)).2;simp only[cG]at A;rcases A with(A|A)|A;exact U c (C8 A);exact z c A;exact U c (QG A)
 have al:=I.length;have W:(a.eval q).cells.toList.length=n:=o_;have ak:=h6.length;rw[Af N]at ak;have V:C.length*k<=m.toList.length:=by rw[show m.toList.length=m.size from GV,h4];exact ai
 have ac:j*k+off+n<=C.length*k:=o_;have Q:(m.toList.take (j*k+off)++(a.eval q).cells.toList++m.toList.drop (j*k+off+n)).length=(c'+1)*k:=by
  have e1:m.toList.length=(c'+1)*k:=by rw[show m.toList.length=m.size from GV,h4]
  simp only[dZ,eC,vY,W];omega
 have:=Lt (o':=jE b k (C.set j (e.take off++dT (dW G s q)++e.drop (off+n)))) hI (bH (DE S)) D (by rw[B];rfl)
  (new:=(m.toList.take (j*k+off)++(a.eval q).cells.toList++m.toList.drop (j*k+off+n)).toArray)
  (mS.2 ⟨ad,.inr ⟨g,c',_,E,by rw[B,cL,ae],setRow_heap w g m _ E _ D,by rw[cL];omega,o_,by
   rw[Gn];exact Q,h5,by
   rw[K,cL];have:=Mz m.toList (a.eval q).cells.toList (j*k+off) n (C.length*k) ac V W;show C6 h φ T.length b _ (List.take _ (m.toList.take (j*k+off)++(a.eval q).cells.toList++m.toList.drop (j*k+off+n)));rw[this]
   exact((h6.take _).app I).app (h6.drop _)⟩⟩)
 exact⟨_,rfl,rfl,this.2,this.1⟩;simp at y;simp at y;simp at y;simp at y;simp at y
end
def kF.vals{h:GH}{b k:Nat}:∀{es:N_}{o:Nat},kF h b k es o ->
 (∀e∈es,e.length=k/\∀c∈e,aX c=true)/\∃a,cK h es.flatten a/\∀j u,a[j]?=some u->oY h b (o+j)=some u
 |[],o,_=>⟨k_,[],by simp[cK],λj u g=>by simp at g⟩| e::es,o,l=>by simp only[kF]at l;obtain⟨v,h2,t⟩:=l;obtain⟨a,m,y⟩:=h2.vals;obtain⟨s,n,r,x⟩:=t.vals;refine⟨λd f=>?_,a++n,by rw[zK];exact m.app r,λj u g=>?_⟩;rcases cS.1 f with rfl|f;refine⟨v,λc q=>?_⟩;obtain⟨i,p⟩:=QF q;exact(h2.get p).choose_spec.1;exact s d f;have w:=m.length;grind
section
variable{P:Program}{G:L_}{h:GH}{φ:Nat->Value}{T:aK}{w:World}{s:List (Nat×AV)}{a:Act}
def Fy{α:Type}{k:Nat}:∀{es:List (List α)},(∀e∈es,e.length=k)->∀(l:Nat),(es.drop l).flatten=es.flatten.drop (l*k)|[],_,l=>by simp|e::es,a,0=>by simp|e::es,a,l+1=>by have c:e.length=k:=a e (by simp);rw[aBO,Fy (λd b=>a d dS) l,zK,Gp,Nat.add_comm,<-Kg,<-c];simp
def Fz{α:Type}{k:Nat}:∀{es:List (List α)},(∀e∈es,e.length=k)->∀(l:Nat),(es.take l).flatten=es.flatten.take (l*k)|[],_,l=>by simp|e::es,a,0=>by simp|e::es,a,l+1=>by have c:e.length=k:=a e (by simp);rw[QI,zK,Fz (λd b=>a d dS) l,zK,Gp,List.take_append,<-c];congr 1;rw[sG o_];congr 1;omega
def aC8{α:Type}{k:Nat}{es:List (List α)}(a:∀e∈es,e.length=k)(l m:Nat):((es.drop l).take m).flatten=(es.flatten.drop (l*k)).take (m*k):=by rw[Fz (λd b=>a d (QG b)),Fy a]
def Zu(T:aK)(k:Nat):AV->Option (N_×Bool)
 |.ls d c=>if k=d then some (c,true) else none|.own a=>match sZ (cR T a) with|some (d,c,b)=>if k=d then some (c,b) else none|_=>none
 |.v (.slice none 0 0)=>some ([],true)|.vw a d f m=>match sZ (cR T a) with|some (e,c,b)=>if k=d/\k=e/\f+m<=c.length then some ((c.drop f).take m,b) else none|_=>none
 |_=>none
def aC9 (hI:Inv h φ w T) {k:Nat} {x:AV} {u:Value} (q:Rp h φ T.length x u) {new:N_} {b:Bool} (e:Zu T k x=some (new,b)):
 (∀e∈new,e.length=k/\∀c∈e,PO b c=true)/\∃A c n,u=.slice A new.length c/\C6 h φ T.length b new.flatten n /\
  (new=[]\/∃b o,A=some ⟨b,o,none⟩/\∀j v,n[j]?=some v->w.cell? ⟨b,o+j,none⟩=some v):=by
 unfold Zu at e;split at e;rename_i S F;split at e;rename_i C;subst C;injection e with e;injection e with f s;subst f;subst s;simp only[Rp,oB]at q;obtain⟨A,c,z,_,_,R⟩:=q;rcases R with rfl|⟨b,o,rfl,Y⟩
 simp_all[C6,cK];obtain⟨Q,U,P,D⟩:=Y.vals;exact⟨Q,_,c,U,z,P,.inr ⟨b,o,rfl,λj v a=>Tf hI (D j v a)⟩⟩;simp at e;rename_i i;split at e;rename_i S F J N;split at e;rename_i C;subst C;injection e with e;injection e with f s;subst f;subst s;simp only[Rp]at q;obtain⟨I,y|⟨g,c,G,E,t,K,h2,R,Q,P,D⟩⟩:=rK hI N;obtain⟨A,y,h2⟩:=y;simp_all[C6,cK,kR];refine⟨I,_,c+1,_,by rw[q.2.1,t],D,.inr ⟨g,0,rfl,λj v a=>?_⟩⟩;rw[DD K];rw[BT]at a;split at a;rw[<-a];simp;simp at a;simp at e;simp at e;injection e with e;injection e with f s;subst f;subst s;simp only[Rp]at q;exact⟨k_,none,0,[],q,by simp[C6,cK],.inl rfl⟩;rename_i i S H m;split at e;rename_i V F J N;split at e;rename_i C;obtain⟨rfl,rfl,B⟩:=C;injection e with e;injection e with f s;subst f;subst s;simp only[Rp]at q;obtain⟨_,A,c,z,_,_,Z⟩:=q;obtain⟨I,y⟩:=rK hI N;have M:∀d∈(F.drop H).take m,d.length=k/\∀c∈d,PO J c=true:=λd O=>I d (QG (C8 O));have L:((F.drop H).take m).length=m:=by rw[eC,vY];omega
 refine⟨M,?_⟩;have r:C6 h φ T.length J [] []:=by cases J<;>simp[C6,cK,kR]
 rcases Z with rfl|⟨g,l,c',t,rfl,X⟩
 exact⟨A,c,[],sD,by simpa using r,.inl k_⟩;by_cases W:m=0;subst W;exact⟨_,c,[],sD,by simpa using r,.inl k_⟩;rcases y with y|⟨g',c2,G,E,p,K,h2,R,Q,P,D⟩
 obtain⟨A,y,rfl⟩:=y;simp at B;omega;rw[t]at p;injection p with f s e3;injection f with f;injection f with f;subst f;refine⟨_,c,((G.toList.take (F.length*k)).drop (H*k)).take (m*k),by rw[z,L],?_,.inr ⟨g,H*k,rfl,λj v a=>?_⟩⟩;rw[aC8 (λd O=>(I d O).1)];exact(D.drop _).take _;rw[DD K];rw[BT]at a;split at a;rw[Hw,BT]at a;split at a;rw[<-a];simp;simp at a;simp at a;simp at e;simp at e;simp at e
def aEX {ev:Operand->AV} {x y:Operand} {k c:Nat} {r:AV} {n:aK} (a:cE T ev (.app x y k c)=some (r,n)):
 ∃ new b,Zu T k (ev y)=some (new,b) /\
  ((ev x=.v (.slice none 0 0)/\new.length*c<=140737488355328/\new.length<=maxLen/\r=.own T.length/\n=T++[some (jE b k new)]) \/
   ∃i d f,ev x=.own i/\sZ (cR T i)=some (k,d,f)/\(d.length+new.length)*c<=140737488355328/\d.length+new.length<=maxLen/\r=.own T.length/\n=T.set i none++[some (jE (b&&f) k (d++new))]):=by
 simp only[cE]at a;split at a;simp at a;rename_i new b o;refine⟨new,b,?_,?_⟩;unfold Zu;exact o;split at a;rename_i g;split at a;rename_i e;injection a with a;injection a with m l;exact .inl ⟨g,e.1,e.2,m.symm,l.symm⟩;simp at a;rename_i i g;split at a;rename_i q d f p;split at a;rename_i e;obtain⟨rfl,j,h⟩:=e;injection a with a;injection a with m l;exact .inr ⟨i,d,f,g,p,j,h,m.symm,l.symm⟩;simp at a;simp at a;simp at a
def Zv {t e ty:TypeId} (ht:P.underlying t=some (.slice e)) {i:TypeInfo} (hi:P.info? e=some i) {z:Value} (hz:i.zero=some z) (bb:z.cells.size=i.size) (h0:0<i.size)
  (hG:tU G h) (hI:Inv h φ w T) (hS:uN h φ T.length s a) {p q:Operand} {x:AV} {T':aK} (he:cE T (dW G s) (.app p q i.size i.bytes)=some (x,T')):
  jD h φ T w ((Builtin.append_ #[t,t] ty #[a.eval p,a.eval q]).run P w) x T':=by
 obtain⟨new,S,aw,aq⟩:=aEX he;have hp:=dN hG hS p;have hq:=dN hG hS q;obtain⟨B,A,c,f,hu,V,F⟩:=aC9 hI hq aw;have k:f.length=new.length*i.size:=by rw[<-V.length,Af λd N=>(B d N).1]
 have ay:∀v∈f,v.oneCell'=true:=by
  intro v hv;obtain⟨j,H⟩:=QF hv;have az:j<new.flatten.length:=by
   rw[V.length];rcases eD j f.length with I|I
   ·exact I
   ·rw[sX I]at H;simp at H
  obtain⟨u,h1,h2⟩:=V.toL.get (jN az);rw[H]at h1;injection h1 with h1;subst h1;obtain⟨d,N,be⟩:=Kh.1 (eQ az);exact Lr h2 (Ls ((B d N).2 _ be))
 have l:∀(m O:Nat)(xs:O5),xs.length=m*i.size->m<=maxLen ->
   (xs.toArray++Builtin.zeroCells z.cells (grownCap w m O e-m)).size=grownCap w m O e*i.size/\(xs.toArray++Builtin.zeroCells z.cells (grownCap w m O e-m)).toList.take (m*i.size)=xs/\m<=grownCap w m O e/\grownCap w m O e<=maxLen:=by
  intro m O xs aj X;have bc:=grownCap_ge w m O e;refine⟨?_,?_,bc,grownCap_le_maxLen w m O e X⟩
  ·simp only[Array.size_append,Gn,size_zeroCells,bb,aj,<-xE];congr 1;omega
  ·simp only[TV];rw[<-aj];exact YL
 rcases aq with⟨hx,hb,X,rfl,rfl⟩|⟨j,C,Z,hx,hg,hb,X,rfl,rfl⟩
 ·
  rw[lW hG hS hx,hu];rcases F with rfl|⟨b,o,rfl,n⟩
  ·have:(Builtin.append_ #[t,t] ty #[.slice none 0 0,.slice A ([]:N_).length c]).run P w=.ok (.slice none 0 0) w:=by cases A<;>simp[Builtin.append_,run_underlying ht,Go.sizeOf,typeInfo,hi,Builtin.lenOf,Builtin.firstCells,loadCells,loadCellsFrom]
   rw[this];have:=tL (w':=w) (o:=jE S i.size []) (v:=.slice none 0 0) hI rfl rfl rfl (cN _) (λ_ _=>rfl) (λg hg=>by simp[kI]at hg) (mS.2 ⟨by simp,.inl ⟨none,bI,rfl⟩⟩);refine⟨_,w,h,_,rfl,this.2,this.1,?_⟩;simp only[Rp];exact⟨by simp,bI.symm,_,_,_,rfl⟩
  ·by_cases aa:new=[]
   ·subst aa;have:(Builtin.append_ #[t,t] ty #[.slice none 0 0,.slice (some ⟨b,o,none⟩) ([]:N_).length c]).run P w=.ok (.slice none 0 0) w:=by simp[Builtin.append_,run_underlying ht,Go.sizeOf,typeInfo,hi,Builtin.lenOf,Builtin.firstCells,loadCells,loadCellsFrom]
    rw[this];have:=tL (w':=w) (o:=jE S i.size []) (v:=.slice none 0 0) hI rfl rfl rfl (cN _) (λ_ _=>rfl) (λg hg=>by simp[kI]at hg) (mS.2 ⟨by simp,.inl ⟨none,bI,rfl⟩⟩);refine⟨_,w,h,_,rfl,this.2,this.1,?_⟩;simp only[Rp];exact⟨by simp,bI.symm,_,_,_,rfl⟩
   ·have ab:0<new.length:=H3.2 aa;have hr:=run_append_nil (P:=P) w t ty e i z ht hi hz ⟨b,o,none⟩ new.length c f k (λj v H=>by rw[iG];exact n j v H) ab (by unfold maxLen at X;omega) (by omega);rw[hr];obtain⟨c1,c2,c3,c4⟩:=l new.length 0 f k X;exact tD (w1:=w.drew) hI rfl rfl rfl rfl B rfl c3 c4 c1 (by rw[c2];exact V) e
 ·
  rw[hx]at hp;simp only[Rp]at hp;obtain⟨hl,h1|⟨g,W,y,E,Q,hw,h2,h3,h4,h5,h6⟩⟩:=rK hI hg
  ·
   obtain⟨A0,Q,rfl⟩:=h1;rw[hp.2.1,Q,hu];simp only[dM,gQ,pQ]at hb X⊢;obtain⟨ah,ar⟩:=xI hI j;have ai:∀{r:Result Value},jD h φ (T.set j none) w r (.own (T.set j none).length) (T.set j none++[some (jE (S&&Z) i.size new)])->jD h φ T w r (.own T.length) (T.set j none++[some (jE (S&&Z) i.size new)]):=by rintro r ⟨v,w',h',φ',m1,m2,m3,m4⟩;rw[cL]at m4;exact⟨v,w',h',φ',m1,ar.trans m2,m3,m4⟩
   apply ai;by_cases aa:new=[]
   ·subst aa;have:(Builtin.append_ #[t,t] ty #[.slice A0 0 0,.slice A ([]:N_).length c]).run P w=.ok (.slice A0 0 0) w:=by cases A0<;>cases A<;>simp[Builtin.append_,run_underlying ht,Go.sizeOf,typeInfo,hi,Builtin.lenOf,Builtin.firstCells,loadCells,loadCellsFrom,storeCells]
    rw[this];have:=tL (w':=w) (o:=jE (S&&Z) i.size []) (v:=.slice A0 0 0) ah rfl rfl rfl (cN _) (λ_ _=>rfl) (λg hg=>by simp[kI]at hg) (mS.2 ⟨by simp,.inl ⟨A0,bI,rfl⟩⟩);refine⟨_,w,h,_,rfl,this.2,this.1,?_⟩;simp only[Rp];exact⟨by simp,bI.symm,_,_,_,rfl⟩
   ·have ab:0<new.length:=H3.2 aa;rcases F with rfl|⟨b,o,rfl,n⟩
    ·exact absurd rfl aa
    ·cases A0 with
     |none=>
      have hr:=run_append_nil (P:=P) w t ty e i z ht hi hz ⟨b,o,none⟩ new.length c f k (λj v H=>by rw[iG];exact n j v H) ab (by unfold maxLen at X;omega) (by omega);rw[hr];obtain⟨c1,c2,c3,c4⟩:=l new.length 0 f k X;exact tD (w1:=w.drew) ah rfl rfl rfl rfl (λd N=>⟨(B d N).1,λc hc=>qO ((B d N).2 c hc) (λI=>(zJ _ _ ▸ I:S=true/\Z=true).1)⟩) rfl c3 c4 c1 (by rw[c2,cL];exact V.weaken (λI=>(zJ _ _ ▸ I:S=true/\Z=true).1)) e
     |some a0=>
      have hr:=run_append_grow (P:=P) w t ty e i z ht hi hz a0 0 0 [] (by simp) (λj v H=>by simp at H) ⟨b,o,none⟩ new.length c f k (λj v H=>by rw[iG];exact n j v H) (by omega) (by unfold maxLen at X;omega) (growslice_fits (by omega) (by simpa using hb));rw[hr];obtain⟨c1,c2,c3,c4⟩:=l new.length 0 f k X;simp only[pQ,YG]at *
      exact tD (w1:=w.drew) ah rfl rfl rfl rfl (λd N=>⟨(B d N).1,λc hc=>qO ((B d N).2 c hc) (λI=>(zJ _ _ ▸ I:S=true/\Z=true).1)⟩) rfl c3 c4 c1 (by rw[c2,cL];exact V.weaken (λI=>(zJ _ _ ▸ I:S=true/\Z=true).1)) e
  ·rw [hp.2.1,Q,hu];have L:(y.toList.take (C.length*i.size)).length=C.length*i.size:=by rw[<-h6.length,Af λd N=>(hl d N).1]
   have am:(S&&Z)=true->S=true/\Z=true:=λI=>by simpa using I
   have ae:∀d∈C++new,d.length=i.size/\∀c∈d,PO (S&&Z) c=true:=by
    intro d N;rcases cG.1 N with N|N
    ·exact⟨(hl d N).1,λc hc=>qO ((hl d N).2 c hc) λI=>(am I).2⟩
    ·exact⟨(B d N).1,λc hc=>qO ((B d N).2 c hc) λI=>(am I).1⟩
   have Y:C6 h φ T.length (S&&Z) (C++new).flatten (y.toList.take (C.length*i.size)++f):=by rw[Kf];exact(h6.weaken λI=>(am I).2).app (V.weaken λI=>(am I).1)
   by_cases K:C.length+new.length<=W+1
   ·
    have hf:(Builtin.firstCells i.size new.length (.slice A new.length c)).run P w=.ok f.toArray w:=by
     rcases F with rfl|⟨b,o,rfl,n⟩
     ·have:f=[]:=Ae (by simpa using k);subst this;cases A<;>simp[Builtin.firstCells,loadCells,loadCellsFrom]
     ·exact run_firstCells_some w i.size new.length ⟨b,o,none⟩ _ _ f k λj v H=>by rw[iG];exact n j v H
    have ba:C.length*i.size+f.length<=y.size:=by rw[k,h4,<-xE];exact aOo _ K
    have nG:=run_storeCells_at P g (C.length*i.size) E f 0 y w hw (by simpa using ba) ay;simp only[mG]at nG;have ax:(Builtin.append_ #[t,t] ty #[.slice (some ⟨g,0,none⟩) C.length (W+1),.slice A new.length c]).run P w =
      .ok (.slice (some ⟨g,0,none⟩) (C.length+new.length) (W+1)) (w.setRow g (y.toList.take (C.length*i.size)++f++y.toList.drop (C.length*i.size+f.length)).toArray):=by
     simp[Builtin.append_,run_underlying ht,Go.sizeOf,typeInfo,hi,Builtin.lenOf,K,hf,iG,nG]
    rw[ax];have bf:=xI hI j;have ad:=bH (DE hg);refine⟨_,_,h,Zp φ T.length (.slice (some ⟨g,0,none⟩) (C.length+new.length) (W+1)),rfl,?_,?_,?_⟩
    ·refine⟨rfl,rfl,rfl,by simp,λb hb M=>setRow_other w g b _ λe=>M j _ ad (by rw[Q,e];rfl),CA.refl h,λ_ _ e=>.inl e,λm X=>gN X,λm o b em af=>?_,by simp,cN _⟩;rcases kG em with⟨ac,J⟩|⟨rfl,J⟩
     ·rw[cL]at ac;rw[gN ac]at af;rcases oM J with⟨_,U⟩|⟨_,U⟩
      ·simp at U
      ·exact .inr ⟨m,o,U,af⟩
     ·rw[cL,bI]at af;simp only[kI,O7]at af;exact .inr ⟨j,_,ad,by rw[Q];simp[kI,af]⟩
    ·refine⟨λb cs eb=>?_,λm o em=>?_,λm m' o o' b em J R D=>?_⟩
     ·obtain⟨E',fr,an⟩:=hI.gh b cs eb;refine⟨E',fr,?_⟩;rw[setRow_other w g b _ λe=>by subst e;rw[h5]at eb;simp at eb];exact an
     ·rcases kG em with⟨ac,J⟩|⟨rfl,J⟩
      ·rw[cL]at ac;rcases oM J with⟨_,U⟩|⟨M,U⟩
       ·simp at U
       ·rw[dZ,cL];have h7:=hI.obj m o U;refine qN h7 (CA.refl h) (by simp) (λj H=>gN H) ac λb an=>?_;obtain⟨h8,h9⟩:=iT h7 an;refine⟨setRow_other w g b _ λe=>M (hI.dis m j o _ b U ad an (by rw[Q,e];rfl)),h9⟩
      ·injection J with J;subst J;rw[cL,dZ,cL];refine mS.2 ⟨ae,.inr ⟨g,W,_,E,by rw[bI,dZ],setRow_heap w g y _ E _ hw,by rw[dZ];exact K,h3,?_,h5,?_⟩⟩
       ·rw[Gn];simp only[dZ,vY,L];rw[show y.toList.length=y.size from GV,<-h4];omega
       ·have ap:(y.toList.take (C.length*i.size)++f).length=(C++new).length*i.size:=by rw[dZ,L,k,dZ,xE]
        show C6 h _ _ (S&&Z) _ (List.take _ (y.toList.take (C.length*i.size)++f++y.toList.drop (C.length*i.size+f.length)));rw[<-ap,YL];exact Y.mono (CA.refl h) (by simp) λi hi=>gN hi
     ·rcases kG em with⟨al,av⟩|⟨rfl,av⟩<;>rcases kG J with⟨ak,au⟩|⟨rfl,au⟩
      ·rw[cL]at al ak;rw[gN al]at R;rw[gN ak]at D;exact bf.1.dis m m' o o' b av au R D
      ·rw[cL]at al D;rw[gN al]at R;rw[bI]at D;simp only[kI,O7]at D;rcases oM av with⟨_,U⟩|⟨M,U⟩
       ·simp at U
       ·exact absurd (hI.dis m j o _ b U ad R (by rw[Q,<-D];rfl)) M
      ·rw[cL]at ak R;rw[gN ak]at D;rw[bI]at R;simp only[kI,O7]at R;rcases oM au with⟨_,U⟩|⟨M,U⟩
       ·simp at U
       ·exact absurd (hI.dis m' j o' _ b U ad D (by rw[Q,<-R];rfl)) M
      ·rfl
    ·simp only[Rp];rw[dZ,cL];exact⟨by simp,by rw[bI],_,_,_,rfl⟩
   ·
    have M:new≠[]:=by rintro rfl;simp at K;omega
    rcases F with rfl|⟨b,o,rfl,n⟩
    ·exact absurd rfl M
    ·have ao:∀j v,(y.toList.take (C.length*i.size))[j]?=some v->w.cell? ((⟨g,0,none⟩:Addr).add j)=some v:=by
      intro j v H;rw[iG,DD hw];rw[BT]at H;split at H
      ·rw[<-H];simp
      ·simp at H
     have hr:=run_append_grow (P:=P) w t ty e i z ht hi hz ⟨g,0,none⟩ C.length (W+1) _ L ao ⟨b,o,none⟩ new.length c f k (λj v H=>by rw[iG];exact n j v H) (by omega) (by unfold maxLen at X;omega) (growslice_fits (by omega) hb);rw[hr];obtain⟨ah,ar⟩:=xI hI j;have ai:∀{r:Result Value},jD h φ (T.set j none) w r (.own (T.set j none).length) (T.set j none++[some (jE (S&&Z) i.size (C++new))])->jD h φ T w r (.own T.length) (T.set j none++[some (jE (S&&Z) i.size (C++new))]):=by rintro r ⟨v,w',h',φ',m1,m2,m3,m4⟩;rw[cL]at m4;exact⟨v,w',h',φ',m1,ar.trans m2,m3,m4⟩
     apply ai;have aj:(y.toList.take (C.length*i.size)++f).length=(C.length+new.length)*i.size:=by rw[dZ,L,k,xE]
     obtain⟨c1,c2,c3,c4⟩:=l (C.length+new.length) (W+1) (y.toList.take (C.length*i.size)++f) aj X;have bd:(y.toList.take (C.length*i.size)).toArray++f.toArray=(y.toList.take (C.length*i.size)++f).toArray:=by simp
     rw[bd];exact tD (w1:=w.drew) ah rfl rfl rfl rfl ae (by simp) c3 c4 c1 (by rw[c2,cL];exact Y) e
end
def IK:∀(xs L:O3),∃l,IC L xs=L++l|[],L=>⟨[],by simp[IC]⟩|i::r,L=>by simp only[IC];split;exact IK r L;obtain⟨l,h⟩:=IK r (L++[i]);simp_all
def DF:∀(xs L:O3),L.Nodup->(IC L xs).Nodup|[],L,h=>h|i::r,L,h=>by simp only[IC];split;exact DF r L h;rename_i c;refine DF r _ (vQ.2 ⟨h,k_,λa e b d=>?_⟩);grind
def M0(T:aK):∀(R:aK)(L:O3),∃l,Ee T R L=L++l|[],L=>⟨[],by simp[Ee]⟩|_::R,L=>by obtain⟨l,h⟩:=IK (aC3 T L) L;obtain⟨a,b⟩:=M0 T R (IC L (aC3 T L));grind[Ee]
def IL(T:aK):∀(R:aK)(L:O3),L.Nodup->(Ee T R L).Nodup|[],_,h=>h|_::R,L,h=>by simp only[Ee];exact IL T R _ (DF _ _ h)
def Tj(T:aK)(ids:O3):(Bc T ids).Nodup:=IL T T _ (DF _ _ k_)
def M1:∀(m k:Nat)(a:O3),∃l,IC (List.range k) (List.range' k m++a)=List.range (k+m)++l|0,k,a=>by simpa using IK a (List.range k)|m+1,k,a=>by simp only[List.range'_succ,jC,IC];rw[if_neg k_];have:=M1 m (k+1) a;grind[List.range_succ]
def Tk(T:aK)(r:Nat)(a:O3):∃l,Bc T (List.range r++a)=List.range r++l:=by obtain⟨l,h⟩:=M1 r 0 a;obtain⟨b,c⟩:=M0 T T (IC [] (List.range r++a));simp_all[Bc,Mk,pQ,List.range_eq_range']
def xJ{L:O3}{i j:Nat}(e:TO L i=some j):L[j]?=some i:=by
 unfold TO at e
 induction L generalizing j with
 |nil=>simp at e| cons a L ih=>
  rw[List.idxOf?_cons]at e;split at e;grind
  cases h:List.idxOf? i L with
  |none=>simp[h]at e|some k=>simp[h]at e;subst e;simp[ih h]
def G8{L:O3}{i j:Nat}(e:TO L i=some j):j<L.length:=by have:=xJ e;grind
section
variable{h h':GH}{φ φc:Nat->Value}{n:Nat}
def Kr(L:O3)(φ φc:Nat->Value):Prop:=∀j i,L[j]?=some i->φc j=φ i
mutual
def V3{L:O3}(a:Kr L φ φc):∀{x:AV}{u:Value},Rp h φ n x u->Rp h φc L.length (Bd L x) u
 |.v _,_,e=>by simpa[Rp,Bd]using e|.ls _ _,_,e=>by simp only[Rp,Bd]at *;exact e|.ag g,_,e=>by simp only[Rp,Bd]at *;obtain⟨c,d,h2⟩:=e;exact⟨c,d,DG a h2⟩
 |.own i,_,e=>by
  simp only[Rp,Bd]at *
  split;rename_i j b;simp only[Rp];exact⟨G8 b,by rw[a _ _ (xJ b)];exact e.2.1,e.2.2⟩;simp[Rp]
 |.ptr i o,_,e=>by
  simp only[Rp,Bd]at *
  split;rename_i j b;simp only[Rp];exact⟨G8 b,by rw[a _ _ (xJ b)];exact e.2⟩;simp[Rp]
 |.elt i k m o,_,e=>by
  simp only[Rp,Bd]at *
  split;rename_i j b;simp only[Rp];exact⟨G8 b,by rw[a _ _ (xJ b)];exact e.2⟩;simp[Rp]
 |.vw i k m o,_,e=>by
  simp only[Rp,Bd]at *
  split;rename_i j b;simp only[Rp];exact⟨G8 b,by rw[a _ _ (xJ b)];exact e.2⟩;simp[Rp]
 |.mp i,_,e=>by
  simp only[Rp,Bd]at *
  split;rename_i j b;simp only[Rp];exact⟨G8 b,by rw[a _ _ (xJ b)];exact e.2.1,e.2.2⟩;simp[Rp]
 |.yl i,_,e=>by
  simp only[Rp,Bd]at *
  split;rename_i j b;simp only[Rp];exact⟨G8 b,by rw[a _ _ (xJ b)];exact e.2.1,e.2.2⟩;simp[Rp]
 |.rp _,_,e=>by simp only[Rp,Bd]at *;exact e|.cl f g,_,e=>by simp only[Rp,Bd]at *;obtain⟨c,d,h2⟩:=e;exact⟨c,d,DG a h2⟩
 |.bm f l g,_,e=>by simp only[Rp,Bd]at *;obtain⟨c,d,h2⟩:=e;exact⟨c,d,DG a h2⟩
 |.tup g,_,e=>by simp only[Rp,Bd]at *;obtain⟨c,d,h2⟩:=e;exact⟨c,d,DG a h2⟩
 |.any,_,_=>by simp[Rp,Bd]
def DG{L:O3}(a:Kr L φ φc):∀{cs:O0}{us:O5},kR h φ n cs us->kR h φc L.length (xF L cs) us
 |[],_,e=>by simpa[kR,xF]using e
 |c::cs,us,e=>by
  simp only[kR,xF]at *
  obtain⟨u,b,f,h2,d⟩:=e;exact⟨u,b,f,V3 a h2,DG a d⟩
end
def aCa{L:O3}(b:Kr L φ φc){f:Nat->Value}:∀{s:List (Nat×AV)},(∀p∈s,Rp h φ n p.2 (f p.1))->∀p∈Td L s,Rp h φc L.length p.2 (f p.1)
 |[],_,p,a=>by simp[Td]at a
 |(i,x)::s,c,p,a=>by simp only[Td]at a;rcases cS.1 a with rfl|a;exact V3 b (c (i,x) k_);exact aCa b (λq d=>c q (by simp[d])) p a
def Rq{L:O3}{i:Nat}{y:AV}:∀{s:List (Nat×AV)},(i,y)∈Td L s->∃x,(i,x)∈s/\y=Bd L x|[],h=>by simp[Td]at h|(j,x)::s,h=>by simp only[Td]at h;rcases cS.1 h with h|h;simp_all;obtain⟨a,b,h2⟩:=Rq h;exact⟨a,dS,h2⟩
theorem YV{L:O3}:∀(cs:O0),(xF L cs).length=cs.length|[]=>rfl|c::cs=>by simp[xF,YV cs]
def Tl{L:O3}:∀(es:N_),(XQ L es).flatten=xF L es.flatten
 |[]=>rfl
 | e::es=>by
  have d:∀(a b:O0),xF L (a++b)=xF L a++xF L b:=by
   intro a b
   induction a with
   |nil=>rfl
   |cons c a ih=>simp[xF,ih]
  simp only[XQ,zK,Tl es,d]
def Lu{L:O3}:∀(es:N_),(XQ L es).length=es.length|[]=>rfl|e::es=>by simp[XQ,Lu es]
def YW{L:O3}{d:O0}:∀{es:N_},d∈XQ L es->∃e∈es,d=xF L e|[],h=>by simp[XQ]at h|e::es,h=>by simp only[XQ]at h;rcases cS.1 h with rfl|h;simp;obtain⟨b,a,h2⟩:=YW h;exact⟨b,db,h2⟩
def aHk{L:O3}(t:Kr L φ φc){w:World}{i j:Nat}{o o':AObj}(R:L[j]?=some i)(l:YQ L o=some o')(e:uF h φ n w i o):uF h φc L.length w j o':=by
 have p:=t j i R
 cases o with
 |box cs=>
  simp only[YQ,O7]at l;subst l;obtain⟨g,O,E,q,h2,u,v⟩:=e;exact⟨g,O,E,d7,h2,u,DG t v⟩
 |arr k T=>
  simp only[YQ,O7]at l;subst l;obtain⟨G,q|⟨g,c,B,E,q,h2⟩⟩:=e;exact⟨G,.inl d7⟩;exact⟨G,.inr ⟨g,c,B,E,d7,h2⟩⟩
 | arf k T=>
  simp only[YQ]at l;split at l;rename_i K;injection l with l;subst l;obtain⟨G,q|⟨g,c,B,E,q,h2,u,v,z,C,D⟩⟩:=e;refine⟨λd N=>?_,.inl (by rw[p];obtain⟨A,hA,rfl⟩:=q;exact⟨A,hA,rfl⟩)⟩;grind[XQ];refine⟨λd N=>?_,.inr ⟨g,c,B,E,by rw[p,Lu];exact q,h2,by rw[Lu];exact u,v,z,C,by rw[Tl,Lu];exact DG t D⟩⟩;obtain⟨e',S,rfl⟩:=YW N;grind[YV];simp at l
 |map ag Z W bs cl=>
  simp only[YQ,O7]at l;subst l;obtain⟨g,H,q,h2,u,v,z,C⟩:=e;exact⟨g,H,d7,h2,u,v,z,DG t C⟩
 |lp r s=>
  simp only[YQ,O7]at l;subst l;obtain⟨g,q,h2,u,v,z⟩:=e;refine⟨g,d7,h2,u,λa x y Q P=>?_,aCa (f:=λj=>r.tmps.getD j undef) t z⟩;obtain⟨V,C,rfl⟩:=Rq Q;obtain⟨U,D,rfl⟩:=Rq P;grind
 | mit m F I X=>
  obtain⟨g,J,q,h2,u,v⟩:=e
  cases m with
  |none=>
   simp only[YQ,O7]at l;subst l;exact⟨g,J,d7,h2,u,v⟩
  |some m=>
   simp only[YQ]at l;split at l;rename_i Y M;injection l with l;subst l;obtain⟨b,z,C,D⟩:=v;exact⟨g,J,d7,h2,u,b,z,G8 M,by rw[t _ _ (xJ M)];exact D⟩;simp at l
def IM{L:O3}{T:aK}{j:Nat}{o:AObj}(e:(GX L T)[j]?=some (some o)):∃i a,L[j]?=some i/\T[i]?=some (some a)/\YQ L a=some o:=by
 unfold GX at e;rw[gE]at e
 cases c:L[j]? with
 |none=>simp[c]at e| some i=>
  simp only[c,iX,O7]at e
  cases b:cR T i with
  |none=>simp[b]at e|some a=>
   simp only[b,H6]at e;exact⟨i,a,rfl,bH b,e⟩
def aCb{L:O3}(hL:L.Nodup){T:aK}{w:World}(hI:Inv h φ w T)(hφ:Kr L φ φc):Inv h φc w (GX L T):=by
 have hlen:(GX L T).length=L.length:=by simp[GX]
 refine⟨hI.gh,λj o e=>?_,λj j' o o' b e e' hb hb'=>?_⟩;obtain⟨i,o',hj,hi,ho⟩:=IM e;rw[hlen];exact aHk hφ hj ho (hI.obj i o' hi);obtain⟨i,x,hj,hi,_⟩:=IM e;obtain⟨i',x',hj',hi',_⟩:=IM e';rw[hφ _ _ hj]at hb;rw[hφ _ _ hj']at hb';have:=hI.dis i i' x x' b hi hi' hb hb';subst this;have hlt:j<L.length:=m_;exact(List.getElem?_inj hlt hL).1 (by rw[hj,hj'])
def aGQ{L:O3}{j i:Nat}(hj:L[j]?=some i):bk L n j=i:=by grind[bk]
def aGR{L:O3}{j:Nat}(hj:L.length<=j):bk L n j=n+(j-L.length):=by grind[bk]
mutual
def V4{L:O3}{m g:Nat}(a:∀j,j<m->φ (bk L n j)=φc j/\bk L n j<g):∀{x:AV}{u:Value},Rp h φc m x u->Rp h φ g (AR L n x) u
 |.v _,_,e=>by simpa[Rp,AR]using e
 |.ls _ _,_,e=>by simp only[Rp,AR]at *;exact e
 |.ag d,_,e=>by simp only[Rp,AR]at *;obtain⟨b,c,h2⟩:=e;exact⟨b,c,Eh a h2⟩
 |.own i,_,e=>by
  grind[Rp,AR]
 |.ptr i o,_,e=>by
  grind[Rp,AR]
 |.elt i k j o,_,e=>by
  grind[Rp,AR]
 |.vw i k j o,_,e=>by
  grind[Rp,AR]
 |.mp i,_,e=>by
  grind[Rp,AR]
 |.yl i,_,e=>by
  grind[Rp,AR]
 |.rp _,_,e=>by simp only[Rp,AR]at *;exact e
 |.cl f d,_,e=>by simp only[Rp,AR]at *;obtain⟨b,c,h2⟩:=e;exact⟨b,c,Eh a h2⟩
 |.bm f l d,_,e=>by simp only[Rp,AR]at *;obtain⟨b,c,h2⟩:=e;exact⟨b,c,Eh a h2⟩
 |.tup d,_,e=>by simp only[Rp,AR]at *;obtain⟨b,c,h2⟩:=e;exact⟨b,c,Eh a h2⟩
 |.any,_,_=>by simp[Rp,AR]
def Eh{L:O3}{m d:Nat}(a:∀j,j<m->φ (bk L n j)=φc j/\bk L n j<d):∀{cs:O0}{us:O5},kR h φc m cs us->kR h φ d (EJ L n cs) us
 |[],_,e=>by simpa[kR,EJ]using e
 |c::cs,us,e=>by
  simp only[kR,EJ]at *
  obtain⟨u,b,g,h2,f⟩:=e;exact⟨u,b,g,V4 a h2,Eh a f⟩
end
def aCc{L:O3}{m c:Nat}(b:∀j,j<m->φ (bk L n j)=φc j/\bk L n j<c){f:Nat->Value}:∀{s:List (Nat×AV)},(∀p∈s,Rp h φc m p.2 (f p.1))->∀p∈bkS L n s,Rp h φ c p.2 (f p.1)
 |[],_,p,a=>by simp[bkS]at a
 |(i,x)::s,d,p,a=>by simp only[bkS]at a;rcases cS.1 a with rfl|a;exact V4 b (d (i,x) k_);exact aCc b (λq e=>d q (by simp[e])) p a
def Rr{L:O3}{i:Nat}{y:AV}:∀{s:List (Nat×AV)},(i,y)∈bkS L n s->∃x,(i,x)∈s/\y=AR L n x
 |[],h=>by simp[bkS]at h
 |(j,x)::s,h=>by simp only[bkS]at h;rcases cS.1 h with h|h;simp_all;obtain⟨a,b,h2⟩:=Rr h;exact⟨a,dS,h2⟩
def YX{L:O3}:∀(cs:O0),(EJ L n cs).length=cs.length
 |[]=>rfl
 |c::cs=>by simp[EJ,YX cs]
theorem aHl{L:List Nat}:∀{c:AV},gS (AR L n c)=gS c:=by intro c;cases c<;>simp only[AR]<;>simp[gS]
def Tm{L:O3}:∀(es:N_),(bkF L n es).flatten=EJ L n es.flatten
 |[]=>rfl
 | e::es=>by
  have d:∀(a b:O0),EJ L n (a++b)=EJ L n a++EJ L n b:=by
   intro a b
   induction a with
   |nil=>rfl
   |cons c a ih=>simp[EJ,ih]
  simp only[bkF,zK,Tm es,d]
def Lv{L:O3}:∀(es:N_),(bkF L n es).length=es.length
 |[]=>rfl
 |e::es=>by simp[bkF,Lv es]
def YY{L:O3}{d:O0}:∀{es:N_},d∈bkF L n es->∃e∈es,d=EJ L n e
 |[],h=>by simp[bkF]at h
 |e::es,h=>by simp only[bkF]at h;rcases cS.1 h with rfl|h;simp;obtain⟨b,a,h2⟩:=YY h;exact⟨b,db,h2⟩
def YZ{L:O3}{d:AV}:∀{es:O0},d∈EJ L n es->∃e∈es,d=AR L n e
 |[],h=>by simp[EJ]at h
 |e::es,h=>by simp only[EJ]at h;rcases cS.1 h with rfl|h;simp;obtain⟨b,a,h2⟩:=YZ h;exact⟨b,db,h2⟩
def aHm{L:O3}{m m':Nat}(hφ:∀j,j<m->φ (bk L n j)=φc j/\bk L n j<m'){w:World}{j:Nat}(hj:j<m){o o':AObj}(ho:DC L n (some o)=some o')(e:uF h φc m w j o):uF h φ m' w (bk L n j) o':=by
 have hij:=(hφ j hj).1
 cases o with
 |box cs=>
  simp only[DC,O7]at ho;subst ho;obtain⟨g,us,E,h1,h2,h3,h4⟩:=e;exact⟨g,us,E,dp,h2,h3,Eh hφ h4⟩
 |arr k es=>
  simp only[DC,O7]at ho;subst ho;obtain⟨h0,h1|⟨g,c,cur,E,h1,h2⟩⟩:=e;exact⟨h0,.inl dp⟩;exact⟨h0,.inr ⟨g,c,cur,E,dp,h2⟩⟩
 | arf k es=>
  simp only[DC,O7]at ho;subst ho;obtain⟨h0,h1⟩:=e;refine⟨λd hd=>?_,?_⟩;obtain⟨e',he',rfl⟩:=YY hd;refine⟨by rw[YX];exact(h0 e' he').1,λc hc=>?_⟩;obtain⟨c',hc',rfl⟩:=YZ hc;grind[aHl];rcases h1 with⟨A,hA,rfl⟩|⟨g,c,cur,E,h1,h2,h3,h4,h5,h6,h7⟩
  exact .inl ⟨A,by rw[hij];exact hA,rfl⟩;exact .inr ⟨g,c,cur,E,by rw[hij,Lv];exact h1,h2,by rw[Lv];exact h3,h4,h5,h6,by rw[Tm,Lv];exact Eh hφ h7⟩
 |lp r s=>
  simp only[DC,O7]at ho;subst ho;obtain⟨g,h1,h2,h3,h4,h5⟩:=e;refine⟨g,dp,h2,h3,λa x y hx hy=>?_,aCc (f:=λj=>r.tmps.getD j undef) hφ h5⟩;obtain⟨x',h6,rfl⟩:=Rr hx;obtain⟨y',h7,rfl⟩:=Rr hy;grind
 | mit m0 since seen st=>
  obtain⟨g,mo,h1,h2,h3,h4⟩:=e
  cases m0 with
  |none=>
   simp only[DC,O7]at ho;subst ho;exact⟨g,mo,dp,h2,h3,h4⟩
  |some m0=>
   simp only[DC,O7]at ho;subst ho;obtain⟨b,h5,h6,h7⟩:=h4;exact⟨g,mo,dp,h2,h3,b,h5,(hφ m0 h6).2,by rw[(hφ m0 h6).1];exact h7⟩
 |map ag ks vs bs cl=>
  simp only[DC,O7]at ho;subst ho;obtain⟨g,ens,h1,h2,h3,h4,h5,h6⟩:=e;exact⟨g,ens,dp,h2,h3,h4,h5,Eh hφ h6⟩
def Ya{L:O3}:∀(b:O3)(T a:aK),b.length<=a.length->(IF L n T b a).length=T.length+(a.length-b.length)
 |[],T,[],_=>by simp[IF]
 |[],T,o::a,_=>by simp[IF]
 |i::b,T,[],h=>by simp at h
 |i::b,T,o::a,h=>by simp only[IF];rw[Ya b _ a n_];simp
def Yb{L:O3}:∀(b:O3)(T c:aK)(i:Nat)(o:AObj),b.Nodup->(∀x∈b,x<T.length)->b.length<=c.length->(IF L n T b c)[i]?=some (some o) ->
 (∃j:Nat,b[j]?=some i/\∃d,c[j]?=some d/\DC L n d=some o)\/(i<T.length/\i∉b/\T[i]?=some (some o))\/(T.length<=i/\∃d,c[b.length+(i-T.length)]?=some d/\DC L n d=some o)
 |[],T,[],i,o,_,_,_,e=>by
  grind[IF]
 |[],T,x::c,i,o,_,_,_,e=>by
  grind[IF]
 |a::b,T,[],i,o,_,_,h,_=>by simp at h
 | a::b,T,x::c,i,o,r,m,k,e=>by
  simp only[IF]at e;obtain⟨q,g⟩:=BU.1 r;have s:=m a k_;rcases Yb b (T.set a (DC L n x)) c i o g (λy p=>by rw[cL];exact m y (by simp[p])) sj e with⟨j,hj,h2⟩|⟨h1,h2,f⟩|⟨h1,h2⟩
  exact .inl ⟨j+1,dD,dx⟩;rw[cL]at h1;rw[Hx]at f;split at f;rename_i l;subst l;injection f with f;exact .inl ⟨0,k_,x,k_,f⟩;simp_all;omega;grind
def Tn{L:O3}{o':Option AObj}{o:AObj}(e:DC L n o'=some o):∃x,o'=some x:=by
 cases o' with
 |none=>simp[DC]at e
 |some x=>exact⟨x,rfl⟩
def aCd {L:O3} (hL:L.Nodup) {T:aK} (P:∀i∈L,i<T.length) {w:World} (hI:Inv h φ w T) {y:aK} {h':GH} {m:Nat->Value} {w':World}
 (N:Kr L φ φc) (t:Evo h φc (GX L T) w h' m y w') (G:Inv h' m w' y) {r:AV} {v:Value} (hr:Rp h' m y.length r v):
 ∃s,Evo h φ T w h' s (IF L T.length T L y) w'/\Inv h' s w' (IF L T.length T L y)/\Rp h' s (IF L T.length T L y).length (AR L T.length r) v:=by
 have aa:(GX L T).length=L.length:=by simp[GX]
 have Q:L.length<=y.length:=by have:=t.len;omega
 have ab:=Ya (L:=L) (n:=T.length) L T y Q;let s:Nat->Value:=λi=>if i<T.length then φ i else m (L.length+(i-T.length))
 have d:∀j,j<y.length->s (bk L T.length j)=m j/\bk L T.length j<(IF L T.length T L y).length:=by intro j p;rcases eD j L.length with I|I;have R:L[j]?=some L[j]:=jN I;have F:=P _ (eQ I);rw[aGQ R];refine⟨?_,o_⟩;show(if L[j]<T.length then φ L[j] else _)=_;rw[if_pos F,t.phi j o_,N j _ R];rw[aGR I];grind
 have f:∀i,i<T.length->s i=φ i:=λi hi=>if_pos hi;have c:∀b,(∃j o,(GX L T)[j]?=some (some o)/\kI (φc j)=some b)->∃i o,i∈L/\T[i]?=some (some o)/\kI (φ i)=some b:=by rintro b ⟨j,o,p,k⟩;obtain⟨i,q,a,h2,_⟩:=IM p;exact⟨i,q,Kd a,h2,by rw[<-N j i a];exact k⟩
 have A:∀i o,i<T.length->i∉L->T[i]?=some (some o)->∀b,kI (φ i)=some b->b<w.heap.size/\h b=none/\¬∃j o,(GX L T)[j]?=some (some o)/\kI (φc j)=some b:=by intro i o hi ac V b k;obtain⟨a,h2⟩:=iT (hI.obj i o V) k;refine⟨a,h2,λD=>?_⟩;obtain⟨i',q,F,W,l⟩:=c b D;have:=hI.dis i i' o q b V W k l;simp_all
 have z:∀i o,(IF L T.length T L y)[i]?=some (some o) ->
  (∃j x,j<y.length/\bk L T.length j=i/\y[j]?=some (some x)/\DC L T.length (some x)=some o)\/(i<T.length/\i∉L/\T[i]?=some (some o)):=by
  intro i o e;rcases Yb L T y i o hL P Q e with⟨j,a,q,h2,u⟩|a|⟨a,q,h2,u⟩
  obtain⟨x,rfl⟩:=Tn u;refine .inl ⟨j,x,?_,aGQ a,h2,u⟩;grind;exact .inr a;obtain⟨x,rfl⟩:=Tn u;refine .inl ⟨_,x,?_,?_,h2,u⟩;grind;rw[aGR o_];omega
 refine⟨s,⟨t.os,t.tape,t.output,t.size,?_,t.le,?_,f,?_,o_,t.drawn⟩,⟨G.gh,?_,?_⟩,V4 d hr⟩;intro b k hn;refine t.frame b k λj o p B=>?_;obtain⟨i,q,_,a,h2⟩:=c b ⟨j,o,p,B⟩;exact hn i q a h2;intro b cs e;rcases t.gfr b cs e with a|a|⟨j,o,p,B⟩
 exact .inl a;exact .inr (.inl a);obtain⟨i,q,_,a,h2⟩:=c b ⟨j,o,p,B⟩;exact .inr (.inr ⟨i,q,a,h2⟩);intro i o b e k;rcases z i o e with⟨j,x,p,rfl,D,_⟩|⟨a,h2,u⟩
 rw[(d j p).1]at k;rcases t.org j x b D k with K|⟨M,q,K,Y⟩
 exact .inl K;obtain⟨i,q,_,J,E⟩:=c b ⟨M,q,K,Y⟩;exact .inr ⟨i,q,J,E⟩;rw[f i a]at k;exact .inr ⟨i,o,u,k⟩;intro i o e;rcases z i o e with⟨j,x,p,rfl,D,V⟩|⟨a,h2,u⟩
 exact aHm d p V (G.obj j x D);refine qN (hI.obj i o u) t.le o_ (λj p=>f j p) a λg hg=>?_;obtain⟨K,Y,J⟩:=A i o a h2 u g hg;refine⟨t.frame g K λj o p B=>J ⟨j,o,p,B⟩,?_⟩
 cases I:h' g with
 |none=>rfl
 |some cs=>
  rcases t.gfr g cs I with E|E|E;rw[Y]at E;simp at E;omega;exact absurd E J
 intro i i' o q b e e' k l;have C:∀{i i':Nat}{o:AObj}{j:Nat}{x:AObj},i<T.length->i∉L->T[i]?=some (some o)->kI (φ i)=some b->y[j]?=some (some x)->kI (m j)=some b->False:=by intro i i' o j x a h2 u k D X;obtain⟨K,_,J⟩:=A i o a h2 u b k;rcases t.org j x b D X with E|E;omega;exact J E
 rcases z i o e with⟨j,x,p,rfl,D,_⟩|⟨a,h2,u⟩<;>rcases z i' q e' with⟨M,x',S,rfl,O,_⟩|⟨H,Z,U⟩
 rw[(d j p).1]at k;rw[(d M S).1]at l;rw[G.dis j M x x' b D O k l];rw[(d j p).1]at k;rw[f i' H]at l;exact(C (i':=0) H Z U l D k).elim;rw[(d M S).1]at l;rw[f i a]at k;exact(C (i':=0) a h2 u k O l).elim;rw[f i a]at k;rw[f i' H]at l;exact hI.dis i i' o q b u U k l
end
end Hud
