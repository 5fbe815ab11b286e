import Derived.Test.YtdichbeaekjibaaGreatDoorLib00
set_option linter.all false
namespace Hud
open Go
section
section
variable {P:Program} {w:World}
def xW:∀ {ks:List LK} {xs ys:List Value} {b:Bool},oU ks xs ys=some b→xs.length=ks.length∧ys.length=ks.length
 | [],xs,ys,b,e=>by cases xs<;>cases ys<;>simp_all [oU]
 | k::ks,xs,ys,b,e=>by
  cases xs with
  | nil=>cases k<;>simp [oU] at e
  | cons x xs =>
   cases ys with
   | nil=>cases k<;>cases x<;>simp [oU] at e
   | cons y ys =>
    cases k<;>cases x<;>cases y<;>simp only [oU] at e<;>(try (simp at e;done))
    case int.int.int k k1 p k2 q =>
     split at e
     ·split at e
      ·rename_i r hr;have:=xW hr;simp_all
      ·simp at e
     ·simp at e
    all_goals
     split at e
     ·rename_i r hr
      have:=xW hr
      simp [this.1,this.2]
     ·simp at e
def Fg:∀ {ks ls:List LK} {xs ys:List Value} {b:Bool},oU (ks++ls) xs ys=some b →
  ∃ b1 b2,oU ks (xs.take ks.length) (ys.take ks.length)=some b1∧oU ls (xs.drop ks.length) (ys.drop ks.length)=some b2∧b=(b1&&b2)
 | [],ls,xs,ys,b,e=>⟨true,b,by simp [oU],by simpa using e,by simp⟩
 | k::ks,ls,xs,ys,b,e=>by
  cases xs with
  | nil=>cases k<;>simp [oU] at e
  | cons x xs =>
   cases ys with
   | nil=>cases k<;>cases x<;>simp [oU] at e
   | cons y ys =>
    simp only [fX] at e;cases k<;>cases x<;>cases y<;>simp only [oU] at e<;>(try (simp at e;done))
    case int.int.int k k1 a k2 c =>
     split at e
     ·rename_i hk;split at e
      ·rename_i r hr;injection e with e;obtain ⟨b1,b2,h1,h2,h3⟩:=Fg hr;grind [oU,Bool.and_assoc]
      ·simp at e
     ·simp at e
    case bool.bool.bool a c =>
     split at e
     ·rename_i r hr;injection e with e;obtain ⟨b1,b2,h1,h2,h3⟩:=Fg hr;grind [oU,Bool.and_assoc]
     ·simp at e
    case str.string.string a c =>
     split at e
     ·rename_i r hr;injection e with e;obtain ⟨b1,b2,h1,h2,h3⟩:=Fg hr;grind [oU,Bool.and_assoc]
     ·simp at e
abbrev Jd (ag:Bool) (xs:List Value):Value:=gY ag xs
def CR {t:TypeId} {X:Array Value} {off:Nat} {ag:Bool} {n:Nat} (ha:D2 P t=some (aC0 ag n)) (hn:ag=false→n=1) (hl:off+n≤X.size) :
  (part t X off).run P w=.ok (Jd ag ((X.toList.drop off).take n)) w:=by
 cases ag with
 | false =>
  have:=hn rfl;subst this;have h0:D2 P t=some none:=ha;have h:=DU (w:=w) h0;have hx:X[off]?=some X[off]:=Nw (by omega);simp only [part,Sem.run_bind,h.1,Result.andThen_ok,kB,if_false,hx,gY];simp [FV,hx]
 | true =>
  have h0:D2 P t=some (some n):=ha;have h:=DU (w:=w) h0;simp only [part,Sem.run_bind,h.1,h.2,Result.andThen_ok,if_true,gY,Sem.run_pure];congr 2;grind
def Mv {n:Nat} (ih:∀ t ag ks,fH P n t=some (ag,ks)→(ag=false→ks.length=1)∧∀ d,n≤d→∀ xs ys b,oU ks xs ys=some b→(Op.equalIn d t (Jd ag xs) (Jd ag ys)).run P w=.ok b w)
  {d:Nat} (hd:n≤d) (X Y:Array Value):∀ (fs:List Field) (off:Nat) (ks:List LK) (b:Bool),Ei P (fH P n) fs off=some ks →
   oU ks (X.toList.drop off) (Y.toList.drop off)=some b→off≤X.size→off≤Y.size→(Op.eqFields d X Y fs).run P w=.ok b w
 | [],off,ks,b,hk,he,_,_=>by
  simp only [Ei] at hk;injection hk with hk;subst hk;cases hx:X.toList.drop off<;>cases hy:Y.toList.drop off<;>rw [hx,hy] at he<;>simp [oU] at he;subst he;simp [Op.eqFields]
 | f::fs,off,ks,b,hk,he,hX,hY=>by
  simp only [Ei] at hk;split at hk
  ·rename_i ag ks1 hg;split at hk
   ·rename_i hc;obtain ⟨hname,hoff,hag⟩:=hc;split at hk
    ·rename_i l hl;injection hk with hk;subst hk;obtain ⟨b1,b2,h1,h2,h3⟩:=Fg he;have hlen:=xW he;simp only [xS,gK,Dx] at hlen;obtain ⟨hone,hi⟩:=ih _ _ _ hg;have hpx:(part f.type X f.offset).run P w=.ok (Jd ag ((X.toList.drop off).take ks1.length)) w:=by
      rw [hoff];exact CR hag hone (by omega)
     have hpy:(part f.type Y f.offset).run P w=.ok (Jd ag ((Y.toList.drop off).take ks1.length)) w:=by
      rw [hoff];exact CR hag hone (by omega)
     have hr:=hi d hd _ _ _ h1;simp only [Op.eqFields,hname,ne_eq,not_false_eq_true,if_true,Sem.run_bind,hpx,hpy,Result.andThen_ok,hr];rw [Hi,Hi] at h2;have hrec:=Mv ih hd X Y fs (off+ks1.length) l b2 hl h2 (by omega) (by omega);cases b1
     ·simp [h3]
     ·simp [hrec,h3]
    ·simp at hk
   ·simp at hk
  ·simp at hk
def DV:∀ (n:Nat) (t:TypeId) (ag:Bool) (ks:List LK),fH P n t=some (ag,ks) →
  (ag=false→ks.length=1)∧∀ d,n≤d→∀ xs ys b,oU ks xs ys=some b→(Op.equalIn d t (Jd ag xs) (Jd ag ys)).run P w=.ok b w
 | 0,_,_,_,e=>by simp [fH] at e
 | n+1,t,ag,ks,e=>by
  have leaf:∀ (k:LK) (xs ys:List Value) (b:Bool),oU [k] xs ys=some b→∃ x y,xs=[x]∧ys=[y]:=by
   intro k xs ys b hb;have:=xW hb
   match xs,ys,this with
   | [x],[y],_=>exact ⟨x,y,rfl,rfl⟩
  simp only [fH] at e;split at e
  ·rename_i k hu;injection e with e;injection e with e1 e2;subst e1;subst e2;refine ⟨λ_=>rfl,λd hd xs ys b hb=>?_⟩;obtain ⟨d,rfl⟩:∃ d',d=d'+1:=⟨d-1,by omega⟩
   obtain ⟨x,y,rfl,rfl⟩:=leaf _ _ _ _ hb;cases x<;>cases y<;>simp only [oU] at hb<;>(try (simp at hb;done))
   split at hb
   ·rename_i hk;obtain ⟨rfl,rfl⟩:=hk;injection hb with hb;subst hb;simp only [gY,AI,kB,if_false,List.getD_cons_zero];exact run_equalIn_int w d t _ _ _ _ hu
   ·simp at hb
  ·rename_i hu;injection e with e;injection e with e1 e2;subst e1;subst e2;refine ⟨λ_=>rfl,λd hd xs ys b hb=>?_⟩;obtain ⟨d,rfl⟩:∃ d',d=d'+1:=⟨d-1,by omega⟩
   obtain ⟨x,y,rfl,rfl⟩:=leaf _ _ _ _ hb;cases x<;>cases y<;>simp only [oU] at hb<;>(try (simp at hb;done))
   injection hb with hb;subst hb;simp [gY,run_equalIn_bool' w d t _ _ hu]
  ·rename_i hu;injection e with e;injection e with e1 e2;subst e1;subst e2;refine ⟨λ_=>rfl,λd hd xs ys b hb=>?_⟩;obtain ⟨d,rfl⟩:∃ d',d=d'+1:=⟨d-1,by omega⟩
   obtain ⟨x,y,rfl,rfl⟩:=leaf _ _ _ _ hb;cases x<;>cases y<;>simp only [oU] at hb<;>(try (simp at hb;done))
   injection hb with hb;subst hb;simp [gY,run_equalIn_string w d t _ _ hu]
  ·rename_i fs hu;split at e
   ·simp at e
   ·rename_i hs;split at e
    ·rename_i l hl;injection e with e;injection e with e1 e2;subst e1;subst e2;refine ⟨λh=>by simp at h,λd hd xs ys b hb=>?_⟩;obtain ⟨d,rfl⟩:∃ d',d=d'+1:=⟨d-1,by omega⟩
     have hf:P.fieldsOf t=fs:=by simp [Program.fieldsOf,hu]
     have:=run_equalIn_struct (P:=P) w d t xs.toArray ys.toArray (by rw [hf];exact hu) (by simpa using hs);simp only [gY,if_true];rw [this,hf];exact Mv (DV n) (by omega) xs.toArray ys.toArray fs.toList 0 l b hl (by simpa using hb) (by simp) (by simp)
    ·simp at e
  ·simp at e
end
end
section
def bQ.sub {h:GH} {cs:List AV} {us:List Value} (a:bQ h cs us) (m k:Nat):bQ h ((cs.drop m).take k) ((us.drop m).take k) :=
 bQ.mk (by simp [a.length]) λi c u hc hu=>by
  rw [zD] at hc hu;split at hc
  ·rw [if_pos (by assumption)] at hu;rw [FV] at hc hu;obtain ⟨u',h1,h2⟩:=a.get hc;rw [h1] at hu;injection hu with hu;subst hu;exact h2
  ·simp at hc
def kD.vals {h:GH} {b:Nat}:∀ {cs:List AV} {o:Nat},kD h b cs o→∃ us,bQ h cs us∧∀ j u,us[j]?=some u→lS h b (o+j)=some u
 | [],o,_=>⟨[],by simp [bQ],λj u hj=>by simp at hj⟩
 | c::cs,o,e=>by
  simp only [kD] at e;obtain ⟨⟨u,_,h1,h2⟩,h3⟩:=e;obtain ⟨us,h4,h5⟩:=h3.vals;refine ⟨u::us,by simp only [bQ];exact ⟨u,us,rfl,h2,h4⟩,λj x hj=>?_⟩
  cases j with
  | zero=>simp only [CJ,Option.some.injEq] at hj;subst hj;exact h1
  | succ j=>simp only [B6] at hj;rw [←h5 j x hj];congr 1;omega
def Je {α:Type} {k:Nat}:∀ {es:List (List α)},(∀ e∈es,e.length=k)→∀ {j:Nat} {e:List α},es[j]?=some e→(es.flatten.drop (j*k)).take k=e
 | [],_,j,e,hj=>by simp at hj
 | d::es,hl,j,e,hj=>by
  have hd:=hl d (by simp)
  cases j with
  | zero=>simp only [CJ,Option.some.injEq] at hj;subst hj;simp [←hd]
  | succ j =>
   simp only [B6] at hj;have:(j+1)*k=d.length+j*k:=by rw [EF,hd];omega
   rw [qW,this,List.drop_append,Ln (by omega)];simp only [gW];rw [show d.length+j*k-d.length=j*k from by omega];exact Je (λe he=>hl e (by simp [he])) hj
def wL {α:Type} {k:Nat}:∀ {es:List (List α)},(∀ e∈es,e.length=k)→es.flatten.length=es.length*k
 | [],_=>by simp
 | d::es,hl=>by
  rw [qW,gK,wL (λe he=>hl e (by simp [he])),hl d (by simp),wJ,EF];omega
section
variable {P:Program} {G:Nat→Option (List AV)} {h:GH} {φ:Nat→Value} {T:aH} {w:World} {s:List (Nat×AV)} {a:Act}
def Xz {t:TypeId} {m:Option Nat} (ht:D2 P t=some m) {us:List Value} {cs:List AV} {n:Nat} {b o off:Nat} (hr:bK h φ n cs us) (hc:∀ j u,us[j]?=some u→w.cell? ⟨b,o+j,none⟩=some u)
  {x:AV} (hx:JY cs off m=some x):∃ v,(loadVar t ⟨b,o+off,none⟩).run P w=.ok v w∧Rp h φ n x v:=by
 have hk:=UF hr hx
 have hl:=Rx (P:=P) (w:=w) ht (b:=b) (o:=o+off) (us:=us.drop off) (λj u hj=>by
  rw [FV] at hj;have:=hc _ _ hj;rw [D0];exact this)
 cases m with
 | none =>
  obtain ⟨u,h1,h2⟩:=hk;exact ⟨u,hl u (by rw [FV];simpa using h1),h2⟩
 | some k =>
  obtain ⟨h1,h2⟩:=hk;exact ⟨_,hl (by rw [xS];omega),h2⟩
def wA {i k:Nat} {es:List (List AV)} (hI:Inv h φ w T) (hg:bZ T i=some (.arr k es)) :
  (∀ e∈es,e.length=k∧∀ c∈e,aO c=true)∧((∃ A,φ i=.slice A 0 0∧es=[]) ∨
   ∃ (g c:Nat) (cur:Array Value) (E:TypeId),φ i=.slice (some ⟨g,0,none⟩) es.length (c+1)∧w.heap[g]?=some (.cells cur E (0,0))∧es.length≤c+1∧c+1≤maxLen∧cur.size=(c+1)*k∧h g=none ∧
    bQ h es.flatten (cur.toList.take (es.length*k))):=hI.obj i _ (aZ hg)
def Il {b:Bool} {c:AV} (hc:Lu b c=true):eO c=true:=by
 cases b with
 | false=>exact hc
 | true =>
  cases c<;>simp_all [Lu,aO,eO];rename_i v;cases v<;>simp_all [aO]
def An (h:GH) (φ:Nat→Value) (n:Nat) (b:Bool) (cs:List AV) (us:List Value):Prop:=if b then bQ h cs us else bK h φ n cs us
def An.toL {φ:Nat→Value} {n:Nat} {b:Bool} {cs:List AV} {us:List Value} (a:An h φ n b cs us):bK h φ n cs us:=by
 cases b with
 | true=>exact bQ.to a
 | false=>exact a
def Au {o:Option AObj} {k:Nat} {es:List (List AV)} {b:Bool} (e:oX o=some (k,es,b)):o=some (fY b k es):=by
 cases o with
 | none=>simp [oX] at e
 | some o=>cases o<;>simp [oX] at e<;>(obtain ⟨rfl,rfl,rfl⟩:=e;rfl)
def kE {φ:Nat→Value} {n:Nat} {i:Nat} {b:Bool} {k:Nat} {es:List (List AV)}:qI h φ n w i (fY b k es)↔((∀ e∈es,e.length=k∧∀ c∈e,Lu b c=true)∧((∃ A,φ i=.slice A 0 0∧es=[]) ∨
   ∃ (g c:Nat) (cur:Array Value) (E:TypeId),φ i=.slice (some ⟨g,0,none⟩) es.length (c+1)∧w.heap[g]?=some (.cells cur E (0,0))∧es.length≤c+1∧c+1≤maxLen∧cur.size=(c+1)*k∧h g=none ∧
    An h φ n b es.flatten (cur.toList.take (es.length*k)))):=by cases b<;>exact Iff.rfl
def nS {i k:Nat} {es:List (List AV)} {b:Bool} (hI:Inv h φ w T) (hg:oX (bZ T i)=some (k,es,b)) :
  (∀ e∈es,e.length=k∧∀ c∈e,Lu b c=true)∧((∃ A,φ i=.slice A 0 0∧es=[]) ∨
   ∃ (g c:Nat) (cur:Array Value) (E:TypeId),φ i=.slice (some ⟨g,0,none⟩) es.length (c+1)∧w.heap[g]?=some (.cells cur E (0,0))∧es.length≤c+1∧c+1≤maxLen∧cur.size=(c+1)*k∧h g=none ∧
    An h φ T.length b es.flatten (cur.toList.take (es.length*k))):=kE.1 (hI.obj i _ (aZ (Au hg)))
def bK.sub {φ:Nat→Value} {n:Nat} {cs:List AV} {us:List Value} (a:bK h φ n cs us) (m k:Nat):bK h φ n ((cs.drop m).take k) ((us.drop m).take k):=(a.drop m).take k
def Mw {i k:Nat} {es:List (List AV)} {b:Bool} (hI:Inv h φ w T) (hg:oX (bZ T i)=some (k,es,b)) {j:Nat} {e:List AV} (hj:es[j]?=some e) :
  ∃ (g c:Nat) (us:List Value),φ i=.slice (some ⟨g,0,none⟩) es.length (c+1)∧bK h φ T.length e us∧∀ m u,us[m]?=some u→w.cell? ⟨g,j*k+m,none⟩=some u:=by
 obtain ⟨hl,h1 | ⟨g,c,cur,E,hφ,hw,h2,h3,h4,h5,h6⟩⟩:=nS hI hg
 ·rw [h1.choose_spec.2] at hj;simp at hj
 ·have hsub:=h6.toL.sub (j*k) k;rw [Je (λe he=>(hl e he).1) hj] at hsub;refine ⟨g,c,_,hφ,hsub,λm u hm=>?_⟩;rw [As hw];rw [zD] at hm;split at hm
  ·rw [FV,zD] at hm;split at hm
   ·rw [←hm];simp
   ·simp at hm
  ·simp at hm
def fI (b o m:Nat):(⟨b,o,none⟩:Addr).add m=⟨b,o+m,none⟩:=by unfold Addr.add;split<;>simp_all
def Jf {t:TypeId} {m:Option Nat} (ht:D2 P t=some m) (hG:pS G h) (hI:Inv h φ w T) (hS:qU h φ T.length s a) {p:Operand} {x:AV} {T':aH}
  (he:bO T (cQ G s) (.ld m p)=some (x,T')):T'=T∧∃ v,(Instr.loadAt t (a.eval p)).run P w=.ok v w∧Rp h φ T.length x v:=by
 have hp:=cJ hG hS p;simp only [bO] at he;split at he
 ·rename_i i off hev;rw [hev] at hp;simp only [Rp] at hp;obtain ⟨_,g,hφ,hu⟩:=hp;split at he
  ·rename_i cs hg;split at he
   ·rename_i y hy;injection he with he;injection he with e1 e2;subst e1;subst e2;obtain ⟨g',us,E,hφ',hw,_,hr⟩:=Mu hI hg;rw [hφ] at hφ';injection hφ' with hφ';injection hφ' with hφ';injection hφ' with hφ';subst hφ';refine ⟨rfl,?_⟩;rw [hu];simp only [Instr.loadAt,Instr.sureAddr];have:=Xz (P:=P) (w:=w) (b:=g) (o:=0) ht hr (λj u hj=>by rw [As hw];simpa using hj) hy;simpa using this
   ·simp at he
  ·simp at he
 ·rename_i cs hev;rw [hev] at hp;simp only [Rp] at hp;obtain ⟨b,o,hu,hc⟩:=hp;split at he
  ·rename_i y hy;injection he with he;injection he with e1 e2;subst e1;subst e2;obtain ⟨us,h1,h2⟩:=hc.vals;refine ⟨rfl,?_⟩;rw [hu];simp only [Instr.loadAt,Instr.sureAddr];have:=Xz (P:=P) (w:=w) (φ:=φ) (n:=T.length) (b:=b) (o:=o) ht (bQ.to h1) (λj u hj=>Pv hI (h2 j u hj)) hy;simpa using this
  ·simp at he
 ·rename_i i k j off hev;rw [hev] at hp;simp only [Rp] at hp;obtain ⟨_,g,l,c,hφ,hu⟩:=hp;split at he
  ·rename_i k' es b hg;split at he
   ·rename_i hk;subst hk;split at he
    ·rename_i e hj;split at he
     ·rename_i y hy;injection he with he;injection he with e1 e2;subst e1;subst e2;obtain ⟨g',c',us,hφ',h1,h2⟩:=Mw hI hg hj;rw [hφ] at hφ';injection hφ' with hφ' _ _;injection hφ' with hφ';injection hφ' with hφ';subst hφ';refine ⟨rfl,?_⟩;rw [hu];simp only [Instr.loadAt,Instr.sureAddr];exact Xz (P:=P) (w:=w) (φ:=φ) (n:=T.length) (b:=g) (o:=j*k) ht h1 h2 hy
     ·simp at he
    ·simp at he
   ·simp at he
  ·simp at he
 ·simp at he
end
end
section
section
variable {P:Program} {G:Nat→Option (List AV)} {h:GH} {φ:Nat→Value} {T:aH} {w:World} {s:List (Nat×AV)} {a:Act}
def mU {t:TypeId} {n:Nat} (e:lU P t=some n):(Go.sizeOf t).run P w=.ok n w:=by
 unfold lU at e
 cases hi:P.info? t with
 | none=>simp [hi] at e
 | some i=>simp [hi] at e;subst e;simp [Go.sizeOf,typeInfo,hi]
def Vb {t:TypeId} {fs:Array Field} (ht:P.underlying t=some (.struct fs)) {f:Nat} {fd:Field} (hf:fs[f]?=some fd) {n:Nat} (hn:lU P fd.type=some n) (h0:n≠0)
  (hG:pS G h) (hS:qU h φ T.length s a) {p:Operand} {x:AV} {T':aH} (he:bO T (cQ G s) (.fad p fd.offset)=some (x,T')) :
  T'=T∧∃ v,(Instr.fieldAt t (a.eval p) f).run P w=.ok v w∧Rp h φ T.length x v:=by
 have hp:=cJ hG hS p;have run:∀ b o,(Instr.fieldAt t (.pointer (some ⟨b,o,none⟩)) f).run P w=.ok (.pointer (some ⟨b,o+fd.offset,none⟩)) w:=by
  intro b o;simp [Instr.fieldAt,run_underlying ht,hf,Instr.sureAddr,fieldPlace,mU hn,h0,fI]
 simp only [bO] at he;split at he
 ·rename_i i off hev;rw [hev] at hp;simp only [Rp] at hp;obtain ⟨hi,g,hφ,hu⟩:=hp;injection he with he;injection he with e1 e2;subst e1;subst e2;rw [hu];exact ⟨rfl,_,run g off,by simp only [Rp];exact ⟨hi,g,hφ,rfl⟩⟩
 ·rename_i i k j off hev;rw [hev] at hp;simp only [Rp] at hp;obtain ⟨hi,g,l,c,hφ,hu⟩:=hp;injection he with he;injection he with e1 e2;subst e1;subst e2;rw [hu];exact ⟨rfl,_,run g _,by simp only [Rp];exact ⟨hi,g,l,c,hφ,by rw [D0]⟩⟩
 ·rename_i cs hev;rw [hev] at hp;simp only [Rp] at hp;obtain ⟨b,o,hu,hc⟩:=hp;injection he with he;injection he with e1 e2;subst e1;subst e2;rw [hu];exact ⟨rfl,_,run b o,by simp only [Rp];exact ⟨b,_,rfl,hc.drop _⟩⟩
 ·simp at he
def Jg {t:TypeId} {m:Option Nat} (ht:D2 P t=some m) {us:Array Value} {cs:List AV} {n:Nat} (hr:bK h φ n cs us.toList) {off:Nat} {x:AV} (hx:JY cs off m=some x) :
  ∃ v,(part t us off).run P w=.ok v w∧Rp h φ n x v:=by
 have hk:=UF hr hx;have ha:=DU (w:=w) ht
 cases m with
 | none =>
  obtain ⟨u,h1,h2⟩:=hk;refine ⟨u,?_,h2⟩;have:us[off]?=some u:=by simpa using h1
  simp [part,ha.1,this]
 | some k =>
  obtain ⟨h1,h2⟩:=hk;refine ⟨_,?_,h2⟩;simp only [part,Sem.run_bind,ha.1,ha.2,Result.andThen_ok,if_true,Sem.run_pure];congr 2;apply CK.1;simp [Array.toList_extract,List.extract]
def Vc {t:TypeId} {fs:Array Field} (ht:P.underlying t=some (.struct fs)) {f:Nat} {fd:Field} (hf:fs[f]?=some fd) {m:Option Nat} (hm:D2 P fd.type=some m)
  (hG:pS G h) (hS:qU h φ T.length s a) {p:Operand} {x:AV} {T':aH} (he:bO T (cQ G s) (.fld p fd.offset m)=some (x,T')) :
  T'=T∧∃ v,(Instr.field t (a.eval p) f).run P w=.ok v w∧Rp h φ T.length x v:=by
 have hp:=cJ hG hS p;simp only [bO] at he;split at he
 ·rename_i cs hev;rw [hev] at hp;simp only [Rp] at hp;obtain ⟨us,hu,hr⟩:=hp;split at he
  ·rename_i y hy;injection he with he;injection he with e1 e2;subst e1;subst e2;obtain ⟨v,h1,h2⟩:=Jg (P:=P) (w:=w) hm hr hy;rw [hu];exact ⟨rfl,v,by simp [Instr.field,run_underlying ht,hf,asAgg,h1],h2⟩
  ·simp at he
 ·rename_i us hev;rw [hev] at hp;simp only [Rp] at hp;split at he
  ·rename_i y hy;injection he with he;injection he with e1 e2;subst e1;subst e2;have hr:bK h φ T.length (us.toList.map .v) us.toList:=bK.mk (by simp) λi c u hc hu=>by
    rw [lO,hu] at hc;simp at hc;subst hc;simp [Rp]
   obtain ⟨v,h1,h2⟩:=Jg (P:=P) (w:=w) hm hr hy;rw [hp];exact ⟨rfl,v,by simp [Instr.field,run_underlying ht,hf,asAgg,h1],h2⟩
  ·simp at he
 ·simp at he
def Vd {t e:TypeId} (ht:P.underlying t=some (.slice e)) {k:Nat} (hk:lU P e=some k)
  (hG:pS G h) (hI:Inv h φ w T) (hS:qU h φ T.length s a) {p q:Operand} {x:AV} {T':aH} (he:bO T (cQ G s) (.iad p q k)=some (x,T')) :
  T'=T∧∃ v,(Instr.indexAt t (a.eval p) (a.eval q)).run P w=.ok v w∧Rp h φ T.length x v:=by
 have hp:=cJ hG hS p;have run:∀ b o len cap kd (i:Int),0≤i→i.toNat<len→(Instr.indexAt t (.slice (some ⟨b,o,none⟩) len cap) (.int kd i)).run P w=.ok (.pointer (some ⟨b,o+i.toNat*k,none⟩)) w:=by
  intro b o len cap kd i h0 hl;have:0≤i∧i<len:=⟨h0,by omega⟩
  simp [Instr.indexAt,run_underlying ht,asIntOf,this,mU hk,fI]
 simp only [bO] at he;split at he
 ·rename_i k' es kd i hev hix;rw [hev] at hp;simp only [Rp,kY] at hp;obtain ⟨A,c,hu,h1,h2,h3⟩:=hp;split at he
  ·rename_i hc;obtain ⟨rfl,h0⟩:=hc;split at he
   ·rename_i el hj;injection he with he;injection he with e1 e2;subst e1;subst e2;have hlt:i.toNat<es.length:=by
     rcases gM i.toNat es.length with hh | hh
     ·exact hh
     ·simp [oW hh] at hj
    rcases h3 with rfl | ⟨b,o,rfl,hE⟩
    ·simp at hj
    ·rw [hu,jO hG hS hix];refine ⟨rfl,_,run b o _ _ _ i h0 hlt,?_⟩;simp only [Rp];exact ⟨b,_,rfl,(hE.get hj).2⟩
   ·simp at he
  ·simp at he
 ·rename_i i0 kd i hev hix;rw [hev] at hp;simp only [Rp] at hp;split at he
  ·rename_i k' es b hg;split at he
   ·rename_i hc;obtain ⟨rfl,h0,hlt⟩:=hc;injection he with he;injection he with e1 e2;subst e1;subst e2;have hj:es[i.toNat]?=some es[i.toNat]:=nQ hlt;obtain ⟨g,c,us,hφ,_,_⟩:=Mw hI hg hj;rw [hp.2.1,hφ,jO hG hS hix];refine ⟨rfl,_,run g 0 _ _ _ i h0 hlt,?_⟩;simp only [Rp];exact ⟨hp.1,g,_,c+1,hφ,by simp⟩
   ·simp at he
  ·simp at he
 ·rename_i i0 k' lo m kd i hev hix;rw [hev] at hp;simp only [Rp] at hp;split at he
  ·rename_i hc;obtain ⟨rfl,h0,hlt⟩:=hc;injection he with he;injection he with e1 e2;subst e1;subst e2;obtain ⟨hi0,A,c,hu,_,_,h3⟩:=hp;rcases h3 with rfl | ⟨g,l,c',hφ,rfl,hle⟩
   ·omega
   ·rw [hu,jO hG hS hix];refine ⟨rfl,_,run g _ _ _ _ i h0 hlt,?_⟩;simp only [Rp];exact ⟨hi0,g,l,c',hφ,by rw [CM,wK]⟩
  ·simp at he
 ·simp at he
def Ry {t e:TypeId} {len:Nat} (ht:P.underlying t=some (.array len e)) {k:Nat} (hk:lU P e=some k)
  (hG:pS G h) (hS:qU h φ T.length s a) {p q:Operand} {x:AV} {T':aH} (he:bO T (cQ G s) (.iadA p q len k)=some (x,T')) :
  T'=T∧∃ v,(Instr.indexAt t (a.eval p) (a.eval q)).run P w=.ok v w∧Rp h φ T.length x v:=by
 have hp:=cJ hG hS p;have run:∀ b o kd (i:Int),0≤i∧i<len→(Instr.indexAt t (.pointer (some ⟨b,o,none⟩)) (.int kd i)).run P w=.ok (.pointer (some ⟨b,o+i.toNat*k,none⟩)) w:=by
  intro b o kd i hc;simp [Instr.indexAt,run_underlying ht,asIntOf,Instr.sureAddr,hc,mU hk,fI]
 simp only [bO] at he;split at he
 ·rename_i j o kd i hev hix;rw [hev] at hp;simp only [Rp] at hp;obtain ⟨hi,g,hφ,hu⟩:=hp;split at he
  ·rename_i hc;injection he with he;injection he with e1 e2;subst e1;subst e2;rw [hu,jO hG hS hix];exact ⟨rfl,_,run g o _ i hc,by simp only [Rp];exact ⟨hi,g,hφ,rfl⟩⟩
  ·simp at he
 ·rename_i cs kd i hev hix;rw [hev] at hp;simp only [Rp] at hp;obtain ⟨b,o,hu,hcs⟩:=hp;split at he
  ·rename_i hc;injection he with he;injection he with e1 e2;subst e1;subst e2;rw [hu,jO hG hS hix];exact ⟨rfl,_,run b o _ i hc,by simp only [Rp];exact ⟨b,_,rfl,hcs.drop _⟩⟩
  ·simp at he
 ·rename_i b k' j o kd i hev hix;rw [hev] at hp;simp only [Rp] at hp;obtain ⟨hi,g,l,c,hφ,hu⟩:=hp;split at he
  ·rename_i hc;injection he with he;injection he with e1 e2;subst e1;subst e2;rw [hu,jO hG hS hix];exact ⟨rfl,_,run g _ _ i hc,by simp only [Rp];exact ⟨hi,g,l,c,hφ,by rw [D0]⟩⟩
  ·simp at he
 ·simp at he
def Ve {t:TypeId} (ht:P.underlying t=some .string)
  (hG:pS G h) (hS:qU h φ T.length s a) {p q:Operand} {x:AV} {T':aH} (he:bO T (cQ G s) (.ixS p q)=some (x,T')) :
  T'=T∧∃ v,(Instr.index t (a.eval p) (a.eval q)).run P w=.ok v w∧Rp h φ T.length x v:=by
 simp only [bO] at he;split at he
 ·rename_i sb kd i hev hix;split at he
  ·rename_i h0;split at he
   ·rename_i b hb;injection he with he;injection he with e1 e2;subst e1;subst e2;rw [jO hG hS hev,jO hG hS hix];refine ⟨rfl,.int .u8 b.toNat,?_,by simp [Rp]⟩;have:sb[i.toNat]?=some b:=by
     have hlt:i.toNat<sb.data.size:=by
      rcases gM i.toNat sb.data.size with hh | hh
      ·exact hh
      ·simp [Nx hh] at hb
     rw [Nw hlt] at hb;rw [getElem?_pos sb i.toNat hlt];exact hb
    simp [Instr.index,run_underlying ht,asIntOf,h0,this]
   ·simp at he
  ·simp at he
 ·simp at he
def Rz {t ty:TypeId} (ht:P.underlying t=some .string)
  (hG:pS G h) (hS:qU h φ T.length s a) {p:Operand} {x:AV} {T':aH} {ts:Array TypeId} (hts:ts[0]?=some t) (he:bO T (cQ G s) (.lenS p)=some (x,T')) :
  T'=T∧∃ v,(Builtin.len_ ts ty #[a.eval p]).run P w=.ok v w∧Rp h φ T.length x v:=by
 simp only [bO] at he;split at he
 ·rename_i sb hev;injection he with he;injection he with e1 e2;subst e1;subst e2;rw [jO hG hS hev];exact ⟨rfl,goInt sb.size,by simp [Builtin.len_,hts,run_underlying ht],by simp [Rp,goInt]⟩
 ·simp at he
def R1 {t e ty:TypeId} (ht:P.underlying t=some (.slice e))
  (hG:pS G h) (hI:Inv h φ w T) (hS:qU h φ T.length s a) {p:Operand} {x:AV} {T':aH} {ts:Array TypeId} (hts:ts[0]?=some t) (he:bO T (cQ G s) (.lenL p)=some (x,T')) :
  T'=T∧∃ v,(Builtin.len_ ts ty #[a.eval p]).run P w=.ok v w∧Rp h φ T.length x v:=by
 have hp:=cJ hG hS p;have run:∀ A l c,(Builtin.len_ ts ty #[.slice A l c]).run P w=.ok (goInt l) w:=by
  intro A l c;simp [Builtin.len_,hts,run_underlying ht]
 simp only [bO] at he;split at he
 ·rename_i k es hev;rw [hev] at hp;simp only [Rp,kY] at hp;obtain ⟨A,c,hu,_⟩:=hp;injection he with he;injection he with e1 e2;subst e1;subst e2;rw [hu];exact ⟨rfl,_,run _ _ _,by simp [Rp,goInt]⟩
 ·rename_i i hev;rw [hev] at hp;simp only [Rp] at hp;split at he
  ·rename_i k es b hg;injection he with he;injection he with e1 e2;subst e1;subst e2;rw [hp.2.1];obtain ⟨_,⟨A,h1⟩ | ⟨g,c,cur,E,hφ,_⟩⟩:=nS hI hg
   ·rw [h1.1,h1.2];exact ⟨rfl,_,run _ _ _,by simp [Rp,goInt]⟩
   ·rw [hφ];exact ⟨rfl,_,run _ _ _,by simp [Rp,goInt]⟩
  ·simp at he
 ·rename_i hev;injection he with he;injection he with e1 e2;subst e1;subst e2;rw [jO hG hS hev];exact ⟨rfl,_,run _ _ _,by simp [Rp,goInt]⟩
 ·rename_i i k lo m hev;rw [hev] at hp;simp only [Rp] at hp;obtain ⟨_,A,c,hu,_⟩:=hp;injection he with he;injection he with e1 e2;subst e1;subst e2;rw [hu];exact ⟨rfl,_,run _ _ _,by simp [Rp,goInt]⟩
 ·simp at he
end
end
section
def AL {h:GH} {φ:Nat→Value} {T:aH} {w:World} (hI:Inv h φ w T) {b:Nat} {cs:Array Value} (e:h b=some cs):b<w.heap.size:=by
 obtain ⟨E,fr,hw⟩:=hI.gh b cs e;grind
def fO {h:GH} {φ:Nat→Value} {n:Nat} {w:World} {i:Nat} {o:AObj} (e:qI h φ n w i o) {g:Nat} (hg:iE (φ i)=some g) :
  g<w.heap.size∧h g=none:=by
 have lt:∀ {x:Obj},w.heap[g]?=some x→g<w.heap.size:=by
  grind
 cases o with
 | box cs =>
  obtain ⟨g',us,E,h1,h2,h3,_⟩:=e;grind [iE,Option.some.injEq]
 | arr k es =>
  obtain ⟨_,⟨A,h1⟩ | ⟨g',c,cur,E,h1,h2,_,_,_,h3,_⟩⟩:=e
  ·simp_all [iE]
  ·grind [iE,Option.some.injEq]
 | arf k es =>
  obtain ⟨_,⟨A,h1⟩ | ⟨g',c,cur,E,h1,h2,_,_,_,h3,_⟩⟩:=e
  ·simp_all [iE]
  ·grind [iE,Option.some.injEq]
 | lp r s =>
  obtain ⟨g',h1,h2,h3,_⟩:=e;grind [iE,Option.some.injEq]
 | mit m since seen st =>
  obtain ⟨g',mo,h1,h2,h3,_⟩:=e;grind [iE,Option.some.injEq]
 | map ag ks vs bs cl =>
  obtain ⟨g',ens,h1,h2,h3,_⟩:=e;grind [iE,Option.some.injEq]
def mV {h h':GH} {φ φ':Nat→Value} {n n':Nat} {w w':World} {i:Nat} {o:AObj} (e:qI h φ n w i o) (le:zG h h') (hn:n≤n') (hp:∀ j,j<n→φ' j=φ j) (hi:i<n)
  (hb:∀ g,iE (φ i)=some g→w'.heap[g]?=w.heap[g]?∧h' g=none):qI h' φ' n' w' i o:=by
 cases o with
 | box cs =>
  obtain ⟨g,us,E,h1,h2,h3,h4⟩:=e;obtain ⟨h5,h6⟩:=hb g (by rw [h1];rfl);exact ⟨g,us,E,by rw [hp i hi];exact h1,by rw [h5];exact h2,h6,h4.mono le hn hp⟩
 | arr k es =>
  obtain ⟨h0,h1 | ⟨g,c,cur,E,h1,h2,h3,h4,h5,h6,h7⟩⟩:=e
  ·exact ⟨h0,.inl (by rw [hp i hi];exact h1)⟩
  ·obtain ⟨h8,h9⟩:=hb g (by rw [h1];rfl);exact ⟨h0,.inr ⟨g,c,cur,E,by rw [hp i hi];exact h1,by rw [h8];exact h2,h3,h4,h5,h9,h7.mono le⟩⟩
 | arf k es =>
  obtain ⟨h0,h1 | ⟨g,c,cur,E,h1,h2,h3,h4,h5,h6,h7⟩⟩:=e
  ·exact ⟨h0,.inl (by rw [hp i hi];exact h1)⟩
  ·obtain ⟨h8,h9⟩:=hb g (by rw [h1];rfl);exact ⟨h0,.inr ⟨g,c,cur,E,by rw [hp i hi];exact h1,by rw [h8];exact h2,h3,h4,h5,h9,h7.mono le hn hp⟩⟩
 | lp r s =>
  obtain ⟨g,h1,h2,h3,h4,h5⟩:=e;obtain ⟨h8,h9⟩:=hb g (by rw [h1];rfl);exact ⟨g,by rw [hp i hi];exact h1,by rw [h8];exact h2,h9,h4,λp hpm=>(h5 p hpm).mono le hn hp⟩
 | mit m since seen st =>
  obtain ⟨g,mo,h1,h2,h3,h4⟩:=e;obtain ⟨h8,h9⟩:=hb g (by rw [h1];rfl);refine ⟨g,mo,by rw [hp i hi];exact h1,by rw [h8];exact h2,h9,?_⟩;grind
 | map ag ks vs bs cl =>
  obtain ⟨g,ens,h1,h2,h3,h4,h5,h6⟩:=e;obtain ⟨h8,h9⟩:=hb g (by rw [h1];rfl);exact ⟨g,ens,by rw [hp i hi];exact h1,by rw [h8];exact h2,h9,h4,h5,h6.mono le hn hp⟩
def Vf (φ:Nat→Value) (n:Nat) (v:Value):Nat→Value:=λi=>if i=n then v else φ i
def eN {φ:Nat→Value} {n i:Nat} {v:Value} (h:i<n):Vf φ n v i=φ i:=by grind [Vf]
theorem bA {φ:Nat→Value} {n:Nat} {v:Value}:Vf φ n v n=v:=by grind [Vf]
def iD {T:aH} {o:Option AObj} {i:Nat} {x:AObj} (e:(T++[o])[i]?=some (some x)):(i<T.length∧T[i]?=some (some x))∨(i=T.length∧o=some x):=by
 grind
def lH {T:aH} {o:Option AObj} {i j:Nat} {x:AObj} (e:(T.set j o)[i]?=some (some x)):(i=j∧o=some x)∨(i≠j∧T[i]?=some (some x)):=by
 grind
def pG {h:GH} {φ:Nat→Value} {T:aH} {w w':World} (hI:Inv h φ w T) (hos:w'.os=w.os) (htp:w'.tape=w.tape) (hout:w'.output=w.output) (hsz:w.heap.size≤w'.heap.size)
  (hb:∀ b,b<w.heap.size→w'.heap[b]?=w.heap[b]?) {o:AObj} {v:Value} (hv:∀ g,iE v=some g→w.heap.size≤g) (ho:qI h (Vf φ T.length v) (T.length+1) w' T.length o)
  (hdr:w.drawn≤w'.drawn:=by first | exact cT _ | exact Hk _ | assumption) :
  Inv h (Vf φ T.length v) w' (T++[some o])∧Evo h φ T w h (Vf φ T.length v) (T++[some o]) w':=by
 have old:∀ i x,T[i]?=some (some x)→i<T.length:=by
  grind
 refine ⟨⟨?_,?_,?_⟩,⟨hos,htp,hout,hsz,λb hb' _=>hb b hb',zG.refl h,λ_ _ e=>.inl e,λi hi=>eN hi,?_,by simp,hdr⟩⟩
 ·intro b cs e;obtain ⟨E,fr,hw⟩:=hI.gh b cs e;grind
 ·intro i x e;rcases iD e with ⟨hi,e'⟩ | ⟨rfl,e'⟩
  ·have h1:=hI.obj i x e';rw [gK];exact mV h1 (zG.refl h) (by simp) (λj hj=>eN hj) hi λg hg=>by
    obtain ⟨h2,h3⟩:=fO h1 hg;simp_all
  ·simp_all
 ·intro i j oi oj b ei ej hbi hbj;rcases iD ei with ⟨hi,ei'⟩ | ⟨rfl,ei'⟩<;>rcases iD ej with ⟨hj,ej'⟩ | ⟨rfl,ej'⟩
  ·rw [eN hi] at hbi;rw [eN hj] at hbj;exact hI.dis i j oi oj b ei' ej' hbi hbj
  ·rw [eN hi] at hbi;rw [bA] at hbj;have:=(fO (hI.obj i oi ei') hbi).1;have:=hv b hbj;omega
  ·rw [bA] at hbi;rw [eN hj] at hbj;have:=(fO (hI.obj j oj ej') hbj).1;have:=hv b hbi;omega
  ·rfl
 ·intro i x b e hbl;rcases iD e with ⟨hi,e'⟩ | ⟨rfl,e'⟩
  ·rw [eN hi] at hbl;grind
  ·grind [bA]
def DW {h:GH} {φ:Nat→Value} {T:aH} {w w':World} (hI:Inv h φ w T) (hos:w'.os=w.os) (htp:w'.tape=w.tape) (hout:w'.output=w.output) (hsz:w.heap.size≤w'.heap.size)
  {i:Nat} {o o':AObj} (hi:T[i]?=some (some o)) (hb:∀ b,b<w.heap.size→iE (φ i)≠some b→w'.heap[b]?=w.heap[b]?) (ho:qI h φ T.length w' i o')
  (hdr:w.drawn≤w'.drawn:=by first | exact cT _ | exact Hk _ | assumption) :
  Inv h φ w' (T.set i (some o'))∧Evo h φ T w h φ (T.set i (some o')) w':=by
 have hlt:i<T.length:=by
  grind
 refine ⟨⟨?_,?_,?_⟩,⟨hos,htp,hout,hsz,λb hb' hn=>hb b hb' (hn i o hi),zG.refl h,λ_ _ e=>.inl e,λ_ _=>rfl,?_,by simp,hdr⟩⟩
 ·intro b cs e;obtain ⟨E,fr,hw⟩:=hI.gh b cs e;refine ⟨E,fr,?_⟩;rw [hb b (AL hI e) λhbl=>?_]
  ·exact hw
  ·have:=(fO (hI.obj i o hi) hbl).2;simp_all
 ·intro j x e;rw [gG];rcases lH e with ⟨rfl,e'⟩ | ⟨hne,e'⟩
  ·simp_all
  ·have h1:=hI.obj j x e';have hj:j<T.length:=by
    grind
   exact mV h1 (zG.refl h) (cT _) (λ_ _=>rfl) hj λg hg=>by
    obtain ⟨h2,h3⟩:=fO h1 hg;exact ⟨hb g h2 λhbl=>hne (hI.dis j i x o g e' hi hg hbl),h3⟩
 ·intro j k oj ok b ej ek hbj hbk;have get:∀ {m:Nat} {x:AObj},(T.set i (some o'))[m]?=some (some x)→∃ y,T[m]?=some (some y):=by
   grind
  obtain ⟨y,hy⟩:=get ej;obtain ⟨z,hz⟩:=get ek;exact hI.dis j k y z b hy hz hbj hbk
 ·grind
def tD {h:GH} {φ:Nat→Value} {T:aH} {w:World} (hI:Inv h φ w T) (i:Nat):Inv h φ w (T.set i none)∧Evo h φ T w h φ (T.set i none) w:=by
 have get:∀ {m:Nat} {x:AObj},(T.set i none)[m]?=some (some x)→T[m]?=some (some x):=by
  grind
 refine ⟨⟨hI.gh,?_,?_⟩,⟨rfl,rfl,rfl,cT _,λ_ _ _=>rfl,zG.refl h,λ_ _ e=>.inl e,λ_ _=>rfl,?_,by simp,cT _⟩⟩
 ·intro j x e;rw [gG];exact hI.obj j x (get e)
 ·intro j k x y b e e';exact hI.dis j k x y b (get e) (get e')
 ·grind
end
section
section
variable {P:Program} {G:Nat→Option (List AV)} {h:GH} {φ:Nat→Value} {T:aH} {w:World} {s:List (Nat×AV)} {a:Act}
def fV (h:GH) (φ:Nat→Value) (T:aH) (w:World) (run:Result Value) (x:AV) (T':aH):Prop :=
 ∃ v w' h' φ',run=.ok v w'∧Evo h φ T w h' φ' T' w'∧Inv h' φ' w' T'∧Rp h' φ' T'.length x v
def iO (w:World) (o:Obj) (b:Nat) (h:b<w.heap.size):(w.alloc o).heap[b]?=w.heap[b]?
  := by rw [World.alloc,Array.getElem?_push,if_neg (by omega)]
def UG (hI:Inv h φ w T) {cs:List AV} {us:Array Value} (hr:bK h φ T.length cs us.toList) (E:TypeId) :
  fV h φ T w (.ok (.pointer (some ⟨w.heap.size,0,none⟩)) (w.alloc (.cells us E))) (.ptr T.length 0) (T++[some (.box cs)]):=by
 have hn:h w.heap.size=none:=by
  cases e:h w.heap.size with
  | none=>rfl
  | some cs=>have:=AL hI e;omega
 have:=pG (w':=w.alloc (.cells us E)) (o:=.box cs) (v:=.pointer (some ⟨w.heap.size,0,none⟩)) hI rfl rfl rfl (by simp) (λb hb=>iO w _ b hb)
  (λg hg=>by simp only [iE,Option.some.injEq] at hg;omega)
  ⟨w.heap.size,us,E,bA,heap_alloc_new w _,hn,hr.mono (zG.refl h) (by omega) λi hi=>eN hi⟩
 refine ⟨_,_,h,_,rfl,this.2,this.1,?_⟩;simp only [Rp];exact ⟨by simp,w.heap.size,bA,rfl⟩
def Vg (hG:pS G h) (hI:Inv h φ w T) (hS:qU h φ T.length s a) {E:TypeId} {p:Operand} {x:AV} {T':aH} (he:bO T (cQ G s) (.box p)=some (x,T')) :
  fV h φ T w ((Instr.box E (a.eval p)).run P w) x T':=by
 simp only [bO] at he;split at he
 ·rename_i hone;injection he with he;injection he with e1 e2;subst e1;subst e2;have hr:=AK (cJ hG hS p) (λc hc=>lF.1 hone c hc);have:(Instr.box E (a.eval p)).run P w=.ok (.pointer (some ⟨w.heap.size,0,none⟩)) (w.alloc (.cells (a.eval p).cells E)):=by
   simp [Instr.box,newVar,newRow]
  rw [this];exact UG hI hr E
 ·simp at he
def Jh (h:GH) (φ:Nat→Value) (n:Nat):∀ (us:List Value),bK h φ n (us.map .v) us
 | []=>by simp [bK]
 | u::us=>by simp only [fE,bK];exact ⟨u,us,rfl,by simp [Rp],Jh h φ n us⟩
def Pw (hI:Inv h φ w T) {E:TypeId} {i:TypeInfo} {z:Value} (hi:P.info? E=some i) (hz:i.zero=some z) {ev:Operand→AV} {x:AV} {T':aH} (he:bO T ev (.alloc z.cells.toList)=some (x,T')) :
  fV h φ T w ((Instr.alloc E true (.tuple #[])).run P w) x T':=by
 simp only [bO] at he;injection he with he;injection he with e1 e2;subst e1;subst e2;have:(Instr.alloc E true (.tuple #[])).run P w=.ok (.pointer (some ⟨w.heap.size,0,none⟩)) (w.alloc (.cells z.cells E)):=by
  simp [Instr.alloc,zeroValue,typeInfo,hi,hz,newVar,newRow]
 rw [this];exact UG hI (by simpa using Jh h φ T.length z.cells.toList) E
def X0 (vs:Array Value) (off:Nat) (cs:Array Value) (hl:off+vs.size≤cs.size) :
  (vs.zipIdx.foldl (λcs (c,j)=>cs.setIfInBounds (off+j) c) cs).toList=cs.toList.take off++vs.toList++cs.toList.drop (off+vs.size):=by
 have key:∀ (l:List Value) (k:Nat) (cs:Array Value),off+k+l.length≤cs.size →
   ((l.zipIdx k).foldl (λ(cs:Array Value) (p:Value×Nat)=>cs.setIfInBounds (off+p.2) p.1) cs).toList=cs.toList.take (off+k)++l++cs.toList.drop (off+k+l.length):=by
  intro l
  induction l with
  | nil=>intro k cs _;simp
  | cons v l ih =>
   intro k cs hc;simp only [wJ] at hc;simp only [List.zipIdx_cons,Gm];rw [ih (k+1) _ (by simp;omega)];have:=list_seg_step cs.toList (off+k) v l (by simp;omega);simpa [Array.toList_setIfInBounds,D0] using this
 have:=key vs.toList 0 cs (by simpa using hl);rw [←Array.foldl_toList,Array.toList_zipIdx];simpa using this
def N5 (a:Act) (l:List (Nat×Nat×Operand)):List (Nat×Nat×Value):=l.map λp=>(p.1,p.2.1,a.eval p.2.2)
def Vh (cells:List Value):List (Nat×Nat×Value)→Option (List Value)
 | []=>some cells
 | (off,n,x)::r=>if x.cells.size=n∧off+n≤cells.length then Vh (cells.take off++x.cells.toList++cells.drop (off+n)) r else none
def R2 (hG:pS G h) (hS:qU h φ T.length s a):∀ (l:List (Nat×Nat×Operand)) {cells:List AV} {us:List Value} {cs:List AV},bK h φ T.length cells us →
  Gp cells (l.map λp=>(p.1,p.2.1,cQ G s p.2.2))=some cs→∃ vs,Vh us (N5 a l)=some vs∧bK h φ T.length cs vs
 | [],cells,us,cs,hr,e=>by
  simp only [mE,Gp,Option.some.injEq] at e;subst e;exact ⟨us,rfl,hr⟩
 | p::l,cells,us,cs,hr,e=>by
  simp only [fE,Gp] at e;split at e
  ·rename_i hc;have hx:=AK (cJ hG hS p.2.2) (λc hc'=>lF.1 hc.2.2 c hc');have hl:=hx.length;have hrl:=hr.length;simp only [N5,fE,Vh];rw [if_pos ⟨by simp only [Dx] at hl;omega,by omega⟩];exact R2 hG hS l (((hr.take _).app hx).app (hr.drop _)) e
  ·simp at e
def N6 {place:Nat→Option (Nat×Nat)} (pl:Nat→Nat×Nat):∀ (l:List (Nat×Value)) (cells:Array Value) (vs:List Value),
  (∀ p∈l,place p.1=some (pl p.1))→Vh cells.toList (l.map λp=>((pl p.1).1,(pl p.1).2,p.2))=some vs→Instr.fill place cells l=some vs.toArray
 | [],cells,vs,_,e=>by
  simp only [mE,Vh,Option.some.injEq] at e;subst e;simp [Instr.fill]
 | (i,v)::l,cells,vs,hf,e=>by
  have hp:=hf (i,v) (by simp);simp only [fE,Vh] at e;split at e
  ·rename_i hc;simp only [Dx] at hc;simp only [Instr.fill,hp];rw [if_neg (by simp;omega)];refine N6 pl l _ vs (λp hp=>hf p (by simp [hp])) ?_;rw [X0 _ _ _ (by omega),hc.1];exact e
  ·simp at e
def Mx (n:Nat):∀ (l:List (Nat×Operand)),Gu n l=l.map λp=>(p.1*n,n,p.2)
 | []=>rfl
 | (i,x)::l=>by simp [Gu,Mx n l]
def plB (P:Program) (fs:List Field) (i:Nat):Nat×Nat:=match fs[i]? with | some f=>(f.offset,(lU P f.type).getD 0) | none=>(0,0)
def My {fs:List Field}:∀ {l:List (Nat×Operand)} {r:List (Nat×Nat×Operand)},Gt P fs l=some r →
  r=(l.map λp=>((plB P fs p.1).1,(plB P fs p.1).2,p.2))∧∀ p∈l,∃ f n,fs[p.1]?=some f∧lU P f.type=some n∧plB P fs p.1=(f.offset,n)
 | [],r,e=>by simp only [Gt,Option.some.injEq] at e;subst e;simp
 | (i,x)::l,r,e=>by
  simp only [Gt] at e;split at e
  ·simp at e
  ·rename_i f hf;split at e
   ·rename_i n l' hn hl;injection e with e;obtain ⟨h1,h2⟩:=My hl;have hp:plB P fs i=(f.offset,n):=by simp [plB,hf,hn]
    subst h1;subst e;refine ⟨by simp [hp],λp hp'=>?_⟩;rcases jB.1 hp' with rfl | hp'
    ·exact ⟨f,n,hf,hn,hp⟩
    ·exact h2 p hp'
   ·simp at e
def Px (fs:List Field) (hs:∀ f∈fs,(lU P f.type).isSome=true) :
  (fs.mapM λf=>do pure (f.offset,←Go.sizeOf f.type):Sem (List (Nat×Nat))).run P w=.ok (fs.map λf=>(f.offset,(lU P f.type).getD 0)) w:=by
 induction fs with
 | nil=>simp
 | cons f fs ih =>
  obtain ⟨n,hn⟩:=XZ.1 (hs f (by simp));rw [List.mapM_cons];simp only [Sem.run_bind,mU hn,Result.andThen_ok,Sem.run_pure,ih λf hf=>hs f (by simp [hf]),fE,hn,Mj]
def R3 {t:TypeId} {fs:Array Field} (ht:P.underlying t=some (.struct fs)) {i:TypeInfo} (hi:P.info? t=some i) {z:Value} (hz:i.zero=some z) {parts:Array (Nat×Operand)} {l:List (Nat×Nat×Operand)}
  (hl:Gt P fs.toList parts.toList=some l) (hfs:fs.toList.all (λf=>(lU P f.type).isSome)=true) (hG:pS G h) (hS:qU h φ T.length s a) {x:AV} {T':aH}
  (he:bO T (cQ G s) (.bld z.cells.toList l)=some (x,T')) :
  T'=T∧∃ v,(Instr.build t (parts.map λ(i,x)=>(i,a.eval x))).run P w=.ok v w∧Rp h φ T.length x v:=by
 simp only [bO] at he;split at he
 ·rename_i cs hcs;injection he with he;injection he with e1 e2;subst e1;subst e2;obtain ⟨vs,h1,h2⟩:=R2 hG hS l (Jh h φ T.length z.cells.toList) hcs;obtain ⟨h3,h4⟩:=My hl;have hpl:=Px (P:=P) (w:=w) fs.toList (λf hf=>lF.1 hfs f hf);have hfill:=N6 (place:=λi=>(fs.toList.map λf=>(f.offset,(lU P f.type).getD 0)).toArray[i]?) (plB P fs.toList) (parts.toList.map λp=>(p.1,a.eval p.2)) z.cells vs
   (λp hp=>by
    obtain ⟨q,hq,rfl⟩:=cZ.1 hp;obtain ⟨f,n,hf,hn,hb⟩:=h4 q hq
    simp [hf,hb,hn]) (by rw [←h1,h3];simp [N5,D1,Function.comp_def])
  refine ⟨rfl,.agg vs.toArray,?_,by simp only [Rp];exact ⟨_,rfl,by simpa using h2⟩⟩;have hm:(fs.mapM λf=>do pure (f.offset,←Go.sizeOf f.type):Sem (Array (Nat×Nat))).run P w=.ok (fs.toList.map λf=>(f.offset,(lU P f.type).getD 0)).toArray w:=by
   rw [aBU];simp only [Sem.run_map,hpl,Result.andThen_ok]
  simp only [Instr.build,Sem.run_bind,zeroValue,typeInfo,run_program,Result.andThen_ok,hi,Sem.run_pure,hz,run_underlying ht,hm];simp only [Array.toList_map];rw [hfill];rfl
 ·simp at he
end
end
section
def Ho {k:Nat}:∀ (n:Nat) (cs:List AV),cs.length=n*k→(uE k n cs).flatten=cs∧(uE k n cs).length=n∧∀ e∈uE k n cs,e.length=k
 | 0,cs,hl=>by
  grind [uE]
 | n+1,cs,hl=>by
  rw [EF] at hl;obtain ⟨h1,h2,h3⟩:=Ho (k:=k) n (cs.drop k) (by rw [xS];omega);simp_all [uE,jB,kM]
def Vi {h:GH} {φ:Nat→Value} {n:Nat}:∀ {x:AV} {u:Value},Rp h φ n x u→aO x=true→kY h x u
 | .v _,u,e,_=>by simpa [Rp,kY] using e
 | .ls k es,u,e,_=>by simpa only [Rp] using e
 | .ag _,_,_,hc=>by simp [aO] at hc
 | .own _,_,_,hc=>by simp [aO] at hc
 | .ptr _ _,_,_,hc=>by simp [aO] at hc
 | .elt _ _ _ _,_,_,hc=>by simp [aO] at hc
 | .vw _ _ _ _,_,_,hc=>by simp [aO] at hc
 | .mp _,_,_,hc=>by simp [aO] at hc
 | .yl _,_,_,hc=>by simp [aO] at hc
 | .rp _,_,_,hc=>by simp [aO] at hc
 | .cl _ _,_,_,hc=>by simp [aO] at hc
 | .bm _ _ _,_,_,hc=>by simp [aO] at hc
 | .tup _,_,_,hc=>by simp [aO] at hc
 | .any,_,_,hc=>by simp [aO] at hc
def R4 {h:GH} {φ:Nat→Value} {n:Nat} {cs:List AV} {us:List Value} (e:bK h φ n cs us) (hc:∀ c∈cs,aO c=true):bQ h cs us :=
 bQ.mk e.length λi c u hi hu=>by
  obtain ⟨u',h1,h2⟩:=e.get hi;rw [hu] at h1;injection h1 with h1;subst h1;exact Vi h2 (hc c (Ru hi))
def Ji (z:List Value):∀ n,(Ff z n).length=n*z.length
 | 0=>by simp [Ff]
 | n+1=>by simp [Ff,Ji z n,EF];omega
def Jj (z:List Value) (hz:0<z.length):∀ (n i:Nat),i<n*z.length→(Ff z n)[i]?=z[i%z.length]?
 | 0,i,hi=>by simp at hi
 | n+1,i,hi=>by
  simp only [Ff];by_cases hlt:i<z.length
  ·rw [JQ hlt,CL hlt]
  ·rw [Tr (by omega),Jj z hz n (i-z.length) (by rw [CM,Hl] at hi;omega)];congr 1;exact (Nat.mod_eq_sub_mod (by omega)).symm
def Mz (z:Array Value) (hz:0<z.size) (n:Nat):((Array.range (n*z.size)).map λi=>z[i%z.size]!).toList=Ff z.toList n:=by
 apply Dy;intro i;rcases gM i (n*z.size) with hi | hi
 ·rw [Jj z.toList (by simpa using hz) n i (by simpa using hi)];have hm:i%z.size<z.size:=vF _ hz;simp [hi,hm]
 ·rw [oW (by simp;omega),oW (by rw [Ji];simpa using hi)]
def bQ.app {h:GH} {cs ds:List AV} {us vs:List Value} (a:bQ h cs us) (b:bQ h ds vs):bQ h (cs++ds) (us++vs):=by
 induction cs generalizing us with
 | nil=>simp only [bQ] at a;subst a;simpa using b
 | cons c cs ih =>
  grind [bQ]
def bQ.take {h:GH} {cs:List AV} {us:List Value} (a:bQ h cs us) (m:Nat):bQ h (cs.take m) (us.take m):=by simpa using a.sub 0 m
def bQ.drop {h:GH} {cs:List AV} {us:List Value} (a:bQ h cs us) (m:Nat):bQ h (cs.drop m) (us.drop m):=by
 have:=a.sub m cs.length;rwa [xR (by simp),xR (by rw [xS,a.length];omega)] at this
def Py {k:Nat}:∀ {es:List (List AV)},(∀ e∈es,e.length=k)→∀ {j:Nat} {e:List AV},es[j]?=some e→∀ {off n:Nat} {x:List AV},off+n≤k →
  (es.set j (e.take off++x++e.drop (off+n))).flatten=es.flatten.take (j*k+off)++x++es.flatten.drop (j*k+off+n)
 | [],_,j,e,hj,_,_,_,_=>by simp at hj
 | d::es,hl,j,e,hj,off,n,x,hle=>by
  have hd:=hl d (by simp)
  cases j with
  | zero =>
   grind
  | succ j =>
   simp only [B6] at hj;simp only [Lr,qW];rw [Py (λe he=>hl e (by simp [he])) hj hle];have e1:(j+1)*k+off=d.length+(j*k+off):=by grind
   rw [e1,D0 d.length,aBQ,Tq];simp [jI]
def Jk {α:Type} (L vals:List α) (p n m:Nat) (h1:p+n≤m) (h2:m≤L.length) (hv:vals.length=n) :
  (L.take p++vals++L.drop (p+n)).take m=(L.take m).take p++vals++(L.take m).drop (p+n):=by
 rw [List.take_append,xR (by simp;omega),List.drop_take,List.take_take];grind
section
variable {P:Program} {G:Nat→Option (List AV)} {h:GH} {φ:Nat→Value} {T:aH} {w:World} {s:List (Nat×AV)} {a:Act}
def DX (hI:Inv h φ w T):h w.heap.size=none:=by
 cases e:h w.heap.size with
 | none=>rfl
 | some cs=>have:=AL hI e;omega
def An.mono {h h':GH} {φ φ':Nat→Value} {n n':Nat} {b:Bool} {cs:List AV} {us:List Value} (g:zG h h') (hn:n≤n') (hp:∀ i,i<n→φ' i=φ i) (a:An h φ n b cs us):An h' φ' n' b cs us:=by
 cases b with
 | true=>exact bQ.mono g a
 | false=>exact bK.mono g hn hp a
def An.app {h:GH} {φ:Nat→Value} {n:Nat} {b:Bool} {cs ds:List AV} {us vs:List Value} (x:An h φ n b cs us) (y:An h φ n b ds vs):An h φ n b (cs++ds) (us++vs):=by
 cases b with
 | true=>exact bQ.app x y
 | false=>exact bK.app x y
def An.take {h:GH} {φ:Nat→Value} {n:Nat} {b:Bool} {cs:List AV} {us:List Value} (x:An h φ n b cs us) (m:Nat):An h φ n b (cs.take m) (us.take m):=by
 cases b with
 | true=>exact bQ.take x m
 | false=>exact bK.take x m
def An.drop {h:GH} {φ:Nat→Value} {n:Nat} {b:Bool} {cs:List AV} {us:List Value} (x:An h φ n b cs us) (m:Nat):An h φ n b (cs.drop m) (us.drop m):=by
 cases b with
 | true=>exact bQ.drop x m
 | false=>exact bK.drop x m
def An.length {h:GH} {φ:Nat→Value} {n:Nat} {b:Bool} {cs:List AV} {us:List Value} (x:An h φ n b cs us):cs.length=us.length:=by
 cases b with
 | true=>exact bQ.length x
 | false=>exact bK.length x
def An.of {h:GH} {φ:Nat→Value} {n:Nat} {b:Bool} {cs:List AV} {us:List Value} (e:bK h φ n cs us) (hc:∀ c∈cs,Lu b c=true):An h φ n b cs us:=by
 cases b with
 | true=>exact R4 e hc
 | false=>exact e
def An.weaken {h:GH} {φ:Nat→Value} {n:Nat} {b c:Bool} {cs:List AV} {us:List Value} (x:An h φ n b cs us) (hbc:c=true→b=true):An h φ n c cs us:=by
 cases c with
 | true=>rw [hbc rfl] at x;exact x
 | false=>exact x.toL
def mW {b c:Bool} {x:AV} (hx:Lu b x=true) (hbc:c=true→b=true):Lu c x=true:=by
 cases c with
 | true=>rw [hbc rfl] at hx;exact hx
 | false=>exact Il hx
def oZ (hI:Inv h φ w T) {w1:World} (h1:w1.heap=w.heap) (hos:w1.os=w.os) (htp:w1.tape=w.tape) (hout:w1.output=w.output) {b:Bool} {k n c:Nat} {es:List (List AV)} (hes:∀ e∈es,e.length=k∧∀ c∈e,Lu b c=true) (hn:es.length=n) {cur:Array Value} (hc:n≤c) (hcm:c≤maxLen) (hcs:cur.size=c*k)
  (hr:An h φ T.length b es.flatten (cur.toList.take (n*k))) (E:TypeId) (hdr:w.drawn≤w1.drawn:=by first | exact cT _ | exact Hk _ | assumption) :
  fV h φ T w (.ok (.slice (some ⟨w.heap.size,0,none⟩) n c) (w1.alloc (.cells cur E))) (.own T.length) (T++[some (fY b k es)]):=by
 subst hn;have hsz:w1.heap.size=w.heap.size:=by rw [h1]
 have hnew:(w1.alloc (.cells cur E)).heap[w.heap.size]?=some (.cells cur E (0,0)):=by rw [←hsz];exact heap_alloc_new w1 _
 have:=pG (w':=w1.alloc (.cells cur E)) (o:=fY b k es) (v:=.slice (some ⟨w.heap.size,0,none⟩) es.length c) hI hos htp hout (by simp [hsz]) (λb hb=>by rw [iO w1 _ b (by omega),h1])
  (λg hg=>by
   cases c with
   | zero=>simp [iE] at hg
   | succ c=>simp only [iE,Option.some.injEq] at hg;omega)
  (kE.2 (by
   cases c with
   | zero=>exact ⟨hes,.inl ⟨_,by rw [bA,Ps.1 hc],H7 (Ps.1 hc)⟩⟩
   | succ c=>exact ⟨hes,.inr ⟨w.heap.size,c,cur,E,bA,hnew,hc,hcm,hcs,DX hI,hr.mono (zG.refl h) (by omega) λi hi=>eN hi⟩⟩))
 refine ⟨_,_,h,_,rfl,this.2,this.1,?_⟩;simp only [Rp];exact ⟨by simp,bA.symm,_,_,_,rfl⟩
def UH (hI:Inv h φ w T) {w1:World} (h1:w1.heap=w.heap) (hos:w1.os=w.os) (htp:w1.tape=w.tape) (hout:w1.output=w.output) {k n c:Nat} {es:List (List AV)} (hes:∀ e∈es,e.length=k∧∀ c∈e,aO c=true) (hn:es.length=n) {cur:Array Value} (hc:n≤c) (hcm:c≤maxLen) (hcs:cur.size=c*k)
  (hr:bQ h es.flatten (cur.toList.take (n*k))) (E:TypeId) (hdr:w.drawn≤w1.drawn:=by first | exact cT _ | exact Hk _ | assumption) :
  fV h φ T w (.ok (.slice (some ⟨w.heap.size,0,none⟩) n c) (w1.alloc (.cells cur E))) (.own T.length) (T++[some (.arr k es)]):=oZ (b:=true) hI h1 hos htp hout hes hn hc hcm hcs hr E hdr
def Vj {t e:TypeId} (ht:P.underlying t=some (.slice e)) {i:TypeInfo} (hi:P.info? e=some i) {z:Value} (hz:i.zero=some z) (hzs:z.cells.size=i.size) (h0:0<i.size) {len:Nat} (hlen:len*i.size≤2^20) (hpos:0<len) {parts:Array (Nat×Operand)}
  (hG:pS G h) (hI:Inv h φ w T) (hS:qU h φ T.length s a) {x:AV} {T':aH}
  (he:bO T (cQ G s) (.bsl i.size (Ff z.cells.toList len) (Gu i.size parts.toList) len)=some (x,T')) :
  fV h φ T w ((Instr.buildSlice t len (parts.map λ(i,x)=>(i,a.eval x))).run P w) x T':=by
 simp only [bO] at he;split at he
 ·rename_i cs hcs;obtain ⟨b,hcl,hx⟩:∃ b:Bool,(∀ c∈cs,Lu b c=true)∧(some (AV.own T.length,T++[some (fY b i.size (uE i.size len cs))])=some (x,T')):=by
   split at he
   ·rename_i hcl;exact ⟨true,λc hc=>lF.1 hcl c hc,he⟩
   ·split at he
    ·rename_i hcl;exact ⟨false,λc hc=>lF.1 hcl c hc,he⟩
    ·simp at he
  clear he;have he:=hx
  ·injection he with he;injection he with e1 e2;subst e1;subst e2;obtain ⟨vs,h1,h2⟩:=R2 hG hS (Gu i.size parts.toList) (Jh h φ T.length (Ff z.cells.toList len)) hcs;have hrange:=Mz z.cells (by omega) len;have hfill:=N6 (place:=λj=>some (j*i.size,i.size)) (λj=>(j*i.size,i.size)) (parts.toList.map λp=>(p.1,a.eval p.2)) ((Array.range (len*z.cells.size)).map λj=>z.cells[j%z.cells.size]!) vs (λp _=>rfl)
    (by rw [hrange,←h1,Mx];simp [N5,D1,Function.comp_def])
   have hl:cs.length=len*i.size:=by
    have lay_len:∀ (l:List (Nat×Nat×AV)) (cells cs:List AV),Gp cells l=some cs→cs.length=cells.length:=by
     intro l
     induction l with
     | nil=>intro cells cs e;simp only [Gp,Option.some.injEq] at e;rw [e]
     | cons p l ih =>
      grind [Gp,List.length_append,List.length_take,List.length_drop]
    grind
   obtain ⟨g1,g2,g3⟩:=Ho len cs hl;have hvl:=h2.length;have hrun:(Instr.buildSlice t len (parts.map λ(i,x)=>(i,a.eval x))).run P w=.ok (.slice (some ⟨w.heap.size,0,none⟩) len len) (w.alloc (.cells vs.toArray e)):=by
    have hne:¬(len*i.size=0):=by
     have:=Nat.mul_pos hpos h0;omega
    have hsz:¬(16777216<len*i.size):=by omega
    rw [hzs] at hfill;simp only [Instr.buildSlice,Sem.run_bind,run_underlying ht,Result.andThen_ok,Go.sizeOf,typeInfo,run_program,hi,Sem.run_pure,zeroValue];simp only [hne,if_false,gt_iff_lt,Nat.reducePow,hsz,Sem.run_bind,run_program,Result.andThen_ok,hi,hz,Sem.run_pure,Array.toList_map,hzs];simp [hfill,newRow]
   rw [hrun];have hlm:len≤maxLen:=by
    have h':len≤len*i.size:=Nat.le_mul_of_pos_right _ h0;unfold maxLen;omega
   have hvs:vs.toArray.size=len*i.size:=by rw [Lt];omega
   refine oZ hI rfl rfl rfl rfl (λd hd=>⟨g3 d hd,λc hc=>hcl c (by rw [←g1];exact Hg.2 ⟨d,hd,hc⟩)⟩) g2 (cT _) hlm hvs ?_ e;rw [g1];have:(vs.toArray.toList.take (len*i.size))=vs:=xR (by show vs.length≤_;rw [←hvl,hl];exact cT _);rw [this];exact An.of h2 hcl
 ·simp at he
def Im {i:Nat} {o o':AObj} (hI:Inv h φ w T) (hi:T[i]?=some (some o)) {g:Nat} {cur new:Array Value} {E:TypeId} (hw:w.heap[g]?=some (.cells cur E (0,0))) (hbl:iE (φ i)=some g)
  (ho:qI h φ T.length (w.setRow g new) i o'):Inv h φ (w.setRow g new) (T.set i (some o'))∧Evo h φ T w h φ (T.set i (some o')) (w.setRow g new) :=
 DW (w':=w.setRow g new) hI rfl rfl rfl (by simp) hi (λb _ hne=>setRow_other w g b new λe=>hne (by rw [hbl,e])) ho
def X2 {t:TypeId} {n:Nat} (ht:lU P t=some n) (hG:pS G h) (hI:Inv h φ w T) (hS:qU h φ T.length s a) {p q:Operand} {x:AV} {T':aH} (he:bO T (cQ G s) (.st n p q)=some (x,T')) :
  ∃ w',(Instr.storeAt t (a.eval p) (a.eval q)).run P w=.ok () w'∧x=.v undef∧Evo h φ T w h φ T' w'∧Inv h φ w' T':=by
 have hp:=cJ hG hS p;have run:∀ (g o:Nat) (cur:Array Value) (E:TypeId),w.heap[g]?=some (.cells cur E (0,0))→(∀ c∈cR (cQ G s q),eO c=true)→(cR (cQ G s q)).length=n→o+n≤cur.size →
   (Instr.storeAt t (.pointer (some ⟨g,o,none⟩)) (a.eval q)).run P w=.ok () (w.setRow g (cur.toList.take o++(a.eval q).cells.toList++cur.toList.drop (o+n)).toArray):=by
  intro g o cur E hw hone hlen hle;have hx:=AK (cJ hG hS q) hone;have hl:=hx.length;rw [hlen] at hl;have h1:∀ v∈(a.eval q).cells.toList,v.oneCell'=true:=by
   intro v hv;obtain ⟨j,hj⟩:=Md hv;have hjl:j<(cR (cQ G s q)).length:=by
    grind
   obtain ⟨u,h2,h3⟩:=hx.get (nQ hjl);rw [hj] at h2;injection h2 with h2;subst h2;exact Ik h3 (hone _ (iN hjl))
  have:=run_storeCells_at P g o E (a.eval q).cells.toList 0 cur w hw (by omega) h1;have hsz:(a.eval q).cells.size=n:=by simp_all
  simp only [wK] at this;rw [←hl] at this;simp [Instr.storeAt,Instr.sureAddr,storeVar,mU ht,hsz,this]
 simp only [bO] at he;split at he
 ·rename_i i off hev;rw [hev] at hp;simp only [Rp] at hp;obtain ⟨_,g,hφ,hu⟩:=hp;split at he
  ·rename_i cs hg;split at he
   ·rename_i hc;obtain ⟨c1,c2,c3⟩:=hc;injection he with he;injection he with e1 e2;subst e1;subst e2;obtain ⟨g',us,E,hφ',hw,hgh,hr⟩:=Mu hI hg;rw [hφ] at hφ';injection hφ' with hφ';injection hφ' with hφ';injection hφ' with hφ';subst hφ';have hone:∀ c∈cR (cQ G s q),eO c=true:=λc hc=>lF.1 c3 c hc;have hrl:=hr.length;rw [hu,run g off us E hw hone c1 (by simp only [Dx] at hrl;omega)];have hx:=AK (cJ hG hS q) hone;have:=Im (o':=.box (cs.take off++cR (cQ G s q)++cs.drop (off+n))) hI (aZ hg) hw (by rw [hφ];rfl)
     (new:=(us.toList.take off++(a.eval q).cells.toList++us.toList.drop (off+n)).toArray)
     ⟨g,_,E,hφ,setRow_heap w g us _ E _ hw,hgh,by simpa using ((hr.take off).app hx).app (hr.drop (off+n))⟩
    simp_all
   ·simp at he
  ·simp at he
 ·rename_i i k j off hev;rw [hev] at hp;simp only [Rp] at hp;obtain ⟨_,g,l,c,hφ,hu⟩:=hp;split at he
  ·rename_i k' es b hg;split at he
   ·rename_i hk;subst hk;split at he
    ·rename_i e hj;split at he
     ·rename_i hc;obtain ⟨c1,c2,c3⟩:=hc;injection he with he;injection he with e1 e2;subst e1;subst e2;have hclosed:∀ c∈cR (cQ G s q),Lu b c=true:=λc hc=>lF.1 c3 c hc;have hone:∀ c∈cR (cQ G s q),eO c=true:=λc hc=>Il (hclosed c hc);obtain ⟨hl0,h1 | ⟨g',c',cur,E,hφ',hw,h2,h3,h4,h5,h6⟩⟩:=nS hI hg
      ·rw [h1.choose_spec.2] at hj;simp at hj
      ·rw [hφ] at hφ';injection hφ' with hφ' hl1 hc1;injection hφ' with hφ';injection hφ' with hφ';subst hφ';subst hc1;have hl:∀ e∈es,e.length=k:=λe he=>(hl0 e he).1;have hjl:j<es.length:=by
        rcases gM j es.length with hh | hh
        ·exact hh
        ·simp [oW hh] at hj
       have hel:e.length=k:=hl e (Ru hj);have hjk:(j+1)*k≤es.length*k:=Ny k hjl;have hck:es.length*k≤(c'+1)*k:=Ny k h2;rw [EF] at hjk;rw [hu,run g _ cur E hw hone c1 (by omega)];have hx:=An.of (b:=b) (AK (cJ hG hS q) hone) hclosed;have hflat:=Py (x:=cR (cQ G s q)) hl hj (off:=off) (n:=n) (by omega);have hnl:∀ d∈es.set j (e.take off++cR (cQ G s q)++e.drop (off+n)),d.length=k∧∀ c∈d,Lu b c=true:=by
        intro d hd;rcases aBV hd with hd | rfl
        ·exact hl0 d hd
        ·refine ⟨by simp only [gK,kM,xS];omega,λc hc=>?_⟩;have he0:=(hl0 e (Ru hj)).2;simp only [eM] at hc;rcases hc with (hc | hc) | hc
         ·exact he0 c (Ef hc)
         ·exact hclosed c hc
         ·exact he0 c (Me hc)
       have hxl:=hx.length;have hcl:(a.eval q).cells.toList.length=n:=by omega
       have h6l:=h6.length;rw [wL hl] at h6l;have hcur:es.length*k≤cur.toList.length:=by rw [show cur.toList.length=cur.size from Dx,h4];exact hck
       have hpm:j*k+off+n≤es.length*k:=by omega
       have hnew:(cur.toList.take (j*k+off)++(a.eval q).cells.toList++cur.toList.drop (j*k+off+n)).length=(c'+1)*k:=by
        have e1:cur.toList.length=(c'+1)*k:=by rw [show cur.toList.length=cur.size from Dx,h4]
        simp only [gK,kM,xS,hcl];omega
       have:=Im (o':=fY b k (es.set j (e.take off++cR (cQ G s q)++e.drop (off+n)))) hI (aZ (Au hg)) hw (by rw [hφ];rfl)
        (new:=(cur.toList.take (j*k+off)++(a.eval q).cells.toList++cur.toList.drop (j*k+off+n)).toArray)
        (kE.2 ⟨hnl,.inr ⟨g,c',_,E,by rw [hφ,gG,hl1],setRow_heap w g cur _ E _ hw,by rw [gG];omega,by omega,by
         rw [Lt];exact hnew,h5,by
         rw [hflat,gG];have:=Jk cur.toList (a.eval q).cells.toList (j*k+off) n (es.length*k) hpm hcur hcl;show An h φ T.length b _ (List.take _ (cur.toList.take (j*k+off)++(a.eval q).cells.toList++cur.toList.drop (j*k+off+n)));rw [this]
         exact ((h6.take _).app hx).app (h6.drop _)⟩⟩)
       exact ⟨_,rfl,rfl,this.2,this.1⟩
     ·simp at he
    ·simp at he
   ·simp at he
  ·simp at he
 ·simp at he
end
end
section
def iC.vals {h:GH} {b k:Nat}:∀ {es:List (List AV)} {o:Nat},iC h b k es o →
  (∀ e∈es,e.length=k∧∀ c∈e,aO c=true)∧∃ us,bQ h es.flatten us∧∀ j u,us[j]?=some u→lS h b (o+j)=some u
 | [],o,_=>⟨by simp,[],by simp [bQ],λj u hj=>by simp at hj⟩
 | e::es,o,hh=>by
  simp only [iC] at hh;obtain ⟨h1,h2,h3⟩:=hh;obtain ⟨us,h4,h5⟩:=h2.vals;obtain ⟨h6,vs,h7,h8⟩:=h3.vals;refine ⟨λd hd=>?_,us++vs,by rw [qW];exact h4.app h7,λj u hj=>?_⟩
  ·rcases jB.1 hd with rfl | hd
   ·refine ⟨h1,λc hc=>?_⟩;obtain ⟨i,hi⟩:=Md hc;exact (h2.get hi).choose_spec.1
   ·exact h6 d hd
  ·have hl:=h4.length;grind
section
variable {P:Program} {G:Nat→Option (List AV)} {h:GH} {φ:Nat→Value} {T:aH} {w:World} {s:List (Nat×AV)} {a:Act}
def DY {α:Type} {k:Nat}:∀ {es:List (List α)},(∀ e∈es,e.length=k)→∀ (l:Nat),(es.drop l).flatten=es.flatten.drop (l*k)
 | [],_,l=>by simp
 | e::es,he,0=>by simp
 | e::es,he,l+1=>by
  have h1:e.length=k:=he e (by simp);rw [Xi,DY (λd hd=>he d (by simp [hd])) l,qW,EF,Nat.add_comm,←Hi,←h1];simp
def DZ {α:Type} {k:Nat}:∀ {es:List (List α)},(∀ e∈es,e.length=k)→∀ (l:Nat),(es.take l).flatten=es.flatten.take (l*k)
 | [],_,l=>by simp
 | e::es,he,0=>by simp
 | e::es,he,l+1=>by
  have h1:e.length=k:=he e (by simp);rw [Mf,qW,DZ (λd hd=>he d (by simp [hd])) l,qW,EF,List.take_append,←h1];congr 1
  ·rw [xR (by omega)]
  ·congr 1;omega
def X3 {α:Type} {k:Nat} {es:List (List α)} (he:∀ e∈es,e.length=k) (l m:Nat):((es.drop l).take m).flatten=(es.flatten.drop (l*k)).take (m*k):=by
 rw [DZ (λd hd=>he d (Me hd)),DY he]
def Vk (T:aH) (k:Nat):AV→Option (List (List AV)×Bool)
 | .ls k' es=>if k=k' then some (es,true) else none
 | .own a=>match oX (bZ T a) with
  | some (k',es,b)=>if k=k' then some (es,b) else none
  | _=>none
 | .v (.slice none 0 0)=>some ([],true)
 | .vw a k' lo m=>match oX (bZ T a) with
  | some (k'',es,b)=>if k=k'∧k=k''∧lo+m≤es.length then some ((es.drop lo).take m,b) else none
  | _=>none
 | _=>none
def X4 (hI:Inv h φ w T) {k:Nat} {x:AV} {u:Value} (hx:Rp h φ T.length x u) {new:List (List AV)} {b:Bool} (e:Vk T k x=some (new,b)) :
  (∀ e∈new,e.length=k∧∀ c∈e,Lu b c=true)∧∃ A c news,u=.slice A new.length c∧An h φ T.length b new.flatten news ∧
   (new=[]∨∃ b o,A=some ⟨b,o,none⟩∧∀ j v,news[j]?=some v→w.cell? ⟨b,o+j,none⟩=some v):=by
 unfold Vk at e;split at e
 ·rename_i k' es;split at e
  ·rename_i hk;subst hk;injection e with e;injection e with e1 e2;subst e1;subst e2;simp only [Rp,kY] at hx;obtain ⟨A,c,hu,_,_,h3⟩:=hx;rcases h3 with rfl | ⟨b,o,rfl,hE⟩
   ·simp_all [An,bQ]
   ·obtain ⟨h4,us,h5,h6⟩:=hE.vals;exact ⟨h4,_,c,us,hu,h5,.inr ⟨b,o,rfl,λj v hj=>Pv hI (h6 j v hj)⟩⟩
  ·simp at e
 ·rename_i i;split at e
  ·rename_i k' es b' hg;split at e
   ·rename_i hk;subst hk;injection e with e;injection e with e1 e2;subst e1;subst e2;simp only [Rp] at hx;obtain ⟨hl,h1 | ⟨g,c,cur,E,hφ,hw,h2,h3,h4,h5,h6⟩⟩:=nS hI hg
    ·obtain ⟨A,h1,h2⟩:=h1;simp_all [An,bQ,bK]
    ·refine ⟨hl,_,c+1,_,by rw [hx.2.1,hφ],h6,.inr ⟨g,0,rfl,λj v hj=>?_⟩⟩;rw [As hw];rw [zD] at hj;split at hj
     ·rw [←hj];simp
     ·simp at hj
   ·simp at e
  ·simp at e
 ·injection e with e;injection e with e1 e2;subst e1;subst e2;simp only [Rp] at hx;exact ⟨by simp,none,0,[],hx,by simp [An,bQ],.inl rfl⟩
 ·rename_i i k' lo m;split at e
  ·rename_i k'' es b' hg;split at e
   ·rename_i hk;obtain ⟨rfl,rfl,hlen⟩:=hk;injection e with e;injection e with e1 e2;subst e1;subst e2;simp only [Rp] at hx;obtain ⟨_,A,c,hu,_,_,h0⟩:=hx;obtain ⟨hl,h1⟩:=nS hI hg;have hl':∀ d∈(es.drop lo).take m,d.length=k∧∀ c∈d,Lu b' c=true:=λd hd=>hl d (Me (Ef hd));have hln:((es.drop lo).take m).length=m:=by rw [kM,xS];omega
    refine ⟨hl',?_⟩;have hnil:An h φ T.length b' [] []:=by cases b'<;>simp [An,bQ,bK]
    rcases h0 with rfl | ⟨g,l,c',hφ,rfl,hle⟩
    ·exact ⟨A,c,[],by simpa using hu,by simpa using hnil,.inl (by simp)⟩
    ·by_cases hm:m=0
     ·subst hm;exact ⟨_,c,[],by simpa using hu,by simpa using hnil,.inl (by simp)⟩
     ·rcases h1 with h1 | ⟨g',c2,cur,E,hφ',hw,h2,h3,h4,h5,h6⟩
      ·obtain ⟨A,h1,rfl⟩:=h1;simp at hlen;omega
      ·rw [hφ] at hφ';injection hφ' with e1 e2 e3;injection e1 with e1;injection e1 with e1;subst e1;refine ⟨_,c,((cur.toList.take (es.length*k)).drop (lo*k)).take (m*k),by rw [hu,hln],?_,.inr ⟨g,lo*k,rfl,λj v hj=>?_⟩⟩
       ·rw [X3 (λd hd=>(hl d hd).1)];exact (h6.drop _).take _
       ·rw [As hw];rw [zD] at hj;split at hj
        ·rw [FV,zD] at hj;split at hj
         ·rw [←hj];simp
         ·simp at hj
        ·simp at hj
   ·simp at e
  ·simp at e
 ·simp at e
def aAt {ev:Operand→AV} {x y:Operand} {k bytes:Nat} {r:AV} {T':aH} (he:bO T ev (.app x y k bytes)=some (r,T')) :
    ∃ new b,Vk T k (ev y)=some (new,b) ∧
      ((ev x=.v (.slice none 0 0)∧new.length*bytes≤140737488355328∧new.length≤maxLen∧r=.own T.length∧T'=T++[some (fY b k new)]) ∨
       ∃ i es b',ev x=.own i∧oX (bZ T i)=some (k,es,b')∧(es.length+new.length)*bytes≤140737488355328∧es.length+new.length≤maxLen∧r=.own T.length∧T'=T.set i none++[some (fY (b&&b') k (es++new))]):=by
  simp only [bO] at he;split at he
  · simp at he
  · rename_i new b hs
    refine ⟨new,b,?_,?_⟩
    · unfold Vk
      exact hs
    · split at he
      · rename_i hx
        split at he
        · rename_i hc
          injection he with he;injection he with e1 e2
          exact .inl ⟨hx,hc.1,hc.2,e1.symm,e2.symm⟩
        · simp at he
      · rename_i i hx
        split at he
        · rename_i k' es b' hg
          split at he
          · rename_i hc
            obtain ⟨rfl,hc1,hc2⟩:=hc
            injection he with he;injection he with e1 e2
            exact .inr ⟨i,es,b',hx,hg,hc1,hc2,e1.symm,e2.symm⟩
          · simp at he
        · simp at he
      · simp at he
def Vl {t e ty:TypeId} (ht:P.underlying t=some (.slice e)) {i:TypeInfo} (hi:P.info? e=some i) {z:Value} (hz:i.zero=some z) (hzs:z.cells.size=i.size) (h0:0<i.size)
  (hG:pS G h) (hI:Inv h φ w T) (hS:qU h φ T.length s a) {p q:Operand} {x:AV} {T':aH} (he:bO T (cQ G s) (.app p q i.size i.bytes)=some (x,T')) :
  fV h φ T w ((Builtin.append_ #[t,t] ty #[a.eval p,a.eval q]).run P w) x T':=by
 obtain ⟨new,fb,hsrc,hcase⟩:=aAt he;have hp:=cJ hG hS p;have hq:=cJ hG hS q;obtain ⟨hnew,A,c,news,hu,hnl,hcells⟩:=X4 hI hq hsrc;have hnlen:news.length=new.length*i.size:=by rw [←hnl.length,wL λd hd=>(hnew d hd).1]
 have hone:∀ v∈news,v.oneCell'=true:=by
  intro v hv;obtain ⟨j,hj⟩:=Md hv;have hjl:j<new.flatten.length:=by
   rw [hnl.length];rcases gM j news.length with hh | hh
   ·exact hh
   ·rw [oW hh] at hj;simp at hj
  obtain ⟨u,h1,h2⟩:=hnl.toL.get (nQ hjl);rw [hj] at h1;injection h1 with h1;subst h1;obtain ⟨d,hd,hcd⟩:=Hg.1 (iN hjl);exact Ik h2 (Il ((hnew d hd).2 _ hcd))
 have cap_cells:∀ (m old:Nat) (xs:List Value),xs.length=m*i.size→m≤maxLen →
   (xs.toArray++Builtin.zeroCells z.cells (grownCap w m old e-m)).size=grownCap w m old e*i.size∧(xs.toArray++Builtin.zeroCells z.cells (grownCap w m old e-m)).toList.take (m*i.size)=xs∧m≤grownCap w m old e∧grownCap w m old e≤maxLen:=by
  intro m old xs hxs hm;have hge:=grownCap_ge w m old e;refine ⟨?_,?_,hge,grownCap_le_maxLen w m old e hm⟩
  ·simp only [Array.size_append,Lt,size_zeroCells,hzs,hxs,←CM];congr 1;omega
  ·simp only [Pf];rw [←hxs];exact T9
 rcases hcase with ⟨hx,hb,hm,rfl,rfl⟩ | ⟨j,es,b',hx,hg,hb,hm,rfl,rfl⟩
 ·
  rw [jO hG hS hx,hu];rcases hcells with rfl | ⟨b,o,rfl,hcell⟩
  ·have:(Builtin.append_ #[t,t] ty #[.slice none 0 0,.slice A ([]:List (List AV)).length c]).run P w=.ok (.slice none 0 0) w:=by
    cases A<;>simp [Builtin.append_,run_underlying ht,Go.sizeOf,typeInfo,hi,Builtin.lenOf,Builtin.firstCells,loadCells,loadCellsFrom]
   rw [this];have:=pG (w':=w) (o:=fY fb i.size []) (v:=.slice none 0 0) hI rfl rfl rfl (cT _) (λ_ _=>rfl) (λg hg=>by simp [iE] at hg) (kE.2 ⟨by simp,.inl ⟨none,bA,rfl⟩⟩);refine ⟨_,w,h,_,rfl,this.2,this.1,?_⟩;simp only [Rp];exact ⟨by simp,bA.symm,_,_,_,rfl⟩
  ·by_cases hn0:new=[]
   ·subst hn0;have:(Builtin.append_ #[t,t] ty #[.slice none 0 0,.slice (some ⟨b,o,none⟩) ([]:List (List AV)).length c]).run P w=.ok (.slice none 0 0) w:=by
     simp [Builtin.append_,run_underlying ht,Go.sizeOf,typeInfo,hi,Builtin.lenOf,Builtin.firstCells,loadCells,loadCellsFrom]
    rw [this];have:=pG (w':=w) (o:=fY fb i.size []) (v:=.slice none 0 0) hI rfl rfl rfl (cT _) (λ_ _=>rfl) (λg hg=>by simp [iE] at hg) (kE.2 ⟨by simp,.inl ⟨none,bA,rfl⟩⟩);refine ⟨_,w,h,_,rfl,this.2,this.1,?_⟩;simp only [Rp];exact ⟨by simp,bA.symm,_,_,_,rfl⟩
   ·have hpos:0<new.length:=JS.2 hn0;have hr:=run_append_nil (P:=P) w t ty e i z ht hi hz ⟨b,o,none⟩ new.length c news hnlen (λj v hj=>by rw [fI];exact hcell j v hj) hpos (by unfold maxLen at hm;omega) (by omega);rw [hr];obtain ⟨c1,c2,c3,c4⟩:=cap_cells new.length 0 news hnlen hm;exact oZ (w1:=w.drew) hI rfl rfl rfl rfl hnew rfl c3 c4 c1 (by rw [c2];exact hnl) e
 ·
  rw [hx] at hp;simp only [Rp] at hp;obtain ⟨hl,h1 | ⟨g,cap,cur,E,hφ,hw,h2,h3,h4,h5,h6⟩⟩:=nS hI hg
  ·
   obtain ⟨A0,hφ,rfl⟩:=h1;rw [hp.2.1,hφ,hu];simp only [gW,jJ,qT] at hb hm ⊢;obtain ⟨hI',hE'⟩:=tD hI j;have comb:∀ {r:Result Value},fV h φ (T.set j none) w r (.own (T.set j none).length) (T.set j none++[some (fY (fb&&b') i.size new)])→fV h φ T w r (.own T.length) (T.set j none++[some (fY (fb&&b') i.size new)]):=by
    rintro r ⟨v,w',h',φ',m1,m2,m3,m4⟩;rw [gG] at m4;exact ⟨v,w',h',φ',m1,hE'.trans m2,m3,m4⟩
   apply comb;by_cases hn0:new=[]
   ·subst hn0;have:(Builtin.append_ #[t,t] ty #[.slice A0 0 0,.slice A ([]:List (List AV)).length c]).run P w=.ok (.slice A0 0 0) w:=by
     cases A0<;>cases A<;>simp [Builtin.append_,run_underlying ht,Go.sizeOf,typeInfo,hi,Builtin.lenOf,Builtin.firstCells,loadCells,loadCellsFrom,storeCells]
    rw [this];have:=pG (w':=w) (o:=fY (fb&&b') i.size []) (v:=.slice A0 0 0) hI' rfl rfl rfl (cT _) (λ_ _=>rfl) (λg hg=>by simp [iE] at hg) (kE.2 ⟨by simp,.inl ⟨A0,bA,rfl⟩⟩);refine ⟨_,w,h,_,rfl,this.2,this.1,?_⟩;simp only [Rp];exact ⟨by simp,bA.symm,_,_,_,rfl⟩
   ·have hpos:0<new.length:=JS.2 hn0;rcases hcells with rfl | ⟨b,o,rfl,hcell⟩
    ·exact absurd rfl hn0
    ·cases A0 with
     | none =>
      have hr:=run_append_nil (P:=P) w t ty e i z ht hi hz ⟨b,o,none⟩ new.length c news hnlen (λj v hj=>by rw [fI];exact hcell j v hj) hpos (by unfold maxLen at hm;omega) (by omega);rw [hr];obtain ⟨c1,c2,c3,c4⟩:=cap_cells new.length 0 news hnlen hm;exact oZ (w1:=w.drew) hI' rfl rfl rfl rfl (λd hd=>⟨(hnew d hd).1,λc hc=>mW ((hnew d hd).2 c hc) (λhh=>(lN _ _ ▸ hh:fb=true∧b'=true).1)⟩) rfl c3 c4 c1 (by rw [c2,gG];exact hnl.weaken (λhh=>(lN _ _ ▸ hh:fb=true∧b'=true).1)) e
     | some a0 =>
      have hr:=run_append_grow (P:=P) w t ty e i z ht hi hz a0 0 0 [] (by simp) (λj v hj=>by simp at hj) ⟨b,o,none⟩ new.length c news hnlen (λj v hj=>by rw [fI];exact hcell j v hj) (by omega) (by unfold maxLen at hm;omega) (growslice_fits (by omega) (by simpa using hb));rw [hr];obtain ⟨c1,c2,c3,c4⟩:=cap_cells new.length 0 news hnlen hm;simp only [qT,T6] at *
      exact oZ (w1:=w.drew) hI' rfl rfl rfl rfl (λd hd=>⟨(hnew d hd).1,λc hc=>mW ((hnew d hd).2 c hc) (λhh=>(lN _ _ ▸ hh:fb=true∧b'=true).1)⟩) rfl c3 c4 c1 (by rw [c2,gG];exact hnl.weaken (λhh=>(lN _ _ ▸ hh:fb=true∧b'=true).1)) e
  ·rw [hp.2.1,hφ,hu];have holen:(cur.toList.take (es.length*i.size)).length=es.length*i.size:=by rw [←h6.length,wL λd hd=>(hl d hd).1]
   have hbb:(fb&&b')=true→fb=true∧b'=true:=λhh=>by simpa using hh
   have hboth:∀ d∈es++new,d.length=i.size∧∀ c∈d,Lu (fb&&b') c=true:=by
    intro d hd;rcases eM.1 hd with hd | hd
    ·exact ⟨(hl d hd).1,λc hc=>mW ((hl d hd).2 c hc) λhh=>(hbb hh).2⟩
    ·exact ⟨(hnew d hd).1,λc hc=>mW ((hnew d hd).2 c hc) λhh=>(hbb hh).1⟩
   have hbothL:An h φ T.length (fb&&b') (es++new).flatten (cur.toList.take (es.length*i.size)++news):=by rw [PZ];exact (h6.weaken λhh=>(hbb hh).2).app (hnl.weaken λhh=>(hbb hh).1)
   by_cases hroom:es.length+new.length≤cap+1
   ·
    have hf:(Builtin.firstCells i.size new.length (.slice A new.length c)).run P w=.ok news.toArray w:=by
     rcases hcells with rfl | ⟨b,o,rfl,hcell⟩
     ·have:news=[]:=H7 (by simpa using hnlen);subst this;cases A<;>simp [Builtin.firstCells,loadCells,loadCellsFrom]
     ·exact run_firstCells_some w i.size new.length ⟨b,o,none⟩ _ _ news hnlen λj v hj=>by rw [fI];exact hcell j v hj
    have hfit:es.length*i.size+news.length≤cur.size:=by rw [hnlen,h4,←CM];exact Ny _ hroom
    have vT:=run_storeCells_at P g (es.length*i.size) E news 0 cur w hw (by simpa using hfit) hone;simp only [wK] at vT;have hrun:(Builtin.append_ #[t,t] ty #[.slice (some ⟨g,0,none⟩) es.length (cap+1),.slice A new.length c]).run P w =
      .ok (.slice (some ⟨g,0,none⟩) (es.length+new.length) (cap+1)) (w.setRow g (cur.toList.take (es.length*i.size)++news++cur.toList.drop (es.length*i.size+news.length)).toArray):=by
     simp [Builtin.append_,run_underlying ht,Go.sizeOf,typeInfo,hi,Builtin.lenOf,hroom,hf,fI,vT]
    rw [hrun];have hI1:=tD hI j;have hgt:=aZ (Au hg);refine ⟨_,_,h,Vf φ T.length (.slice (some ⟨g,0,none⟩) (es.length+new.length) (cap+1)),rfl,?_,?_,?_⟩
    ·refine ⟨rfl,rfl,rfl,by simp,λb hb hne=>setRow_other w g b _ λe=>hne j _ hgt (by rw [hφ,e];rfl),zG.refl h,λ_ _ e=>.inl e,λm hm=>eN hm,λm o b em hbl=>?_,by simp,cT _⟩;rcases iD em with ⟨hm',em'⟩ | ⟨rfl,em'⟩
     ·rw [gG] at hm';rw [eN hm'] at hbl;rcases lH em' with ⟨_,e'⟩ | ⟨_,e'⟩
      ·simp at e'
      ·exact .inr ⟨m,o,e',hbl⟩
     ·rw [gG,bA] at hbl;simp only [iE,Option.some.injEq] at hbl;exact .inr ⟨j,_,hgt,by rw [hφ];simp [iE,hbl]⟩
    ·refine ⟨λb cs eb=>?_,λm o em=>?_,λm m' o o' b em em' hbm hbm'=>?_⟩
     ·obtain ⟨E',fr,hb'⟩:=hI.gh b cs eb;refine ⟨E',fr,?_⟩;rw [setRow_other w g b _ λe=>by subst e;rw [h5] at eb;simp at eb];exact hb'
     ·rcases iD em with ⟨hm',em'⟩ | ⟨rfl,em'⟩
      ·rw [gG] at hm';rcases lH em' with ⟨_,e'⟩ | ⟨hne,e'⟩
       ·simp at e'
       ·rw [gK,gG];have h7:=hI.obj m o e';refine mV h7 (zG.refl h) (by simp) (λj hj=>eN hj) hm' λb hb'=>?_;obtain ⟨h8,h9⟩:=fO h7 hb';refine ⟨setRow_other w g b _ λe=>hne (hI.dis m j o _ b e' hgt hb' (by rw [hφ,e];rfl)),h9⟩
      ·injection em' with em';subst em';rw [gG,gK,gG];refine kE.2 ⟨hboth,.inr ⟨g,cap,_,E,by rw [bA,gK],setRow_heap w g cur _ E _ hw,by rw [gK];exact hroom,h3,?_,h5,?_⟩⟩
       ·rw [Lt];simp only [gK,xS,holen];rw [show cur.toList.length=cur.size from Dx,←h4];omega
       ·have hlen2:(cur.toList.take (es.length*i.size)++news).length=(es++new).length*i.size:=by rw [gK,holen,hnlen,gK,CM]
        show An h _ _ (fb&&b') _ (List.take _ (cur.toList.take (es.length*i.size)++news++cur.toList.drop (es.length*i.size+news.length)));rw [←hlen2,T9];exact hbothL.mono (zG.refl h) (by simp) λi hi=>eN hi
     ·rcases iD em with ⟨hm1,em1⟩ | ⟨rfl,em1⟩<;>rcases iD em' with ⟨hm2,em2⟩ | ⟨rfl,em2⟩
      ·rw [gG] at hm1 hm2;rw [eN hm1] at hbm;rw [eN hm2] at hbm';exact hI1.1.dis m m' o o' b em1 em2 hbm hbm'
      ·rw [gG] at hm1 hbm';rw [eN hm1] at hbm;rw [bA] at hbm';simp only [iE,Option.some.injEq] at hbm';rcases lH em1 with ⟨_,e'⟩ | ⟨hne,e'⟩
       ·simp at e'
       ·exact absurd (hI.dis m j o _ b e' hgt hbm (by rw [hφ,←hbm'];rfl)) hne
      ·rw [gG] at hm2 hbm;rw [eN hm2] at hbm';rw [bA] at hbm;simp only [iE,Option.some.injEq] at hbm;rcases lH em2 with ⟨_,e'⟩ | ⟨hne,e'⟩
       ·simp at e'
       ·exact absurd (hI.dis m' j o' _ b e' hgt hbm' (by rw [hφ,←hbm];rfl)) hne
      ·rfl
    ·simp only [Rp];rw [gK,gG];exact ⟨by simp,by rw [bA],_,_,_,rfl⟩
   ·
    have hne:new≠[]:=by rintro rfl;simp at hroom;omega
    rcases hcells with rfl | ⟨b,o,rfl,hcell⟩
    ·exact absurd rfl hne
    ·have holds:∀ j v,(cur.toList.take (es.length*i.size))[j]?=some v→w.cell? ((⟨g,0,none⟩:Addr).add j)=some v:=by
      intro j v hj;rw [fI,As hw];rw [zD] at hj;split at hj
      ·rw [←hj];simp
      ·simp at hj
     have hr:=run_append_grow (P:=P) w t ty e i z ht hi hz ⟨g,0,none⟩ es.length (cap+1) _ holen holds ⟨b,o,none⟩ new.length c news hnlen (λj v hj=>by rw [fI];exact hcell j v hj) (by omega) (by unfold maxLen at hm;omega) (growslice_fits (by omega) hb);rw [hr];obtain ⟨hI',hE'⟩:=tD hI j;have comb:∀ {r:Result Value},fV h φ (T.set j none) w r (.own (T.set j none).length) (T.set j none++[some (fY (fb&&b') i.size (es++new))])→fV h φ T w r (.own T.length) (T.set j none++[some (fY (fb&&b') i.size (es++new))]):=by
      rintro r ⟨v,w',h',φ',m1,m2,m3,m4⟩;rw [gG] at m4;exact ⟨v,w',h',φ',m1,hE'.trans m2,m3,m4⟩
     apply comb;have hxs:(cur.toList.take (es.length*i.size)++news).length=(es.length+new.length)*i.size:=by rw [gK,holen,hnlen,CM]
     obtain ⟨c1,c2,c3,c4⟩:=cap_cells (es.length+new.length) (cap+1) (cur.toList.take (es.length*i.size)++news) hxs hm;have heq:(cur.toList.take (es.length*i.size)).toArray++news.toArray=(cur.toList.take (es.length*i.size)++news).toArray:=by simp
     rw [heq];exact oZ (w1:=w.drew) hI' rfl rfl rfl rfl hboth (by simp) c3 c4 c1 (by rw [c2,gG];exact hbothL) e
end
end
section
def Fh:∀ (xs L:List Nat),∃ l,Fc L xs=L++l
 | [],L=>⟨[],by simp [Fc]⟩
 | i::r,L=>by
  simp only [Fc];split
  ·exact Fh r L
  ·obtain ⟨l,h⟩:=Fh r (L++[i]);simp_all
def Av:∀ (xs L:List Nat),L.Nodup→(Fc L xs).Nodup
 | [],L,h=>h
 | i::r,L,h=>by
  simp only [Fc];split
  ·exact Av r L h
  ·rename_i hc;refine Av r _ (H9.2 ⟨h,by simp,λa ha b hb=>?_⟩);grind
def Jl (T:aH):∀ (R:aH) (L:List Nat),∃ l,CO T R L=L++l
 | [],L=>⟨[],by simp [CO]⟩
 | _::R,L=>by
  obtain ⟨l,h⟩:=Fh (Xx T L) L;obtain ⟨l',h'⟩:=Jl T R (Fc L (Xx T L));grind [CO]
def Fi (T:aH):∀ (R:aH) (L:List Nat),L.Nodup→(CO T R L).Nodup
 | [],_,h=>h
 | _::R,L,h=>by
  simp only [CO];exact Fi T R _ (Av _ _ h)
def Hp (T:aH) (ids:List Nat):(sA T ids).Nodup:=Fi T T _ (Av _ _ (by simp))
def Jm:∀ (m k:Nat) (more:List Nat),∃ l,Fc (List.range k) (List.range' k m++more)=List.range (k+m)++l
 | 0,k,more=>by simpa using Fh more (List.range k)
 | m+1,k,more=>by
  simp only [List.range'_succ,fX,Fc];rw [if_neg (by simp)];have:=Jm m (k+1) more;grind [List.range_succ]
def Pz (T:aH) (r:Nat) (more:List Nat):∃ l,sA T (List.range r++more)=List.range r++l:=by
 obtain ⟨l,h⟩:=Jm r 0 more;obtain ⟨l',h'⟩:=Jl T T (Fc [] (List.range r++more));simp_all [sA,JU,qT,List.range_eq_range']
def tE {L:List Nat} {i j:Nat} (e:Rr L i=some j):L[j]?=some i:=by
 unfold Rr at e
 induction L generalizing j with
 | nil=>simp at e
 | cons a L ih =>
  rw [List.idxOf?_cons] at e;split at e
  ·grind
  ·cases h:List.idxOf? i L with
   | none=>simp [h] at e
   | some k=>simp [h] at e;subst e;simp [ih h]
def Ej {L:List Nat} {i j:Nat} (e:Rr L i=some j):j<L.length:=by
 have:=tE e;grind
section
variable {h h':GH} {φ φc:Nat→Value} {n:Nat}
def Hq (L:List Nat) (φ φc:Nat→Value):Prop:=∀ j i,L[j]?=some i→φc j=φ i
mutual
def R5 {L:List Nat} (hφ:Hq L φ φc):∀ {x:AV} {u:Value},Rp h φ n x u→Rp h φc L.length (AF L x) u
 | .v _,_,e=>by simpa [Rp,AF] using e
 | .ls _ _,_,e=>by simp only [Rp,AF] at *;exact e
 | .ag cs,_,e=>by simp only [Rp,AF] at *;obtain ⟨us,h1,h2⟩:=e;exact ⟨us,h1,Aw hφ h2⟩
 | .own i,_,e=>by
  simp only [Rp,AF] at *
  split
  ·rename_i j hj;simp only [Rp];exact ⟨Ej hj,by rw [hφ _ _ (tE hj)];exact e.2.1,e.2.2⟩
  ·simp [Rp]
 | .ptr i o,_,e=>by
  simp only [Rp,AF] at *
  split
  ·rename_i j hj;simp only [Rp];exact ⟨Ej hj,by rw [hφ _ _ (tE hj)];exact e.2⟩
  ·simp [Rp]
 | .elt i k m o,_,e=>by
  simp only [Rp,AF] at *
  split
  ·rename_i j hj;simp only [Rp];exact ⟨Ej hj,by rw [hφ _ _ (tE hj)];exact e.2⟩
  ·simp [Rp]
 | .vw i k m o,_,e=>by
  simp only [Rp,AF] at *
  split
  ·rename_i j hj;simp only [Rp];exact ⟨Ej hj,by rw [hφ _ _ (tE hj)];exact e.2⟩
  ·simp [Rp]
 | .mp i,_,e=>by
  simp only [Rp,AF] at *
  split
  ·rename_i j hj;simp only [Rp];exact ⟨Ej hj,by rw [hφ _ _ (tE hj)];exact e.2.1,e.2.2⟩
  ·simp [Rp]
 | .yl i,_,e=>by
  simp only [Rp,AF] at *
  split
  ·rename_i j hj;simp only [Rp];exact ⟨Ej hj,by rw [hφ _ _ (tE hj)];exact e.2.1,e.2.2⟩
  ·simp [Rp]
 | .rp _,_,e=>by simp only [Rp,AF] at *;exact e
 | .cl f cs,_,e=>by simp only [Rp,AF] at *;obtain ⟨us,h1,h2⟩:=e;exact ⟨us,h1,Aw hφ h2⟩
 | .bm f kk cs,_,e=>by simp only [Rp,AF] at *;obtain ⟨us,h1,h2⟩:=e;exact ⟨us,h1,Aw hφ h2⟩
 | .tup cs,_,e=>by simp only [Rp,AF] at *;obtain ⟨us,h1,h2⟩:=e;exact ⟨us,h1,Aw hφ h2⟩
 | .any,_,_=>by simp [Rp,AF]
def Aw {L:List Nat} (hφ:Hq L φ φc):∀ {cs:List AV} {us:List Value},bK h φ n cs us→bK h φc L.length (uF L cs) us
 | [],_,e=>by simpa [bK,uF] using e
 | c::cs,us,e=>by
  simp only [bK,uF] at *
  obtain ⟨u,us',h1,h2,h3⟩:=e;exact ⟨u,us',h1,R5 hφ h2,Aw hφ h3⟩
end
def X5 {L:List Nat} (hφ:Hq L φ φc) {f:Nat→Value}:∀ {s:List (Nat×AV)},(∀ p∈s,Rp h φ n p.2 (f p.1))→∀ p∈Pu L s,Rp h φc L.length p.2 (f p.1)
 | [],_,p,hp=>by simp [Pu] at hp
 | (i,x)::s,hs,p,hp=>by
  simp only [Pu] at hp;rcases jB.1 hp with rfl | hp
  ·exact R5 hφ (hs (i,x) (by simp))
  ·exact X5 hφ (λq hq=>hs q (by simp [hq])) p hp
def N7 {L:List Nat} {i:Nat} {y:AV}:∀ {s:List (Nat×AV)},(i,y)∈Pu L s→∃ x,(i,x)∈s∧y=AF L x
 | [],h=>by simp [Pu] at h
 | (j,x)::s,h=>by
  simp only [Pu] at h;rcases jB.1 h with h | h
  ·simp_all
  ·obtain ⟨x',h1,h2⟩:=N7 h;exact ⟨x',by simp [h1],h2⟩
theorem UI {L:List Nat}:∀ (cs:List AV),(uF L cs).length=cs.length
 | []=>rfl
 | c::cs=>by simp [uF,UI cs]
def P0 {L:List Nat}:∀ (es:List (List AV)),(XP L es).flatten=uF L es.flatten
 | []=>rfl
 | e::es=>by
  have app:∀ (a b:List AV),uF L (a++b)=uF L a++uF L b:=by
   intro a b
   induction a with
   | nil=>rfl
   | cons c a ih=>simp [uF,ih]
  simp only [XP,qW,P0 es,app]
def Io {L:List Nat}:∀ (es:List (List AV)),(XP L es).length=es.length
 | []=>rfl
 | e::es=>by simp [XP,Io es]
def UJ {L:List Nat} {d:List AV}:∀ {es:List (List AV)},d∈XP L es→∃ e∈es,d=uF L e
 | [],h=>by simp [XP] at h
 | e::es,h=>by
  simp only [XP] at h;rcases jB.1 h with rfl | h
  ·simp
  ·obtain ⟨e',h1,h2⟩:=UJ h;exact ⟨e',by simp [h1],h2⟩
def aCs {L:List Nat} (hφ:Hq L φ φc) {w:World} {i j:Nat} {o o':AObj} (hj:L[j]?=some i) (ho:Va L o=some o') (e:qI h φ n w i o):qI h φc L.length w j o':=by
 have hij:=hφ j i hj
 cases o with
 | box cs =>
  simp only [Va,Option.some.injEq] at ho;subst ho;obtain ⟨g,us,E,h1,h2,h3,h4⟩:=e;exact ⟨g,us,E,by rw [hij];exact h1,h2,h3,Aw hφ h4⟩
 | arr k es =>
  simp only [Va,Option.some.injEq] at ho;subst ho;obtain ⟨h0,h1 | ⟨g,c,cur,E,h1,h2⟩⟩:=e
  ·exact ⟨h0,.inl (by rw [hij];exact h1)⟩
  ·exact ⟨h0,.inr ⟨g,c,cur,E,by rw [hij];exact h1,h2⟩⟩
 | arf k es =>
  simp only [Va] at ho;split at ho
  ·rename_i hone;injection ho with ho;subst ho;obtain ⟨h0,h1 | ⟨g,c,cur,E,h1,h2,h3,h4,h5,h6,h7⟩⟩:=e
   ·refine ⟨λd hd=>?_,.inl (by rw [hij];obtain ⟨A,hA,rfl⟩:=h1;exact ⟨A,hA,rfl⟩)⟩;grind [XP]
   ·refine ⟨λd hd=>?_,.inr ⟨g,c,cur,E,by rw [hij,Io];exact h1,h2,by rw [Io];exact h3,h4,h5,h6,by rw [P0,Io];exact Aw hφ h7⟩⟩;obtain ⟨e',he',rfl⟩:=UJ hd;grind [UI]
  ·simp at ho
 | map ag ks vs bs cl =>
  simp only [Va,Option.some.injEq] at ho;subst ho;obtain ⟨g,ens,h1,h2,h3,h4,h5,h6⟩:=e;exact ⟨g,ens,by rw [hij];exact h1,h2,h3,h4,h5,Aw hφ h6⟩
 | lp r s =>
  simp only [Va,Option.some.injEq] at ho;subst ho;obtain ⟨g,h1,h2,h3,h4,h5⟩:=e;refine ⟨g,by rw [hij];exact h1,h2,h3,λa x y hx hy=>?_,X5 (f:=λj=>r.tmps.getD j undef) hφ h5⟩;obtain ⟨x',h6,rfl⟩:=N7 hx;obtain ⟨y',h7,rfl⟩:=N7 hy;grind
 | mit m since seen st =>
  obtain ⟨g,mo,h1,h2,h3,h4⟩:=e
  cases m with
  | none =>
   simp only [Va,Option.some.injEq] at ho;subst ho;exact ⟨g,mo,by rw [hij];exact h1,h2,h3,h4⟩
  | some m =>
   simp only [Va] at ho;split at ho
   ·rename_i m' hm;injection ho with ho;subst ho;obtain ⟨b,h5,h6,h7⟩:=h4;exact ⟨g,mo,by rw [hij];exact h1,h2,h3,b,h5,Ej hm,by rw [hφ _ _ (tE hm)];exact h7⟩
   ·simp at ho
def Fj {L:List Nat} {T:aH} {j:Nat} {o:AObj} (e:(CP L T)[j]?=some (some o)):∃ i o',L[j]?=some i∧T[i]?=some (some o')∧Va L o'=some o:=by
 unfold CP at e;rw [lO] at e
 cases hj:L[j]? with
 | none=>simp [hj] at e
 | some i =>
  simp only [hj,lA,Option.some.injEq] at e
  cases hg:bZ T i with
  | none=>simp [hg] at e
  | some o' =>
   simp only [hg,Hh] at e;exact ⟨i,o',rfl,aZ hg,e⟩
def X6 {L:List Nat} (hL:L.Nodup) {T:aH} {w:World} (hI:Inv h φ w T) (hφ:Hq L φ φc):Inv h φc w (CP L T):=by
 have hlen:(CP L T).length=L.length:=by simp [CP]
 refine ⟨hI.gh,λj o e=>?_,λj j' o o' b e e' hb hb'=>?_⟩
 ·obtain ⟨i,o',hj,hi,ho⟩:=Fj e;rw [hlen];exact aCs hφ hj ho (hI.obj i o' hi)
 ·obtain ⟨i,x,hj,hi,_⟩:=Fj e;obtain ⟨i',x',hj',hi',_⟩:=Fj e';rw [hφ _ _ hj] at hb;rw [hφ _ _ hj'] at hb';have:=hI.dis i i' x x' b hi hi' hb hb';subst this;have hlt:j<L.length:=by
   grind
  exact (List.getElem?_inj hlt hL).1 (by rw [hj,hj'])
def aC1 {L:List Nat} {j i:Nat} (hj:L[j]?=some i):bk L n j=i:=by
 grind [bk]
def aC2 {L:List Nat} {j:Nat} (hj:L.length≤j):bk L n j=n+(j-L.length):=by grind [bk]
mutual
def R6 {L:List Nat} {m m':Nat} (hφ:∀ j,j<m→φ (bk L n j)=φc j∧bk L n j<m'):∀ {x:AV} {u:Value},Rp h φc m x u→Rp h φ m' (vG L n x) u
 | .v _,_,e=>by simpa [Rp,vG] using e
 | .ls _ _,_,e=>by simp only [Rp,vG] at *;exact e
 | .ag cs,_,e=>by simp only [Rp,vG] at *;obtain ⟨us,h1,h2⟩:=e;exact ⟨us,h1,CS hφ h2⟩
 | .own i,_,e=>by
  grind [Rp,vG]
 | .ptr i o,_,e=>by
  grind [Rp,vG]
 | .elt i k j o,_,e=>by
  grind [Rp,vG]
 | .vw i k j o,_,e=>by
  grind [Rp,vG]
 | .mp i,_,e=>by
  grind [Rp,vG]
 | .yl i,_,e=>by
  grind [Rp,vG]
 | .rp _,_,e=>by simp only [Rp,vG] at *;exact e
 | .cl f cs,_,e=>by simp only [Rp,vG] at *;obtain ⟨us,h1,h2⟩:=e;exact ⟨us,h1,CS hφ h2⟩
 | .bm f kk cs,_,e=>by simp only [Rp,vG] at *;obtain ⟨us,h1,h2⟩:=e;exact ⟨us,h1,CS hφ h2⟩
 | .tup cs,_,e=>by simp only [Rp,vG] at *;obtain ⟨us,h1,h2⟩:=e;exact ⟨us,h1,CS hφ h2⟩
 | .any,_,_=>by simp [Rp,vG]
def CS {L:List Nat} {m m':Nat} (hφ:∀ j,j<m→φ (bk L n j)=φc j∧bk L n j<m'):∀ {cs:List AV} {us:List Value},bK h φc m cs us→bK h φ m' (B9 L n cs) us
 | [],_,e=>by simpa [bK,B9] using e
 | c::cs,us,e=>by
  simp only [bK,B9] at *
  obtain ⟨u,us',h1,h2,h3⟩:=e;exact ⟨u,us',h1,R6 hφ h2,CS hφ h3⟩
end
def X7 {L:List Nat} {m m':Nat} (hφ:∀ j,j<m→φ (bk L n j)=φc j∧bk L n j<m') {f:Nat→Value}:∀ {s:List (Nat×AV)},(∀ p∈s,Rp h φc m p.2 (f p.1))→∀ p∈bkS L n s,Rp h φ m' p.2 (f p.1)
 | [],_,p,hp=>by simp [bkS] at hp
 | (i,x)::s,hs,p,hp=>by
  simp only [bkS] at hp;rcases jB.1 hp with rfl | hp
  ·exact R6 hφ (hs (i,x) (by simp))
  ·exact X7 hφ (λq hq=>hs q (by simp [hq])) p hp
def N8 {L:List Nat} {i:Nat} {y:AV}:∀ {s:List (Nat×AV)},(i,y)∈bkS L n s→∃ x,(i,x)∈s∧y=vG L n x
 | [],h=>by simp [bkS] at h
 | (j,x)::s,h=>by
  simp only [bkS] at h;rcases jB.1 h with h | h
  ·simp_all
  ·obtain ⟨x',h1,h2⟩:=N8 h;exact ⟨x',by simp [h1],h2⟩
def UK {L:List Nat}:∀ (cs:List AV),(B9 L n cs).length=cs.length
 | []=>rfl
 | c::cs=>by simp [B9,UK cs]
theorem aCt {L:List Nat}:∀ {c:AV},eO (vG L n c)=eO c:=by
 intro c;cases c<;>simp only [vG]<;>simp [eO]
def P1 {L:List Nat}:∀ (es:List (List AV)),(bkF L n es).flatten=B9 L n es.flatten
 | []=>rfl
 | e::es=>by
  have app:∀ (a b:List AV),B9 L n (a++b)=B9 L n a++B9 L n b:=by
   intro a b
   induction a with
   | nil=>rfl
   | cons c a ih=>simp [B9,ih]
  simp only [bkF,qW,P1 es,app]
def Ip {L:List Nat}:∀ (es:List (List AV)),(bkF L n es).length=es.length
 | []=>rfl
 | e::es=>by simp [bkF,Ip es]
def UL {L:List Nat} {d:List AV}:∀ {es:List (List AV)},d∈bkF L n es→∃ e∈es,d=B9 L n e
 | [],h=>by simp [bkF] at h
 | e::es,h=>by
  simp only [bkF] at h;rcases jB.1 h with rfl | h
  ·simp
  ·obtain ⟨e',h1,h2⟩:=UL h;exact ⟨e',by simp [h1],h2⟩
def UM {L:List Nat} {d:AV}:∀ {es:List AV},d∈B9 L n es→∃ e∈es,d=vG L n e
 | [],h=>by simp [B9] at h
 | e::es,h=>by
  simp only [B9] at h;rcases jB.1 h with rfl | h
  ·simp
  ·obtain ⟨e',h1,h2⟩:=UM h;exact ⟨e',by simp [h1],h2⟩
def aCu {L:List Nat} {m m':Nat} (hφ:∀ j,j<m→φ (bk L n j)=φc j∧bk L n j<m') {w:World} {j:Nat} (hj:j<m) {o o':AObj} (ho:CI L n (some o)=some o') (e:qI h φc m w j o):qI h φ m' w (bk L n j) o':=by
 have hij:=(hφ j hj).1
 cases o with
 | box cs =>
  simp only [CI,Option.some.injEq] at ho;subst ho;obtain ⟨g,us,E,h1,h2,h3,h4⟩:=e;exact ⟨g,us,E,by rw [hij];exact h1,h2,h3,CS hφ h4⟩
 | arr k es =>
  simp only [CI,Option.some.injEq] at ho;subst ho;obtain ⟨h0,h1 | ⟨g,c,cur,E,h1,h2⟩⟩:=e
  ·exact ⟨h0,.inl (by rw [hij];exact h1)⟩
  ·exact ⟨h0,.inr ⟨g,c,cur,E,by rw [hij];exact h1,h2⟩⟩
 | arf k es =>
  simp only [CI,Option.some.injEq] at ho;subst ho;obtain ⟨h0,h1⟩:=e;refine ⟨λd hd=>?_,?_⟩
  ·obtain ⟨e',he',rfl⟩:=UL hd;refine ⟨by rw [UK];exact (h0 e' he').1,λc hc=>?_⟩;obtain ⟨c',hc',rfl⟩:=UM hc;grind [aCt]
  ·rcases h1 with ⟨A,hA,rfl⟩ | ⟨g,c,cur,E,h1,h2,h3,h4,h5,h6,h7⟩
   ·exact .inl ⟨A,by rw [hij];exact hA,rfl⟩
   ·exact .inr ⟨g,c,cur,E,by rw [hij,Ip];exact h1,h2,by rw [Ip];exact h3,h4,h5,h6,by rw [P1,Ip];exact CS hφ h7⟩
 | lp r s =>
  simp only [CI,Option.some.injEq] at ho;subst ho;obtain ⟨g,h1,h2,h3,h4,h5⟩:=e;refine ⟨g,by rw [hij];exact h1,h2,h3,λa x y hx hy=>?_,X7 (f:=λj=>r.tmps.getD j undef) hφ h5⟩;obtain ⟨x',h6,rfl⟩:=N8 hx;obtain ⟨y',h7,rfl⟩:=N8 hy;grind
 | mit m0 since seen st =>
  obtain ⟨g,mo,h1,h2,h3,h4⟩:=e
  cases m0 with
  | none =>
   simp only [CI,Option.some.injEq] at ho;subst ho;exact ⟨g,mo,by rw [hij];exact h1,h2,h3,h4⟩
  | some m0 =>
   simp only [CI,Option.some.injEq] at ho;subst ho;obtain ⟨b,h5,h6,h7⟩:=h4;exact ⟨g,mo,by rw [hij];exact h1,h2,h3,b,h5,(hφ m0 h6).2,by rw [(hφ m0 h6).1];exact h7⟩
 | map ag ks vs bs cl =>
  simp only [CI,Option.some.injEq] at ho;subst ho;obtain ⟨g,ens,h1,h2,h3,h4,h5,h6⟩:=e;exact ⟨g,ens,by rw [hij];exact h1,h2,h3,h4,h5,CS hφ h6⟩
def UN {L:List Nat}:∀ (L':List Nat) (T T':aH),L'.length≤T'.length→(Fd L n T L' T').length=T.length+(T'.length-L'.length)
 | [],T,[],_=>by simp [Fd]
 | [],T,o::T',_=>by simp [Fd]
 | i::L',T,[],h=>by simp at h
 | i::L',T,o::T',h=>by
  simp only [Fd];rw [UN L' _ T' (by simpa using h)];simp
def UO {L:List Nat}:∀ (L':List Nat) (T T':aH) (i:Nat) (o:AObj),L'.Nodup→(∀ x∈L',x<T.length)→L'.length≤T'.length→(Fd L n T L' T')[i]?=some (some o) →
  (∃ j:Nat,L'[j]?=some i∧∃ o',T'[j]?=some o'∧CI L n o'=some o)∨(i<T.length∧i∉L'∧T[i]?=some (some o))∨(T.length≤i∧∃ o',T'[L'.length+(i-T.length)]?=some o'∧CI L n o'=some o)
 | [],T,[],i,o,_,_,_,e=>by
  grind [Fd]
 | [],T,x::T',i,o,_,_,_,e=>by
  grind [Fd]
 | a::L',T,[],i,o,_,_,h,_=>by simp at h
 | a::L',T,x::T',i,o,hn,hl,hle,e=>by
  simp only [Fd] at e;obtain ⟨hna,hn'⟩:=IA.1 hn;have ha:=hl a (by simp);rcases UO L' (T.set a (CI L n x)) T' i o hn' (λy hy=>by rw [gG];exact hl y (by simp [hy])) (by simpa using hle) e with ⟨j,hj,h2⟩ | ⟨h1,h2,h3⟩ | ⟨h1,h2⟩
  ·exact .inl ⟨j+1,by simpa using hj,by simpa using h2⟩
  ·rw [gG] at h1;rw [Hf] at h3;split at h3
   ·rename_i hai;subst hai;injection h3 with h3;exact .inl ⟨0,by simp,x,by simp,h3⟩
   ·simp_all;omega
  ·grind
def P2 {L:List Nat} {o':Option AObj} {o:AObj} (e:CI L n o'=some o):∃ x,o'=some x:=by
 cases o' with
 | none=>simp [CI] at e
 | some x=>exact ⟨x,rfl⟩
def X8 {L:List Nat} (hL:L.Nodup) {T:aH} (hlt:∀ i∈L,i<T.length) {w:World} (hI:Inv h φ w T) {T':aH} {h':GH} {φc':Nat→Value} {w':World}
  (hφ:Hq L φ φc) (hE:Evo h φc (CP L T) w h' φc' T' w') (hI':Inv h' φc' w' T') {r:AV} {v:Value} (hr:Rp h' φc' T'.length r v) :
  ∃ φ',Evo h φ T w h' φ' (Fd L T.length T L T') w'∧Inv h' φ' w' (Fd L T.length T L T')∧Rp h' φ' (Fd L T.length T L T').length (vG L T.length r) v:=by
 have hlen:(CP L T).length=L.length:=by simp [CP]
 have hle:L.length≤T'.length:=by have:=hE.len;omega
 have htl:=UN (L:=L) (n:=T.length) L T T' hle;let φ':Nat→Value:=λi=>if i<T.length then φ i else φc' (L.length+(i-T.length))
 have hφ':∀ j,j<T'.length→φ' (bk L T.length j)=φc' j∧bk L T.length j<(Fd L T.length T L T').length:=by
  intro j hj;rcases gM j L.length with hh | hh
  ·have hjg:L[j]?=some L[j]:=nQ hh;have hmem:=hlt _ (iN hh);rw [aC1 hjg];refine ⟨?_,by omega⟩;show (if L[j]<T.length then φ L[j] else _)=_;rw [if_pos hmem,hE.phi j (by omega),hφ j _ hjg]
  ·rw [aC2 hh];grind
 have hold:∀ i,i<T.length→φ' i=φ i:=λi hi=>if_pos hi;have own_up:∀ b,(∃ j o,(CP L T)[j]?=some (some o)∧iE (φc j)=some b)→∃ i o,i∈L∧T[i]?=some (some o)∧iE (φ i)=some b:=by
  rintro b ⟨j,o,hj,hb⟩;obtain ⟨i,o',h1,h2,_⟩:=Fj hj;exact ⟨i,o',Ru h1,h2,by rw [←hφ j i h1];exact hb⟩
 have beside:∀ i o,i<T.length→i∉L→T[i]?=some (some o)→∀ b,iE (φ i)=some b→b<w.heap.size∧h b=none∧¬∃ j o,(CP L T)[j]?=some (some o)∧iE (φc j)=some b:=by
  intro i o hi hiL ho b hb;obtain ⟨h1,h2⟩:=fO (hI.obj i o ho) hb;refine ⟨h1,h2,λhx=>?_⟩;obtain ⟨i',o',hmem,ho',hb'⟩:=own_up b hx;have:=hI.dis i i' o o' b ho ho' hb hb';simp_all
 have kind:∀ i o,(Fd L T.length T L T')[i]?=some (some o) →
   (∃ j x,j<T'.length∧bk L T.length j=i∧T'[j]?=some (some x)∧CI L T.length (some x)=some o)∨(i<T.length∧i∉L∧T[i]?=some (some o)):=by
  intro i o e;rcases UO L T T' i o hL hlt hle e with ⟨j,h1,o',h2,h3⟩ | h1 | ⟨h1,o',h2,h3⟩
  ·obtain ⟨x,rfl⟩:=P2 h3;refine .inl ⟨j,x,?_,aC1 h1,h2,h3⟩;grind
  ·exact .inr h1
  ·obtain ⟨x,rfl⟩:=P2 h3;refine .inl ⟨_,x,?_,?_,h2,h3⟩
   ·grind
   ·rw [aC2 (by omega)];omega
 refine ⟨φ',⟨hE.os,hE.tape,hE.output,hE.size,?_,hE.le,?_,hold,?_,by omega,hE.drawn⟩,⟨hI'.gh,?_,?_⟩,R6 hφ' hr⟩
 ·intro b hb hn;refine hE.frame b hb λj o hj hbl=>?_;obtain ⟨i,o',_,h1,h2⟩:=own_up b ⟨j,o,hj,hbl⟩;exact hn i o' h1 h2
 ·intro b cs e;rcases hE.gfr b cs e with h1 | h1 | ⟨j,o,hj,hbl⟩
  ·exact .inl h1
  ·exact .inr (.inl h1)
  ·obtain ⟨i,o',_,h1,h2⟩:=own_up b ⟨j,o,hj,hbl⟩;exact .inr (.inr ⟨i,o',h1,h2⟩)
 ·intro i o b e hb;rcases kind i o e with ⟨j,x,hj,rfl,hx,_⟩ | ⟨h1,h2,h3⟩
  ·rw [(hφ' j hj).1] at hb;rcases hE.org j x b hx hb with h4 | ⟨j',o',h4,h5⟩
   ·exact .inl h4
   ·obtain ⟨i,o',_,h6,h7⟩:=own_up b ⟨j',o',h4,h5⟩;exact .inr ⟨i,o',h6,h7⟩
  ·rw [hold i h1] at hb;exact .inr ⟨i,o,h3,hb⟩
 ·intro i o e;rcases kind i o e with ⟨j,x,hj,rfl,hx,ho⟩ | ⟨h1,h2,h3⟩
  ·exact aCu hφ' hj ho (hI'.obj j x hx)
  ·refine mV (hI.obj i o h3) hE.le (by omega) (λj hj=>hold j hj) h1 λg hg=>?_;obtain ⟨h4,h5,h6⟩:=beside i o h1 h2 h3 g hg;refine ⟨hE.frame g h4 λj o hj hbl=>h6 ⟨j,o,hj,hbl⟩,?_⟩
   cases hh:h' g with
   | none=>rfl
   | some cs =>
    rcases hE.gfr g cs hh with h7 | h7 | h7
    ·rw [h5] at h7;simp at h7
    ·omega
    ·exact absurd h7 h6
 ·intro i i' o o' b e e' hb hb';have cross:∀ {i i':Nat} {o:AObj} {j:Nat} {x:AObj},i<T.length→i∉L→T[i]?=some (some o)→iE (φ i)=some b→T'[j]?=some (some x)→iE (φc' j)=some b→False:=by
   intro i i' o j x h1 h2 h3 hb hx hbx;obtain ⟨h4,_,h6⟩:=beside i o h1 h2 h3 b hb;rcases hE.org j x b hx hbx with h7 | h7
   ·omega
   ·exact h6 h7
  rcases kind i o e with ⟨j,x,hj,rfl,hx,_⟩ | ⟨h1,h2,h3⟩<;>rcases kind i' o' e' with ⟨j',x',hj',rfl,hx',_⟩ | ⟨h1',h2',h3'⟩
  ·rw [(hφ' j hj).1] at hb;rw [(hφ' j' hj').1] at hb';rw [hI'.dis j j' x x' b hx hx' hb hb']
  ·rw [(hφ' j hj).1] at hb;rw [hold i' h1'] at hb';exact (cross (i':=0) h1' h2' h3' hb' hx hb).elim
  ·rw [(hφ' j' hj').1] at hb';rw [hold i h1] at hb;exact (cross (i':=0) h1 h2 h3 hb hx' hb').elim
  ·rw [hold i h1] at hb;rw [hold i' h1'] at hb';exact hI.dis i i' o o' b h3 h3' hb hb'
end
end
end Hud
