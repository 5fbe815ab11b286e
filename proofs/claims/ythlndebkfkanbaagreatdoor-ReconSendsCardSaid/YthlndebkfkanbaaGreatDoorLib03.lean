import Derived.Test.YthlndebkfkanbaaGreatDoorLib02
set_option linter.all false
namespace Hud
open Go
section
def GT:∀ (xs L:List Nat),∃ l,GN L xs=L++l
 | [],L=>⟨[],by simp [GN]⟩
 | i::r,L=>by
  simp only [GN];split
  ·exact GT r L
  ·obtain ⟨l,h⟩:=GT r (L++[i]);exact ⟨i::l,by rw [h];simp⟩
def Bb:∀ (xs L:List Nat),L.Nodup→(GN L xs).Nodup
 | [],L,h=>h
 | i::r,L,h=>by
  simp only [GN];split
  ·exact Bb r L h
  ·rename_i hc;refine Bb r _ (HN.2 ⟨h,by simp,λa ha b hb=>?_⟩);simp only [gZ] at hb;subst hb;rintro rfl;exact hc (by simpa using ha)
def Kk (T:aQ):∀ (R:aQ) (L:List Nat),∃ l,Cn T R L=L++l
 | [],L=>⟨[],by simp [Cn]⟩
 | _::R,L=>by
  obtain ⟨l,h⟩:=GT (ZE T L) L;obtain ⟨l',h'⟩:=Kk T R (GN L (ZE T L));exact ⟨l++l',by simp only [Cn];rw [h',h];simp⟩
def GU (T:aQ):∀ (R:aQ) (L:List Nat),L.Nodup→(Cn T R L).Nodup
 | [],_,h=>h
 | _::R,L,h=>by
  simp only [Cn];exact GU T R _ (Bb _ _ h)
def Ih (T:aQ) (ids:List Nat):(tN T ids).Nodup:=GU T T _ (Bb _ _ (by simp))
def Kl:∀ (m k:Nat) (more:List Nat),∃ l,GN (List.range k) (List.range' k m++more)=List.range (k+m)++l
 | 0,k,more=>by simpa using GT more (List.range k)
 | m+1,k,more=>by
  simp only [List.range'_succ,Ag,GN];rw [if_neg (by simp)];have:=Kl m (k+1) more;rw [Nc] at this;rw [show k+(m+1)=k+1+m from by omega];exact this
def Q4 (T:aQ) (r:Nat) (more:List Nat):∃ l,tN T (List.range r++more)=List.range r++l:=by
 obtain ⟨l,h⟩:=Kl r 0 more;obtain ⟨l',h'⟩:=Kk T T (GN [] (List.range r++more));refine ⟨l++l',?_⟩;unfold tN;rw [h'];simp only [KS,rW] at h;rw [Ym,h,←Ym];simp
def uQ {L:List Nat} {i j:Nat} (e:ZF L i=some j):L[j]?=some i:=by
 unfold ZF at e
 induction L generalizing j with
 | nil=>simp at e
 | cons a L ih =>
  rw [List.idxOf?_cons] at e;split at e
  ·rename_i ha;injection e with e;subst e;simp at ha;simp [ha]
  ·cases h:List.idxOf? i L with
   | none=>simp [h] at e
   | some k=>simp [h] at e;subst e;simp [ih h]
def FT {L:List Nat} {i j:Nat} (e:ZF L i=some j):j<L.length:=by
 have:=uQ e;rcases bY j L.length with h | h
 ·exact h
 ·simp [gV h] at this
section
variable {h h':GH} {φ φc:Nat→Value} {n:Nat}
def Ii (L:List Nat) (φ φc:Nat→Value):Prop:=∀ j i,L[j]?=some i→φc j=φ i
mutual
def S7 {L:List Nat} (hφ:Ii L φ φc):∀ {x:AV} {u:Value},Rp h φ n x u→Rp h φc L.length (F9 L x) u
 | .v _,_,e=>by simpa [Rp,F9] using e
 | .ls _ _,_,e=>by simp only [Rp,F9] at *;exact e
 | .ag cs,_,e=>by simp only [Rp,F9] at *;obtain ⟨us,h1,h2⟩:=e;exact ⟨us,h1,Bc hφ h2⟩
 | .own i,_,e=>by
  simp only [Rp,F9] at *
  split
  ·rename_i j hj;simp only [Rp];exact ⟨FT hj,by rw [hφ _ _ (uQ hj)];exact e.2.1,e.2.2⟩
  ·simp [Rp]
 | .ptr i o,_,e=>by
  simp only [Rp,F9] at *
  split
  ·rename_i j hj;simp only [Rp];exact ⟨FT hj,by rw [hφ _ _ (uQ hj)];exact e.2⟩
  ·simp [Rp]
 | .elt i k m o,_,e=>by
  simp only [Rp,F9] at *
  split
  ·rename_i j hj;simp only [Rp];exact ⟨FT hj,by rw [hφ _ _ (uQ hj)];exact e.2⟩
  ·simp [Rp]
 | .vw i k m o,_,e=>by
  simp only [Rp,F9] at *
  split
  ·rename_i j hj;simp only [Rp];exact ⟨FT hj,by rw [hφ _ _ (uQ hj)];exact e.2⟩
  ·simp [Rp]
 | .mp i,_,e=>by
  simp only [Rp,F9] at *
  split
  ·rename_i j hj;simp only [Rp];exact ⟨FT hj,by rw [hφ _ _ (uQ hj)];exact e.2.1,e.2.2⟩
  ·simp [Rp]
 | .yl i,_,e=>by
  simp only [Rp,F9] at *
  split
  ·rename_i j hj;simp only [Rp];exact ⟨FT hj,by rw [hφ _ _ (uQ hj)];exact e.2.1,e.2.2⟩
  ·simp [Rp]
 | .rp _,_,e=>by simp only [Rp,F9] at *;exact e
 | .cl f cs,_,e=>by simp only [Rp,F9] at *;obtain ⟨us,h1,h2⟩:=e;exact ⟨us,h1,Bc hφ h2⟩
 | .bm f kk cs,_,e=>by simp only [Rp,F9] at *;obtain ⟨us,h1,h2⟩:=e;exact ⟨us,h1,Bc hφ h2⟩
 | .tup cs,_,e=>by simp only [Rp,F9] at *;obtain ⟨us,h1,h2⟩:=e;exact ⟨us,h1,Bc hφ h2⟩
 | .any,_,_=>by simp [Rp,F9]
def Bc {L:List Nat} (hφ:Ii L φ φc):∀ {cs:List AV} {us:List Value},bW h φ n cs us→bW h φc L.length (Al L cs) us
 | [],_,e=>by simpa [bW,Al] using e
 | c::cs,us,e=>by
  simp only [bW,Al] at *
  obtain ⟨u,us',h1,h2,h3⟩:=e;exact ⟨u,us',h1,S7 hφ h2,Bc hφ h3⟩
end
def ZN {L:List Nat} (hφ:Ii L φ φc) {f:Nat→Value}:∀ {s:List (Nat×AV)},(∀ p∈s,Rp h φ n p.2 (f p.1))→∀ p∈Qy L s,Rp h φc L.length p.2 (f p.1)
 | [],_,p,hp=>by simp [Qy] at hp
 | (i,x)::s,hs,p,hp=>by
  simp only [Qy] at hp;rcases gK.1 hp with rfl | hp
  ·exact S7 hφ (hs (i,x) (by simp))
  ·exact ZN hφ (λq hq=>hs q (by simp [hq])) p hp
def Ot {L:List Nat} {i:Nat} {y:AV}:∀ {s:List (Nat×AV)},(i,y)∈Qy L s→∃ x,(i,x)∈s∧y=F9 L x
 | [],h=>by simp [Qy] at h
 | (j,x)::s,h=>by
  simp only [Qy] at h;rcases gK.1 h with h | h
  ·injection h with h1 h2;subst h1;subst h2;exact ⟨x,by simp,rfl⟩
  ·obtain ⟨x',h1,h2⟩:=Ot h;exact ⟨x',by simp [h1],h2⟩
def VT {L:List Nat}:∀ (cs:List AV),(Al L cs).length=cs.length
 | []=>rfl
 | c::cs=>by simp [Al,VT cs]
def Q5 {L:List Nat}:∀ (es:List (List AV)),(YX L es).flatten=Al L es.flatten
 | []=>rfl
 | e::es=>by
  have app:∀ (a b:List AV),Al L (a++b)=Al L a++Al L b:=by
   intro a b
   induction a with
   | nil=>rfl
   | cons c a ih=>simp [Al,ih]
  simp only [YX,qP,Q5 es,app]
def Jh {L:List Nat}:∀ (es:List (List AV)),(YX L es).length=es.length
 | []=>rfl
 | e::es=>by simp [YX,Jh es]
def VU {L:List Nat} {d:List AV}:∀ {es:List (List AV)},d∈YX L es→∃ e∈es,d=Al L e
 | [],h=>by simp [YX] at h
 | e::es,h=>by
  simp only [YX] at h;rcases gK.1 h with rfl | h
  ·exact ⟨e,by simp,rfl⟩
  ·obtain ⟨e',h1,h2⟩:=VU h;exact ⟨e',by simp [h1],h2⟩
def aE6 {L:List Nat} (hφ:Ii L φ φc) {w:World} {i j:Nat} {o o':AObj} (hj:L[j]?=some i) (ho:ZG L o=some o') (e:vW h φ n w i o):vW h φc L.length w j o':=by
 have hij:=hφ j i hj
 cases o with
 | box cs =>
  simp only [ZG,Option.some.injEq] at ho;subst ho;obtain ⟨g,us,E,h1,h2,h3,h4⟩:=e;exact ⟨g,us,E,by rw [hij];exact h1,h2,h3,Bc hφ h4⟩
 | arr k es =>
  simp only [ZG,Option.some.injEq] at ho;subst ho;obtain ⟨h0,h1 | ⟨g,c,cur,E,h1,h2⟩⟩:=e
  ·exact ⟨h0,.inl (by rw [hij];exact h1)⟩
  ·exact ⟨h0,.inr ⟨g,c,cur,E,by rw [hij];exact h1,h2⟩⟩
 | arf k es =>
  simp only [ZG] at ho;split at ho
  ·rename_i hone;injection ho with ho;subst ho;obtain ⟨h0,h1 | ⟨g,c,cur,E,h1,h2,h3,h4,h5,h6,h7⟩⟩:=e
   ·refine ⟨λd hd=>?_,.inl (by rw [hij];obtain ⟨A,hA,rfl⟩:=h1;exact ⟨A,hA,rfl⟩)⟩;obtain ⟨_,_,rfl⟩:=h1;simp [YX] at hd
   ·refine ⟨λd hd=>?_,.inr ⟨g,c,cur,E,by rw [hij,Jh];exact h1,h2,by rw [Jh];exact h3,h4,h5,h6,by rw [Q5,Jh];exact Bc hφ h7⟩⟩;obtain ⟨e',he',rfl⟩:=VU hd;refine ⟨by rw [VT];exact (h0 e' he').1,λc hc=>?_⟩;exact kY.1 (kY.1 hone _ hd) c hc
  ·simp at ho
 | map ag ks vs bs cl =>
  simp only [ZG,Option.some.injEq] at ho;subst ho;obtain ⟨g,ens,h1,h2,h3,h4,h5,h6⟩:=e;exact ⟨g,ens,by rw [hij];exact h1,h2,h3,h4,h5,Bc hφ h6⟩
 | lp r s =>
  simp only [ZG,Option.some.injEq] at ho;subst ho;obtain ⟨g,h1,h2,h3,h4,h5⟩:=e;refine ⟨g,by rw [hij];exact h1,h2,h3,λa x y hx hy=>?_,ZN (f:=λj=>r.tmps.getD j undef) hφ h5⟩;obtain ⟨x',h6,rfl⟩:=Ot hx;obtain ⟨y',h7,rfl⟩:=Ot hy;rw [h4 a x' y' h6 h7]
 | mit m since seen st =>
  obtain ⟨g,mo,h1,h2,h3,h4⟩:=e
  cases m with
  | none =>
   simp only [ZG,Option.some.injEq] at ho;subst ho;exact ⟨g,mo,by rw [hij];exact h1,h2,h3,h4⟩
  | some m =>
   simp only [ZG] at ho;split at ho
   ·rename_i m' hm;injection ho with ho;subst ho;obtain ⟨b,h5,h6,h7⟩:=h4;exact ⟨g,mo,by rw [hij];exact h1,h2,h3,b,h5,FT hm,by rw [hφ _ _ (uQ hm)];exact h7⟩
   ·simp at ho
def GV {L:List Nat} {T:aQ} {j:Nat} {o:AObj} (e:(Ef L T)[j]?=some (some o)):∃ i o',L[j]?=some i∧T[i]?=some (some o')∧ZG L o'=some o:=by
 unfold Ef at e;rw [eD] at e
 cases hj:L[j]? with
 | none=>simp [hj] at e
 | some i =>
  simp only [hj,kZ,Option.some.injEq] at e
  cases hg:cR T i with
  | none=>simp [hg] at e
  | some o' =>
   simp only [hg,KQ] at e;exact ⟨i,o',rfl,bD hg,e⟩
def ZO {L:List Nat} (hL:L.Nodup) {T:aQ} {w:World} (hI:Inv h φ w T) (hφ:Ii L φ φc):Inv h φc w (Ef L T):=by
 have hlen:(Ef L T).length=L.length:=by simp [Ef]
 refine ⟨hI.gh,λj o e=>?_,λj j' o o' b e e' hb hb'=>?_⟩
 ·obtain ⟨i,o',hj,hi,ho⟩:=GV e;rw [hlen];exact aE6 hφ hj ho (hI.obj i o' hi)
 ·obtain ⟨i,x,hj,hi,_⟩:=GV e;obtain ⟨i',x',hj',hi',_⟩:=GV e';rw [hφ _ _ hj] at hb;rw [hφ _ _ hj'] at hb';have:=hI.dis i i' x x' b hi hi' hb hb';subst this;have hlt:j<L.length:=by
   rcases bY j L.length with hh | hh
   ·exact hh
   ·simp [gV hh] at hj
  exact (List.getElem?_inj hlt hL).1 (by rw [hj,hj'])
def aDy {L:List Nat} {j i:Nat} (hj:L[j]?=some i):bk L n j=i:=by
 have hlt:j<L.length:=by
  rcases bY j L.length with hh | hh
  ·exact hh
  ·simp [gV hh] at hj
 unfold bk;rw [if_pos hlt,fG,hj];rfl
def aDz {L:List Nat} {j:Nat} (hj:L.length≤j):bk L n j=n+(j-L.length):=by unfold bk;rw [if_neg (by omega)]
mutual
def S8 {L:List Nat} {m m':Nat} (hφ:∀ j,j<m→φ (bk L n j)=φc j∧bk L n j<m'):∀ {x:AV} {u:Value},Rp h φc m x u→Rp h φ m' (Ae L n x) u
 | .v _,_,e=>by simpa [Rp,Ae] using e
 | .ls _ _,_,e=>by simp only [Rp,Ae] at *;exact e
 | .ag cs,_,e=>by simp only [Rp,Ae] at *;obtain ⟨us,h1,h2⟩:=e;exact ⟨us,h1,Cq hφ h2⟩
 | .own i,_,e=>by
  simp only [Rp,Ae] at *
  obtain ⟨h1,h2⟩:=hφ i e.1;exact ⟨h2,by rw [h1];exact e.2.1,e.2.2⟩
 | .ptr i o,_,e=>by
  simp only [Rp,Ae] at *
  obtain ⟨h1,h2⟩:=hφ i e.1;exact ⟨h2,by rw [h1];exact e.2⟩
 | .elt i k j o,_,e=>by
  simp only [Rp,Ae] at *
  obtain ⟨h1,h2⟩:=hφ i e.1;exact ⟨h2,by rw [h1];exact e.2⟩
 | .vw i k j o,_,e=>by
  simp only [Rp,Ae] at *
  obtain ⟨h1,h2⟩:=hφ i e.1;exact ⟨h2,by rw [h1];exact e.2⟩
 | .mp i,_,e=>by
  simp only [Rp,Ae] at *
  obtain ⟨h1,h2⟩:=hφ i e.1;exact ⟨h2,by rw [h1];exact e.2.1,e.2.2⟩
 | .yl i,_,e=>by
  simp only [Rp,Ae] at *
  obtain ⟨h1,h2⟩:=hφ i e.1;exact ⟨h2,by rw [h1];exact e.2.1,e.2.2⟩
 | .rp _,_,e=>by simp only [Rp,Ae] at *;exact e
 | .cl f cs,_,e=>by simp only [Rp,Ae] at *;obtain ⟨us,h1,h2⟩:=e;exact ⟨us,h1,Cq hφ h2⟩
 | .bm f kk cs,_,e=>by simp only [Rp,Ae] at *;obtain ⟨us,h1,h2⟩:=e;exact ⟨us,h1,Cq hφ h2⟩
 | .tup cs,_,e=>by simp only [Rp,Ae] at *;obtain ⟨us,h1,h2⟩:=e;exact ⟨us,h1,Cq hφ h2⟩
 | .any,_,_=>by simp [Rp,Ae]
def Cq {L:List Nat} {m m':Nat} (hφ:∀ j,j<m→φ (bk L n j)=φc j∧bk L n j<m'):∀ {cs:List AV} {us:List Value},bW h φc m cs us→bW h φ m' (D3 L n cs) us
 | [],_,e=>by simpa [bW,D3] using e
 | c::cs,us,e=>by
  simp only [bW,D3] at *
  obtain ⟨u,us',h1,h2,h3⟩:=e;exact ⟨u,us',h1,S8 hφ h2,Cq hφ h3⟩
end
def ZP {L:List Nat} {m m':Nat} (hφ:∀ j,j<m→φ (bk L n j)=φc j∧bk L n j<m') {f:Nat→Value}:∀ {s:List (Nat×AV)},(∀ p∈s,Rp h φc m p.2 (f p.1))→∀ p∈bkS L n s,Rp h φ m' p.2 (f p.1)
 | [],_,p,hp=>by simp [bkS] at hp
 | (i,x)::s,hs,p,hp=>by
  simp only [bkS] at hp;rcases gK.1 hp with rfl | hp
  ·exact S8 hφ (hs (i,x) (by simp))
  ·exact ZP hφ (λq hq=>hs q (by simp [hq])) p hp
def Ou {L:List Nat} {i:Nat} {y:AV}:∀ {s:List (Nat×AV)},(i,y)∈bkS L n s→∃ x,(i,x)∈s∧y=Ae L n x
 | [],h=>by simp [bkS] at h
 | (j,x)::s,h=>by
  simp only [bkS] at h;rcases gK.1 h with h | h
  ·injection h with h1 h2;subst h1;subst h2;exact ⟨x,by simp,rfl⟩
  ·obtain ⟨x',h1,h2⟩:=Ou h;exact ⟨x',by simp [h1],h2⟩
def VV {L:List Nat}:∀ (cs:List AV),(D3 L n cs).length=cs.length
 | []=>rfl
 | c::cs=>by simp [D3,VV cs]
def aE7 {L:List Nat}:∀ {c:AV},jU (Ae L n c)=jU c:=by
 intro c;cases c<;>simp only [Ae]<;>simp [jU]
def Q6 {L:List Nat}:∀ (es:List (List AV)),(bkF L n es).flatten=D3 L n es.flatten
 | []=>rfl
 | e::es=>by
  have app:∀ (a b:List AV),D3 L n (a++b)=D3 L n a++D3 L n b:=by
   intro a b
   induction a with
   | nil=>rfl
   | cons c a ih=>simp [D3,ih]
  simp only [bkF,qP,Q6 es,app]
def Ji {L:List Nat}:∀ (es:List (List AV)),(bkF L n es).length=es.length
 | []=>rfl
 | e::es=>by simp [bkF,Ji es]
def VW {L:List Nat} {d:List AV}:∀ {es:List (List AV)},d∈bkF L n es→∃ e∈es,d=D3 L n e
 | [],h=>by simp [bkF] at h
 | e::es,h=>by
  simp only [bkF] at h;rcases gK.1 h with rfl | h
  ·exact ⟨e,by simp,rfl⟩
  ·obtain ⟨e',h1,h2⟩:=VW h;exact ⟨e',by simp [h1],h2⟩
def VX {L:List Nat} {d:AV}:∀ {es:List AV},d∈D3 L n es→∃ e∈es,d=Ae L n e
 | [],h=>by simp [D3] at h
 | e::es,h=>by
  simp only [D3] at h;rcases gK.1 h with rfl | h
  ·exact ⟨e,by simp,rfl⟩
  ·obtain ⟨e',h1,h2⟩:=VX h;exact ⟨e',by simp [h1],h2⟩
def aE8 {L:List Nat} {m m':Nat} (hφ:∀ j,j<m→φ (bk L n j)=φc j∧bk L n j<m') {w:World} {j:Nat} (hj:j<m) {o o':AObj} (ho:HL L n (some o)=some o') (e:vW h φc m w j o):vW h φ m' w (bk L n j) o':=by
 have hij:=(hφ j hj).1
 cases o with
 | box cs =>
  simp only [HL,Option.some.injEq] at ho;subst ho;obtain ⟨g,us,E,h1,h2,h3,h4⟩:=e;exact ⟨g,us,E,by rw [hij];exact h1,h2,h3,Cq hφ h4⟩
 | arr k es =>
  simp only [HL,Option.some.injEq] at ho;subst ho;obtain ⟨h0,h1 | ⟨g,c,cur,E,h1,h2⟩⟩:=e
  ·exact ⟨h0,.inl (by rw [hij];exact h1)⟩
  ·exact ⟨h0,.inr ⟨g,c,cur,E,by rw [hij];exact h1,h2⟩⟩
 | arf k es =>
  simp only [HL,Option.some.injEq] at ho;subst ho;obtain ⟨h0,h1⟩:=e;refine ⟨λd hd=>?_,?_⟩
  ·obtain ⟨e',he',rfl⟩:=VW hd;refine ⟨by rw [VV];exact (h0 e' he').1,λc hc=>?_⟩;obtain ⟨c',hc',rfl⟩:=VX hc;rw [aE7];exact (h0 e' he').2 c' hc'
  ·rcases h1 with ⟨A,hA,rfl⟩ | ⟨g,c,cur,E,h1,h2,h3,h4,h5,h6,h7⟩
   ·exact .inl ⟨A,by rw [hij];exact hA,rfl⟩
   ·exact .inr ⟨g,c,cur,E,by rw [hij,Ji];exact h1,h2,by rw [Ji];exact h3,h4,h5,h6,by rw [Q6,Ji];exact Cq hφ h7⟩
 | lp r s =>
  simp only [HL,Option.some.injEq] at ho;subst ho;obtain ⟨g,h1,h2,h3,h4,h5⟩:=e;refine ⟨g,by rw [hij];exact h1,h2,h3,λa x y hx hy=>?_,ZP (f:=λj=>r.tmps.getD j undef) hφ h5⟩;obtain ⟨x',h6,rfl⟩:=Ou hx;obtain ⟨y',h7,rfl⟩:=Ou hy;rw [h4 a x' y' h6 h7]
 | mit m0 since seen st =>
  obtain ⟨g,mo,h1,h2,h3,h4⟩:=e
  cases m0 with
  | none =>
   simp only [HL,Option.some.injEq] at ho;subst ho;exact ⟨g,mo,by rw [hij];exact h1,h2,h3,h4⟩
  | some m0 =>
   simp only [HL,Option.some.injEq] at ho;subst ho;obtain ⟨b,h5,h6,h7⟩:=h4;exact ⟨g,mo,by rw [hij];exact h1,h2,h3,b,h5,(hφ m0 h6).2,by rw [(hφ m0 h6).1];exact h7⟩
 | map ag ks vs bs cl =>
  simp only [HL,Option.some.injEq] at ho;subst ho;obtain ⟨g,ens,h1,h2,h3,h4,h5,h6⟩:=e;exact ⟨g,ens,by rw [hij];exact h1,h2,h3,h4,h5,Cq hφ h6⟩
def VY {L:List Nat}:∀ (L':List Nat) (T T':aQ),L'.length≤T'.length→(Ic L n T L' T').length=T.length+(T'.length-L'.length)
 | [],T,[],_=>by simp [Ic]
 | [],T,o::T',_=>by simp [Ic]
 | i::L',T,[],h=>by simp at h
 | i::L',T,o::T',h=>by
  simp only [Ic];rw [VY L' _ T' (by simpa using h)];simp
def VZ {L:List Nat}:∀ (L':List Nat) (T T':aQ) (i:Nat) (o:AObj),L'.Nodup→(∀ x∈L',x<T.length)→L'.length≤T'.length→(Ic L n T L' T')[i]?=some (some o) →
  (∃ j:Nat,L'[j]?=some i∧∃ o',T'[j]?=some o'∧HL L n o'=some o)∨(i<T.length∧i∉L'∧T[i]?=some (some o))∨(T.length≤i∧∃ o',T'[L'.length+(i-T.length)]?=some o'∧HL L n o'=some o)
 | [],T,[],i,o,_,_,_,e=>by
  simp only [Ic] at e;refine .inr (.inl ⟨?_,by simp,e⟩);rcases bY i T.length with hh | hh
  ·exact hh
  ·simp [gV hh] at e
 | [],T,x::T',i,o,_,_,_,e=>by
  simp only [Ic] at e;rcases bY i T.length with hh | hh
  ·rw [Eb hh] at e;exact .inr (.inl ⟨hh,by simp,e⟩)
  ·rw [KG hh,eD] at e;refine .inr (.inr ⟨hh,?_⟩);simp only [kI,rW]
   cases hx:(x::T')[i-T.length]? with
   | none=>simp [hx] at e
   | some o'=>simp only [hx,kZ,Option.some.injEq] at e;exact ⟨o',rfl,e⟩
 | a::L',T,[],i,o,_,_,h,_=>by simp at h
 | a::L',T,x::T',i,o,hn,hl,hle,e=>by
  simp only [Ic] at e;obtain ⟨hna,hn'⟩:=KM.1 hn;have ha:=hl a (by simp);rcases VZ L' (T.set a (HL L n x)) T' i o hn' (λy hy=>by rw [mA];exact hl y (by simp [hy])) (by simpa using hle) e with ⟨j,hj,h2⟩ | ⟨h1,h2,h3⟩ | ⟨h1,h2⟩
  ·exact .inl ⟨j+1,by simpa using hj,by simpa using h2⟩
  ·rw [mA] at h1;rw [Ec] at h3;split at h3
   ·rename_i hai;subst hai;injection h3 with h3;exact .inl ⟨0,by simp,x,by simp,h3⟩
   ·rename_i hai;exact .inr (.inl ⟨h1,by simp;exact ⟨λe=>hai e.symm,h2⟩,h3⟩)
  ·rw [mA] at h1 h2;refine .inr (.inr ⟨h1,?_⟩);obtain ⟨o',h3,h4⟩:=h2;exact ⟨o',by simp only [kS];rw [show L'.length+1+(i-T.length)=(L'.length+(i-T.length))+1 from by omega,I8];exact h3,h4⟩
def Q7 {L:List Nat} {o':Option AObj} {o:AObj} (e:HL L n o'=some o):∃ x,o'=some x:=by
 cases o' with
 | none=>simp [HL] at e
 | some x=>exact ⟨x,rfl⟩
def ZQ {L:List Nat} (hL:L.Nodup) {T:aQ} (hlt:∀ i∈L,i<T.length) {w:World} (hI:Inv h φ w T) {T':aQ} {h':GH} {φc':Nat→Value} {w':World}
  (hφ:Ii L φ φc) (hE:Evo h φc (Ef L T) w h' φc' T' w') (hI':Inv h' φc' w' T') {r:AV} {v:Value} (hr:Rp h' φc' T'.length r v) :
  ∃ φ',Evo h φ T w h' φ' (Ic L T.length T L T') w'∧Inv h' φ' w' (Ic L T.length T L T')∧Rp h' φ' (Ic L T.length T L T').length (Ae L T.length r) v:=by
 have hlen:(Ef L T).length=L.length:=by simp [Ef]
 have hle:L.length≤T'.length:=by have:=hE.len;omega
 have htl:=VY (L:=L) (n:=T.length) L T T' hle;let φ':Nat→Value:=λi=>if i<T.length then φ i else φc' (L.length+(i-T.length))
 have hφ':∀ j,j<T'.length→φ' (bk L T.length j)=φc' j∧bk L T.length j<(Ic L T.length T L T').length:=by
  intro j hj;rcases bY j L.length with hh | hh
  ·have hjg:L[j]?=some L[j]:=fV hh;have hmem:=hlt _ (jY hh);rw [aDy hjg];refine ⟨?_,by omega⟩;show (if L[j]<T.length then φ L[j] else _)=_;rw [if_pos hmem,hE.phi j (by omega),hφ j _ hjg]
  ·rw [aDz hh];refine ⟨?_,by omega⟩;show (if T.length+(j-L.length)<T.length then _ else φc' (L.length+(T.length+(j-L.length)-T.length)))=_;rw [if_neg (by omega)];congr 1;omega
 have hold:∀ i,i<T.length→φ' i=φ i:=λi hi=>if_pos hi;have own_up:∀ b,(∃ j o,(Ef L T)[j]?=some (some o)∧mC (φc j)=some b)→∃ i o,i∈L∧T[i]?=some (some o)∧mC (φ i)=some b:=by
  rintro b ⟨j,o,hj,hb⟩;obtain ⟨i,o',h1,h2,_⟩:=GV hj;exact ⟨i,o',IR h1,h2,by rw [←hφ j i h1];exact hb⟩
 have beside:∀ i o,i<T.length→i∉L→T[i]?=some (some o)→∀ b,mC (φ i)=some b→b<w.heap.size∧h b=none∧¬∃ j o,(Ef L T)[j]?=some (some o)∧mC (φc j)=some b:=by
  intro i o hi hiL ho b hb;obtain ⟨h1,h2⟩:=gM (hI.obj i o ho) hb;refine ⟨h1,h2,λhx=>?_⟩;obtain ⟨i',o',hmem,ho',hb'⟩:=own_up b hx;have:=hI.dis i i' o o' b ho ho' hb hb';exact hiL (this ▸ hmem)
 have kind:∀ i o,(Ic L T.length T L T')[i]?=some (some o) →
   (∃ j x,j<T'.length∧bk L T.length j=i∧T'[j]?=some (some x)∧HL L T.length (some x)=some o)∨(i<T.length∧i∉L∧T[i]?=some (some o)):=by
  intro i o e;rcases VZ L T T' i o hL hlt hle e with ⟨j,h1,o',h2,h3⟩ | h1 | ⟨h1,o',h2,h3⟩
  ·obtain ⟨x,rfl⟩:=Q7 h3;refine .inl ⟨j,x,?_,aDy h1,h2,h3⟩;rcases bY j T'.length with hh | hh
   ·exact hh
   ·simp [gV hh] at h2
  ·exact .inr h1
  ·obtain ⟨x,rfl⟩:=Q7 h3;refine .inl ⟨_,x,?_,?_,h2,h3⟩
   ·rcases bY (L.length+(i-T.length)) T'.length with hh | hh
    ·exact hh
    ·simp [gV hh] at h2
   ·rw [aDz (by omega)];omega
 refine ⟨φ',⟨hE.os,hE.tape,hE.output,hE.size,?_,hE.le,?_,hold,?_,by omega,hE.drawn⟩,⟨hI'.gh,?_,?_⟩,S8 hφ' hr⟩
 ·intro b hb hn;refine hE.frame b hb λj o hj hbl=>?_;obtain ⟨i,o',_,h1,h2⟩:=own_up b ⟨j,o,hj,hbl⟩;exact hn i o' h1 h2
 ·intro b cs e;rcases hE.gfr b cs e with h1 | h1 | ⟨j,o,hj,hbl⟩
  ·exact .inl h1
  ·exact .inr (.inl h1)
  ·obtain ⟨i,o',_,h1,h2⟩:=own_up b ⟨j,o,hj,hbl⟩;exact .inr (.inr ⟨i,o',h1,h2⟩)
 ·intro i o b e hb;rcases kind i o e with ⟨j,x,hj,rfl,hx,_⟩ | ⟨h1,h2,h3⟩
  ·rw [(hφ' j hj).1] at hb;rcases hE.org j x b hx hb with h4 | ⟨j',o',h4,h5⟩
   ·exact .inl h4
   ·obtain ⟨i,o',_,h6,h7⟩:=own_up b ⟨j',o',h4,h5⟩;exact .inr ⟨i,o',h6,h7⟩
  ·rw [hold i h1] at hb;exact .inr ⟨i,o,h3,hb⟩
 ·intro i o e;rcases kind i o e with ⟨j,x,hj,rfl,hx,ho⟩ | ⟨h1,h2,h3⟩
  ·exact aE8 hφ' hj ho (hI'.obj j x hx)
  ·refine oC (hI.obj i o h3) hE.le (by omega) (λj hj=>hold j hj) h1 λg hg=>?_;obtain ⟨h4,h5,h6⟩:=beside i o h1 h2 h3 g hg;refine ⟨hE.frame g h4 λj o hj hbl=>h6 ⟨j,o,hj,hbl⟩,?_⟩
   cases hh:h' g with
   | none=>rfl
   | some cs =>
    rcases hE.gfr g cs hh with h7 | h7 | h7
    ·rw [h5] at h7;simp at h7
    ·omega
    ·exact absurd h7 h6
 ·intro i i' o o' b e e' hb hb';have cross:∀ {i i':Nat} {o:AObj} {j:Nat} {x:AObj},i<T.length→i∉L→T[i]?=some (some o)→mC (φ i)=some b→T'[j]?=some (some x)→mC (φc' j)=some b→False:=by
   intro i i' o j x h1 h2 h3 hb hx hbx;obtain ⟨h4,_,h6⟩:=beside i o h1 h2 h3 b hb;rcases hE.org j x b hx hbx with h7 | h7
   ·omega
   ·exact h6 h7
  rcases kind i o e with ⟨j,x,hj,rfl,hx,_⟩ | ⟨h1,h2,h3⟩<;>rcases kind i' o' e' with ⟨j',x',hj',rfl,hx',_⟩ | ⟨h1',h2',h3'⟩
  ·rw [(hφ' j hj).1] at hb;rw [(hφ' j' hj').1] at hb';rw [hI'.dis j j' x x' b hx hx' hb hb']
  ·rw [(hφ' j hj).1] at hb;rw [hold i' h1'] at hb';exact (cross (i':=0) h1' h2' h3' hb' hx hb).elim
  ·rw [(hφ' j' hj').1] at hb';rw [hold i h1] at hb;exact (cross (i':=0) h1 h2 h3 hb hx' hb').elim
  ·rw [hold i h1] at hb;rw [hold i' h1'] at hb';exact hI.dis i i' o o' b h3 h3' hb hb'
end
end
section
def iY.drop {h:GH} {b k:Nat}:∀ {es:List (List AV)} {o:Nat},iY h b k es o→∀ l,iY h b k (es.drop l) (o+l*k)
 | [],_,_,l=>by simp [iY]
 | e::es,o,hh,0=>by simpa using hh
 | e::es,o,hh,l+1=>by
  simp only [iY] at hh;have:=iY.drop hh.2.2 l;rw [U2,E3,Nat.add_comm (l*k) k,←Nf];exact this
def iY.take {h:GH} {b k:Nat}:∀ {es:List (List AV)} {o:Nat},iY h b k es o→∀ l,iY h b k (es.take l) o
 | [],_,_,l=>by simp [iY]
 | e::es,o,hh,0=>by simp [iY]
 | e::es,o,hh,l+1=>by
  simp only [iY] at hh;rw [NW];simp only [iY];exact ⟨hh.1,hh.2.1,iY.take hh.2.2 l⟩
mutual
def Km {h h':GH} {φ:Nat→Value} {n:Nat}:∀ {x:AV} {u:Value},eY x→Rp h φ n x u→Rp h' φ n x u
 | .v _,_,_,e=>by simpa [Rp] using e
 | .ls k es,u,hf,e=>by
  simp only [eY] at hf;subst hf;simp only [Rp,mB] at e ⊢;obtain ⟨A,c,h1,h2,h3,_⟩:=e;exact ⟨A,c,h1,h2,h3,.inl trivial⟩
 | .ag cs,_,hf,e=>by simp only [Rp,eY] at *;obtain ⟨us,h1,h2⟩:=e;exact ⟨us,h1,uR hf h2⟩
 | .own _,_,_,e=>by simpa [Rp] using e
 | .ptr _ _,_,_,e=>by simpa [Rp] using e
 | .elt _ _ _ _,_,_,e=>by simpa [Rp] using e
 | .vw _ _ _ _,_,_,e=>by simpa [Rp] using e
 | .mp _,_,_,e=>by simpa [Rp] using e
 | .yl _,_,_,e=>by simpa [Rp] using e
 | .rp cs,u,hf,e=>by
  simp only [eY] at hf;subst hf;simp only [Rp] at e ⊢;obtain ⟨b,o,h1,_⟩:=e;exact ⟨b,o,h1,by simp [lA]⟩
 | .cl f cs,_,hf,e=>by simp only [Rp,eY] at *;obtain ⟨us,h1,h2⟩:=e;exact ⟨us,h1,uR hf h2⟩
 | .bm f kk cs,_,hf,e=>by simp only [Rp,eY] at *;obtain ⟨us,h1,h2⟩:=e;exact ⟨us,h1,uR hf h2⟩
 | .tup cs,_,hf,e=>by simp only [Rp,eY] at *;obtain ⟨us,h1,h2⟩:=e;exact ⟨us,h1,uR hf h2⟩
 | .any,_,_,_=>by simp [Rp]
def uR {h h':GH} {φ:Nat→Value} {n:Nat}:∀ {cs:List AV} {us:List Value},qA cs→bW h φ n cs us→bW h' φ n cs us
 | [],_,_,e=>by simpa [bW] using e
 | c::cs,us,hf,e=>by
  simp only [bW,qA] at *
  obtain ⟨u,us',h1,h2,h3⟩:=e;exact ⟨u,us',h1,Km hf.1 h2,uR hf.2 h3⟩
end
def Q8 {h h':GH}:∀ {cs:List AV} {us:List Value},(∀ c∈cs,∃ x,c=.v x)→cB h cs us→cB h' cs us
 | [],_,_,e=>by simpa [cB] using e
 | c::cs,us,hf,e=>by
  simp only [cB] at *
  obtain ⟨u,us',h1,h2,h3⟩:=e;obtain ⟨x,rfl⟩:=hf c (by simp);refine ⟨u,us',h1,?_,Q8 (λd hd=>hf d (by simp [hd])) h3⟩;simpa only [mB] using h2
def ZR {h h':GH} {φ:Nat→Value} {n:Nat} {w:World} {i:Nat} {o:AObj} (hf:tQ (some o)) (hg:∀ g,mC (φ i)=some g→h' g=none) (e:vW h φ n w i o):vW h' φ n w i o:=by
 cases o with
 | box cs =>
  obtain ⟨g,us,E,h1,h2,_,h4⟩:=e;exact ⟨g,us,E,h1,h2,hg g (by rw [h1];rfl),uR hf h4⟩
 | arr k es =>
  obtain ⟨h0,h1 | ⟨g,c,cur,E,h1,h2,h3,h4,h5,_,h7⟩⟩:=e
  ·exact ⟨h0,.inl h1⟩
  ·refine ⟨h0,.inr ⟨g,c,cur,E,h1,h2,h3,h4,h5,hg g (by rw [h1];rfl),Q8 (λc hc=>?_) h7⟩⟩;obtain ⟨d,hd,hcd⟩:=IU.1 hc;exact hf d hd c hcd
 | arf k es =>
  obtain ⟨h0,h1 | ⟨g,c,cur,E,h1,h2,h3,h4,h5,_,h7⟩⟩:=e
  ·exact ⟨h0,.inl h1⟩
  ·refine ⟨h0,.inr ⟨g,c,cur,E,h1,h2,h3,h4,h5,hg g (by rw [h1];rfl),uR ?_ h7⟩⟩;have app:∀ {a b:List AV},qA a→qA b→qA (a++b):=by
    intro a b ha hb
    induction a with
    | nil=>exact hb
    | cons c a ih=>simp only [qA,Ag] at ha ⊢;exact ⟨ha.1,ih ha.2⟩
   have key:∀ l:List (List AV),(∀ e∈l,qA e)→qA l.flatten:=by
    intro l
    induction l with
    | nil=>intro _;simp [qA]
    | cons e l ih=>intro hl;rw [qP];exact app (hl e (by simp)) (ih λd hd=>hl d (by simp [hd]))
   exact key es hf
 | lp r s =>
  obtain ⟨g,h1,h2,h3,h4,h5⟩:=e;exact ⟨g,h1,h2,hg g (by rw [h1];rfl),h4,λp hp=>Km (hf p hp) (h5 p hp)⟩
 | mit m since seen st =>
  obtain ⟨g,mo,h1,h2,h3,h4⟩:=e;exact ⟨g,mo,h1,h2,hg g (by rw [h1];rfl),h4⟩
 | map ag ks vs bs cl =>
  obtain ⟨g,ens,h1,h2,h3,h4,h5,h6⟩:=e;exact ⟨g,ens,h1,h2,hg g (by rw [h1];rfl),h4,h5,uR hf h6⟩
def lA.of_list {h:GH} {b:Nat}:∀ {cs:List AV} {us:List Value} {o:Nat},cB h cs us→(∀ c∈cs,bB c=true)→(∀ j u,us[j]?=some u→nZ h b (o+j)=some u)→lA h b cs o
 | cs,us,o,e,hc,hu=>lA.mk λi c hi=>by
  obtain ⟨u,h1,h2⟩:=e.get hi;exact ⟨u,hc c (IR hi),hu i u h1,h2⟩
def iY.of_list {h:GH} {b k:Nat}:∀ {es:List (List AV)} {us:List Value} {o:Nat},cB h es.flatten us→(∀ e∈es,e.length=k∧∀ c∈e,bB c=true)→(∀ j u,us[j]?=some u→nZ h b (o+j)=some u)→iY h b k es o
 | es,us,o,e,hc,hu=>iY.mk λj d hj=>by
  have hd:=hc d (IR hj);refine ⟨hd.1,?_⟩;have hs:=e.sub (j*k) k;rw [Kf (λe he=>(hc e he).1) hj] at hs;refine lA.of_list hs hd.2 λi u hi=>?_;rw [AI] at hi;split at hi
  ·rw [FN] at hi;rw [←hu _ _ hi];congr 1;omega
  ·simp at hi
open Classical in
noncomputable def lentG (h:GH) (φ:Nat→Value) (T:aQ) (w:World):GH:=λb =>
 if ∃ i o,T[i]?=some (some o)∧mC (φ i)=some b then (match w.heap[b]? with | some (.cells cs _ _)=>some cs | _=>none) else h b
open Classical in
noncomputable def unlentG (h:GH) (φ:Nat→Value) (T:aQ):GH:=λb=>if ∃ i o,T[i]?=some (some o)∧mC (φ i)=some b then none else h b
section
variable {h:GH} {φ:Nat→Value} {T:aQ} {w:World}
def Np (hI:Inv h φ w T) {i:Nat} {k:Nat} {es:List (List AV)} (hi:T[i]?=some (some (.arr k es))) {b:Nat} (hb:mC (φ i)=some b):∃ cs E,w.heap[b]?=some (.cells cs E (0,0))∧lentG h φ T w b=some cs:=by
 have:∃ cs E,w.heap[b]?=some (.cells cs E (0,0)):=by
  obtain ⟨_,⟨A,h1⟩ | ⟨g,c,cur,E,h1,h2,_⟩⟩:=hI.obj i _ hi
  ·rw [h1.1] at hb;simp [mC] at hb
  ·rw [h1] at hb;simp only [mC,Option.some.injEq] at hb;subst hb;exact ⟨cur,E,h2⟩
 obtain ⟨cs,E,hw⟩:=this;refine ⟨cs,E,hw,?_⟩;unfold lentG;rw [if_pos ⟨i,_,hi,hb⟩,hw]
def uS (hI:Inv h φ w T):Ad h (lentG h φ T w):=by
 intro b cs e;unfold lentG;rw [if_neg]
 ·exact e
 ·rintro ⟨i,o,hi,hb⟩;have:=(gM (hI.obj i o hi) hb).2;rw [e] at this;simp at this
def ZS (hI:Inv h φ w T) (φ':Nat→Value):Inv (lentG h φ T w) φ' w []:=by
 refine ⟨λb cs e=>?_,λi o e=>by simp at e,λi j oi oj b e=>by simp at e⟩;by_cases hx:∃ i o,T[i]?=some (some o)∧mC (φ i)=some b
 ·unfold lentG at e;rw [if_pos hx] at e;split at e
  ·rename_i cs' E fr hw;injection e with e;subst e;exact ⟨E,_,hw⟩
  ·simp at e
 ·unfold lentG at e;rw [if_neg hx] at e;exact hI.gh b cs e
mutual
def ZT (hI:Inv h φ w T) {φ':Nat→Value}:∀ {x:AV} {u:Value},iB (tO T x)=[]→Rp h φ T.length x u→Rp (lentG h φ T w) φ' 0 (tO T x) u
 | .v _,_,_,e=>by simpa [Rp,tO] using e
 | .ls _ _,_,_,e=>by simp only [Rp,tO] at *;exact e.mono (uS hI)
 | .ag cs,_,hd,e=>by simp only [Rp,tO,iB] at *;obtain ⟨us,h1,h2⟩:=e;exact ⟨us,h1,Kn hI hd h2⟩
 | .own i,u,_,e=>by
  simp only [Rp,tO] at *
  split
  ·rename_i k es hg;simp only [Rp,mB];obtain ⟨hl,⟨A0,h1⟩ | ⟨g,c,cur,E,hφ,hw,h2,h3,h4,h5,h6⟩⟩:=wU hI hg
   ·exact ⟨A0,0,by rw [e.2.1,h1.1,h1.2];rfl,by rw [h1.2];simp,by simp,.inl h1.2⟩
   ·refine ⟨_,c+1,by rw [e.2.1,hφ],h2,h3,.inr ⟨g,0,rfl,?_⟩⟩;obtain ⟨cs',E',hw',hlent⟩:=Np hI (bD hg) (b:=g) (by rw [hφ];rfl);rw [hw] at hw';injection hw' with hw';injection hw' with hw';subst hw';refine iY.of_list (h6.mono (uS hI)) hl λj v hj=>?_;unfold nZ;rw [hlent];rw [AI] at hj;split at hj
    ·simpa using hj
    ·simp at hj
  ·simp [Rp]
 | .ptr _ _,_,hd,_=>by simp [iB,tO] at hd
 | .elt _ _ _ _,_,hd,_=>by simp [iB,tO] at hd
 | .mp _,_,hd,_=>by simp [iB,tO] at hd
 | .yl _,_,hd,_=>by simp [iB,tO] at hd
 | .vw i k lo m,u,_,e=>by
  simp only [Rp,tO] at *
  split
  ·rename_i k' es hg;split
   ·rename_i hk;obtain ⟨rfl,hlen⟩:=hk;obtain ⟨_,A,c,hu,hmc,hcm,h0⟩:=e;have hln:((es.drop lo).take m).length=m:=by rw [hZ,tT];omega
    simp only [Rp,mB];refine ⟨A,c,by rw [hln];exact hu,by rw [hln];exact hmc,hcm,?_⟩;rcases h0 with rfl | ⟨g,l,c',hφ,rfl,hle⟩
    ·exact .inl (by simp)
    ·obtain ⟨hl,h1 | ⟨g',c2,cur,E,hφ',hw,h2,h3,h4,h5,h6⟩⟩:=wU hI hg
     ·obtain ⟨A0,_,rfl⟩:=h1;exact .inl (by simp)
     ·rw [hφ] at hφ';injection hφ' with e1 e2 e3;injection e1 with e1;injection e1 with e1;subst e1;subst e3;refine .inr ⟨g,lo*k,rfl,?_⟩;obtain ⟨cs',E',hw',hlent⟩:=Np hI (bD hg) (b:=g) (by rw [hφ];rfl);rw [hw] at hw';injection hw' with hw';injection hw' with hw';subst hw';have hfull:iY (lentG h φ T w) g k es 0:=iY.of_list (h6.mono (uS hI)) hl λj v hj=>by
       unfold nZ;rw [hlent];rw [AI] at hj;split at hj
       ·simpa using hj
       ·simp at hj
      simpa using (hfull.drop lo).take m
   ·simp [Rp]
  ·simp [Rp]
 | .rp cs,u,_,e=>by
  simp only [Rp,tO] at *
  obtain ⟨b,o,h1,h2⟩:=e;exact ⟨b,o,h1,h2.mono (uS hI)⟩
 | .cl f cs,_,hd,e=>by
  simp only [Rp,tO,iB] at *
  obtain ⟨us,h1,h2⟩:=e;exact ⟨us,h1,uT hI hd h2⟩
 | .bm f kk cs,_,hd,e=>by
  simp only [Rp,tO,iB] at *
  obtain ⟨us,h1,h2⟩:=e;exact ⟨us,h1,uT hI hd h2⟩
 | .tup cs,_,hd,e=>by
  simp only [Rp,tO,iB] at *
  obtain ⟨us,h1,h2⟩:=e;exact ⟨us,h1,uT hI hd h2⟩
 | .any,_,_,_=>by simp [Rp,tO]
def Kn (hI:Inv h φ w T) {φ':Nat→Value}:∀ {cs:List AV} {us:List Value},iI (Co T cs)=[]→bW h φ T.length cs us→bW (lentG h φ T w) φ' 0 (Co T cs) us
 | [],_,_,e=>by simpa [bW,Co] using e
 | c::cs,us,hd,e=>by
  simp only [bW,Co,iI,Ux] at *
  obtain ⟨u,us',h1,h2,h3⟩:=e;exact ⟨u,us',h1,ZT hI hd.1 h2,Kn hI hd.2 h3⟩
def aBX (hI:Inv h φ w T) {φ':Nat→Value}:∀ {x:AV} {u:Value},iB x=[]→Rp h φ T.length x u→Rp (lentG h φ T w) φ' 0 x u
 | .v _,_,_,e=>by simpa [Rp] using e
 | .ls _ _,_,_,e=>by simp only [Rp] at *;exact e.mono (uS hI)
 | .ag cs,_,hd,e=>by simp only [Rp,iB] at *;obtain ⟨us,h1,h2⟩:=e;exact ⟨us,h1,uT hI hd h2⟩
 | .own _,_,hd,_=>by simp [iB] at hd
 | .ptr _ _,_,hd,_=>by simp [iB] at hd
 | .elt _ _ _ _,_,hd,_=>by simp [iB] at hd
 | .vw _ _ _ _,_,hd,_=>by simp [iB] at hd
 | .mp _,_,hd,_=>by simp [iB] at hd
 | .yl _,_,hd,_=>by simp [iB] at hd
 | .rp cs,u,_,e=>by
  simp only [Rp] at *
  obtain ⟨b,o,h1,h2⟩:=e;exact ⟨b,o,h1,h2.mono (uS hI)⟩
 | .cl f cs,_,hd,e=>by simp only [Rp,iB] at *;obtain ⟨us,h1,h2⟩:=e;exact ⟨us,h1,uT hI hd h2⟩
 | .bm f kk cs,_,hd,e=>by simp only [Rp,iB] at *;obtain ⟨us,h1,h2⟩:=e;exact ⟨us,h1,uT hI hd h2⟩
 | .tup cs,_,hd,e=>by simp only [Rp,iB] at *;obtain ⟨us,h1,h2⟩:=e;exact ⟨us,h1,uT hI hd h2⟩
 | .any,_,_,_=>by simp [Rp]
def uT (hI:Inv h φ w T) {φ':Nat→Value}:∀ {cs:List AV} {us:List Value},iI cs=[]→bW h φ T.length cs us→bW (lentG h φ T w) φ' 0 cs us
 | [],_,_,e=>by simpa [bW] using e
 | c::cs,us,hd,e=>by
  simp only [bW,iI,Ux] at *
  obtain ⟨u,us',h1,h2,h3⟩:=e;exact ⟨u,us',h1,aBX hI hd.1 h2,uT hI hd.2 h3⟩
end
def ZU (hI:Inv h φ w T) {φc:Nat→Value} {T':aQ} {h1:GH} {φc':Nat→Value} {w':World} (hE:Evo (lentG h φ T w) φc [] w h1 φc' T' w') (hI':Inv h1 φc' w' T') {r:AV} {v:Value} (hr:Rp h1 φc' T'.length r v)
  (hfr:eY r) (hfT:∀ o∈T',tQ o) :
  ∃ h' φ',Evo h φ T w h' φ' (T++T'.map (HL [] T.length)) w'∧Inv h' φ' w' (T++T'.map (HL [] T.length))∧Rp h' φ' (T++T'.map (HL [] T.length)).length (Ae [] T.length r) v:=by
 have hframe:∀ b,b<w.heap.size→w'.heap[b]?=w.heap[b]?:=λb hb=>hE.frame b hb λi o e=>by simp at e
 let h':GH:=unlentG h1 φ T;have hle:Ad h h':=by
  intro b cs e;have h2:=hE.le b cs (uS hI b cs e);show unlentG h1 φ T b=some cs;unfold unlentG;rw [if_neg]
  ·exact h2
  ·rintro ⟨i,o,hi,hb⟩;have:=(gM (hI.obj i o hi) hb).2;rw [e] at this;simp at this
 have hun:∀ b cs,h' b=some cs→h1 b=some cs∧¬∃ i o,T[i]?=some (some o)∧mC (φ i)=some b:=by
  intro b cs e;change unlentG h1 φ T b=some cs at e;unfold unlentG at e;split at e
  ·simp at e
  ·rename_i hx;exact ⟨e,hx⟩
 have hI2:Inv h' φc' w' T':=by
  refine ⟨λb cs e=>hI'.gh b cs (hun b cs e).1,λi o e=>?_,hI'.dis⟩;have ho:=hI'.obj i o e;refine ZR (hfT _ (IR e)) (λg hg=>?_) ho;have hn:=(gM ho hg).2
  cases hh:h' g with
  | none=>rfl
  | some cs=>rw [(hun g cs hh).1] at hn;simp at hn
 have hE2:Evo h φc [] w h' φc' T' w':=by
  refine ⟨hE.os,hE.tape,hE.output,hE.size,hE.frame,hle,λb cs e=>?_,λi hi=>by simp at hi,hE.org,by simp,hE.drawn⟩;obtain ⟨e1,hx⟩:=hun b cs e;rcases hE.gfr b cs e1 with h2 | h2 | ⟨i,o,h3,_⟩
  ·unfold lentG at h2;rw [if_neg hx] at h2;exact .inl h2
  ·exact .inr (.inl h2)
  ·simp at h3
 have hnil:Ef ([]:List Nat) T=[]:=rfl;have:=ZQ (L:=[]) (φc:=φc) (by simp) (λi hi=>by simp at hi) hI (λj i e=>by simp at e) (by rw [hnil];exact hE2) hI2 (Km (h':=h') hfr hr);have hbk:Ic [] T.length T [] T'=T++T'.map (HL [] T.length):=by
  cases T' with
  | nil=>simp [Ic]
  | cons x T'=>rfl
 rw [hbk] at this;exact ⟨h',this⟩
end
section
variable {P:Program} {G:Nat→Option (List AV)} {h:GH} {φ:Nat→Value} {T:aQ} {w:World}
mutual
def aBY {h:GH} {φ:Nat→Value} {n:Nat}:∀ {x y:AV} {u:Value},qQ x y→Rp h φ n x u→Rp h φ n y u
 | .ag cs,y,u,hs,e=>by
  simp only [qQ] at hs;rcases hs with rfl | ⟨ds,rfl,hs⟩
  ·exact e
  ·simp only [Rp] at e ⊢;obtain ⟨us,h1,h2⟩:=e;exact ⟨us,h1,Ov hs h2⟩
 | .v x,y,u,hs,e=>by
  simp only [qQ] at hs;rcases hs with rfl | ⟨rfl,k,rfl⟩ | ⟨us,rfl,rfl⟩
  ·exact e
  ·simp only [Rp] at e;subst e;simp only [Rp,mB];exact ⟨none,0,rfl,fW _,xC _,by simp⟩
  ·simp only [Rp] at e;subst e;simp only [Rp];refine ⟨us,rfl,?_⟩;have:∀ l:List Value,bW h φ n (l.map .v) l:=by
    intro l
    induction l with
    | nil=>simp [bW]
    | cons c l ih=>simp only [cN,bW];exact ⟨c,l,rfl,by simp [Rp],ih⟩
   exact this _
 | .ls _ _,y,u,hs,e=>by simp only [qQ] at hs;subst hs;exact e
 | .own _,y,u,hs,e=>by simp only [qQ] at hs;subst hs;exact e
 | .ptr _ _,y,u,hs,e=>by simp only [qQ] at hs;subst hs;exact e
 | .elt _ _ _ _,y,u,hs,e=>by simp only [qQ] at hs;subst hs;exact e
 | .vw _ _ _ _,y,u,hs,e=>by simp only [qQ] at hs;subst hs;exact e
 | .mp _,y,u,hs,e=>by simp only [qQ] at hs;subst hs;exact e
 | .yl _,y,u,hs,e=>by simp only [qQ] at hs;subst hs;exact e
 | .rp _,y,u,hs,e=>by simp only [qQ] at hs;subst hs;exact e
 | .cl _ _,y,u,hs,e=>by simp only [qQ] at hs;subst hs;exact e
 | .bm _ _ _,y,u,hs,e=>by simp only [qQ] at hs;subst hs;exact e
 | .tup _,y,u,hs,e=>by simp only [qQ] at hs;subst hs;exact e
 | .any,y,u,hs,e=>by simp only [qQ] at hs;subst hs;exact e
def Ov {h:GH} {φ:Nat→Value} {n:Nat}:∀ {cs ds:List AV} {us:List Value},CX cs ds→bW h φ n cs us→bW h φ n ds us
 | [],ds,us,hs,e=>by simp only [CX] at hs;subst hs;exact e
 | c::cs,ds,us,hs,e=>by
  simp only [CX] at hs;obtain ⟨d,ds',rfl,h1,h2⟩:=hs;simp only [bW] at e ⊢;obtain ⟨u,us',h3,h4,h5⟩:=e;exact ⟨u,us',h3,aBY h1 h4,Ov h2 h5⟩
end
def Wl {f:FuncId} {args:List AV} {K:AV→aQ→Prop} (hc:ZH P G f args T K) (hG:rD G h) (hI:Inv h φ w T) {vals:Array Value} (ha:bW h φ T.length args vals.toList) :
  ((callFunc f vals).run P w=.ok (.enter f vals) w∧Calls P f vals w (λe w'=>∃ v,e=.returned v∧Ce h φ T w K v w')) ∨
  (∃ v w',(callFunc f vals).run P w=.ok (.value v) w'∧Ce h φ T w K v w'):=by
 rcases hc with ⟨L,hL,hlt,hc⟩ | ⟨hids,hc⟩
 ·have hφ:Ii L φ (λj=>φ (L.getD j 0)):=by
   intro j i e;simp [fG,e]
  have hlen:(Ef L T).length=L.length:=by simp [Ef]
  have back:∀ v w',Ce h (λj=>φ (L.getD j 0)) (Ef L T) w (λr T'=>K (Ae L T.length r) (Ic L T.length T L T')) v w'→Ce h φ T w K v w':=by
   rintro v w' ⟨r,T',h',φ',e1,e2,e3,e4⟩;obtain ⟨φ2,e5,e6,e7⟩:=ZQ hL hlt hI hφ e2 e3 e4;exact ⟨_,_,h',φ2,e1,e5,e6,e7⟩
  exact (hc h _ w vals hG (ZO hL hI hφ) (by rw [hlen];exact Bc hφ ha)).imp
   (λ⟨e,c⟩=>⟨e,c.mono λ_ w' ⟨v,e1,e2⟩=>⟨v,e1,back v w' e2⟩⟩) (λ⟨v,w',e,c⟩=>⟨v,w',e,back v w' c⟩)
 ·have back:∀ v w',Ce (lentG h φ T w) φ [] w (λr T'=>eY r∧(∀ o∈T',tQ o)∧K (Ae [] T.length r) (T++T'.map (HL [] T.length))) v w'→Ce h φ T w K v w':=by
   rintro v w' ⟨r,T',h',φ',⟨f1,f2,e1⟩,e2,e3,e4⟩;obtain ⟨h2,φ2,e5,e6,e7⟩:=ZU hI e2 e3 e4 f1 f2;exact ⟨_,_,h2,φ2,e1,e5,e6,e7⟩
  exact (hc (lentG h φ T w) φ w vals (hG.mono (uS hI)) (ZS hI φ) (Kn hI hids ha)).imp
   (λ⟨e,c⟩=>⟨e,c.mono λ_ w' ⟨v,e1,e2⟩=>⟨v,e1,back v w' e2⟩⟩) (λ⟨v,w',e,c⟩=>⟨v,w',e,back v w' c⟩)
def GW {f:FuncId} {args:List AV} {K:AV→aQ→Prop} (hc:GO P G f args T K) (hG:rD G h) (hI:Inv h φ w T) {vals:Array Value} (ha:bW h φ T.length args vals.toList) :
  ((callFunc f vals).run P w=.ok (.enter f vals) w∧Calls P f vals w (λe w'=>∃ v,e=.returned v∧Ce h φ T w K v w')) ∨
  (∃ v w',(callFunc f vals).run P w=.ok (.value v) w'∧Ce h φ T w K v w'):=by
 obtain ⟨args',hs,hc⟩:=hc;exact Wl hc hG hI (Ov hs ha)
end
end
end Hud
