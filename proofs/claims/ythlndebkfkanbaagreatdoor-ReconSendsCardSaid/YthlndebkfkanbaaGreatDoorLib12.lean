import Derived.Test.YthlndebkfkanbaaGreatDoorLib11
set_option linter.all false
section
namespace Hud
def pwm (m:Nat):Nat→Nat→Nat→Nat→Nat
 | 0,_,_,acc=>acc
 | f+1,b,e,acc=>if e=0 then acc else pwm m f (b*b%m) (e/2) (if e%2=1 then acc*b%m else acc)
def PO (m:Nat):∀ (f b e acc:Nat),e<2^f→pwm m f b e acc%m=acc*b^e%m
 | 0,b,e,acc,h=>by
  have:e=0:=by simp at h;omega
  subst this;simp [pwm]
 | f+1,b,e,acc,h=>by
  simp only [pwm];split
  ·rename_i h0;subst h0;simp
  ·rw [PO m f _ (e/2) _ (by rw [Cj] at h;omega)];have h2:b^e=(b*b)^(e/2)*b^(e%2):=by
    rw [←Nat.pow_two,←IY,←Qv];congr 1;omega
   rw [Ak,KW,KX,←KW,←Ak,h2];rcases aDq e with h3 | h3
   ·rw [h3];simp
   ·rw [h3];simp only [if_true,Nat.pow_one];rw [Ak,KX,←Ak];congr 1;rw [Ng,GG b]
def PP:Nat:=2305843009213693951
def NN:Nat:=2305843009213693950
def Tl:List Nat:=[2,3,5,7,11,13,31,41,61,151,331,1321]
def aDE:37^NN%PP=1:=by
 have:=PO PP 61 37 NN 1 (by decide);rw [GJ] at this;rw [←this];decide +kernel
def aGd:∀ r∈Tl,37^(NN/r)%PP≠1:=by
 intro r hr;have key:∀ r∈Tl,pwm PP 61 37 (NN/r) 1%PP≠1:=by decide +kernel
 have:=PO PP 61 37 (NN/r) 1 (Qh (Qm _ _) (by decide));rw [GJ] at this;rw [←this];exact key r hr
def Lu:∀ r∈Tl,1<r∧∀ d,d ∣ r→d=1∨d=r:=by
 have key:∀ r∈Tl,1<r∧∀ d,d<r→1<d→r%d≠0:=by decide +kernel
 intro r hr;obtain ⟨h1,h2⟩:=key r hr;refine ⟨h1,λd hd=>?_⟩;have hle:=Nat.le_of_dvd (by omega) hd;have h0:d≠0:=λe=>by subst e;rw [Nat.zero_dvd] at hd;omega
 by_cases h:d=1
 ·exact .inl h
 ·by_cases h':d=r
  ·exact .inr h'
  ·exact absurd (Nat.mod_eq_zero_of_dvd hd) (h2 d (by omega) (by omega))
def aCe:NN=2*(3^2*(5^2*(7*(11*(13*(31*(41*(61*(151*(331*1321)))))))))):=by decide
def aEC {r m:Nat} (hr:∀ d,d ∣ r→d=1∨d=r):Nat.Coprime m r∨r ∣ m:=by
 rcases hr (Nat.gcd m r) (Nat.gcd_dvd_right m r) with h | h
 ·exact .inl h
 ·exact .inr (h ▸ Nat.gcd_dvd_left m r)
def Z2 {e:Nat} (hd:e ∣ NN) (hlt:e<NN):∃ r∈Tl,e ∣ NN/r:=by
 obtain ⟨m,hm⟩:=hd;have hm1:m≠1:=λh=>by subst h;omega
 have hex:∃ r∈Tl,r ∣ m:=by
  refine Qa λhno=>hm1 ?_;have hc:∀ r∈Tl,Nat.Coprime m r:=λr hr=>(aEC (Lu r hr).2).resolve_right λh=>hno ⟨r,hr,h⟩;have hcop:Nat.Coprime m NN:=by
   rw [aCe];exact KJ (hc 2 (by decide)) <| KJ (Nat.Coprime.pow_right _ (hc 3 (by decide))) <| KJ (Nat.Coprime.pow_right _ (hc 5 (by decide))) <|
    KJ (hc 7 (by decide)) <| KJ (hc 11 (by decide)) <| KJ (hc 13 (by decide)) <| KJ (hc 31 (by decide)) <|
    KJ (hc 41 (by decide)) <| KJ (hc 61 (by decide)) <| KJ (hc 151 (by decide)) <| KJ (hc 331 (by decide)) (hc 1321 (by decide))
  have:Nat.gcd m NN=m:=Nat.gcd_eq_left ⟨e,by rw [GG];exact hm⟩;rw [←this];exact hcop
 obtain ⟨r,hr,k,hk⟩:=hex;refine ⟨r,hr,k,?_⟩;have hr0:0<r:=by have:=(Lu r hr).1;omega
 rw [hm,hk,Y1,Nat.mul_div_cancel_left _ hr0]
def Rh {g m:Nat} (hm:1<m):∀ (a b:Nat),g^a%m=1→g^b%m=1→g^Nat.gcd a b%m=1:=by
 intro a b
 induction a,b using Nat.gcd.induction with
 | H0 n=>intro _ h;simpa using h
 | H1 a b ha ih =>
  intro h1 h2;rw [Nat.gcd_rec];refine ih ?_ h1;have hb:b=a*(b/a)+b%a:=(Qn b a).symm;rw [hb,Qv,IY,Ak,KW,h1,Nat.one_pow,Ed hm,GJ,KX] at h2;exact h2
def aED {d:Nat} (h0:0<d) (hlt:d<NN):37^d%PP≠1:=by
 intro h;have hg:=Rh (g:=37) (m:=PP) (by decide) d NN h aDE;have hdvd:=Nat.gcd_dvd_right d NN;have hle:Nat.gcd d NN≤d:=Nat.le_of_dvd h0 (Nat.gcd_dvd_left d NN);obtain ⟨r,hr,k,hk⟩:=Z2 hdvd (by omega);refine aGd r hr ?_;rw [hk,IY,KW,hg,Nat.one_pow];decide
def Z3 (i:Nat):Nat.Coprime (37^i) PP:=Nat.Coprime.pow_left i (by decide)
def aEE {i j:Nat} (hij:i<j) (hj:j<NN):37^i%PP≠37^j%PP:=by
 intro h;have hd:PP ∣ 37^j-37^i:=Nat.dvd_of_mod_eq_zero (Nat.sub_mod_eq_zero_of_mod_eq h.symm);have e:37^j-37^i=37^i*(37^(j-i)-1):=by
  rw [Nat.mul_sub,←Qv,CL];congr 2;omega
 rw [e] at hd;have hd2:=Nat.Coprime.dvd_of_dvd_mul_left (Z3 i).symm hd;refine aED (d:=j-i) (by omega) (by omega) ?_;have h1:1≤37^(j-i):=Nat.one_le_pow _ _ (by decide);obtain ⟨k,hk⟩:=hd2;have e1:37^(j-i)=1+PP*k:=by omega
 rw [e1,Nat.add_mul_mod_self_left];decide
def Z4:∀ (n:Nat) (l:List Nat),l.Nodup→(∀ x∈l,x<n)→l.length≤n
 | 0,l,_,h=>by
  cases l with
  | nil=>simp
  | cons x l=>have:=h x (by simp);omega
 | n+1,l,hn,h=>by
  have h1:=Z4 n (l.filter (· ≠ n)) (hn.filter _) (λx hx=>by
   simp only [Ai,decide_eq_true_eq] at hx;have:=h x hx.1;have:=hx.2
   omega)
  have h2:l.length≤(l.filter (· ≠ n)).length+1:=by
   clear h h1
   induction l with
   | nil=>simp
   | cons x l ih =>
    obtain ⟨hx,hn'⟩:=KM.1 hn;by_cases hxn:x=n
    ·subst hxn;have:l.filter (· ≠ x)=l:=Yw.2 λy hy=>by
      simp only [ne_eq,decide_not,Cg,decide_eq_false_iff_not];exact λe=>hx (e ▸ hy)
     rw [List.filter_cons_of_neg (by simp),this];simp
    ·have:=ih hn';simp only [List.filter_cons,ne_eq,hxn,not_false_eq_true,decide_true,if_true,kS];simpa using this
  omega
def Z5:∀ n,n≤NN→((List.range n).map λi=>37^i%PP).Nodup:=by
 intro n hn;rw [Sx,NZ];refine Uw ?_ (List.pairwise_lt_range (n:=n));intro a b ha hb hab;rw [rV] at ha hb;exact aEE hab (by omega)
def Tm {L:List Nat} {n:Nat} (hl:L.length+1=n) (hn:L.Nodup) (hz:0∉L) (hlt:∀ y∈L,y<n) {x:Nat} (h0:0<x) (hx:x<n):x∈L:=by
 refine Qa λhno=>?_
 have:=Z4 n (0::x::L) (by
  rw [KM,KM];refine ⟨λh=>?_,hno,hn⟩;rcases gK.1 h with h | h
  ·omega
  ·exact hz h) (by
  intro y hy;rcases gK.1 hy with rfl | hy
  ·omega
  ·rcases gK.1 hy with rfl | hy
   ·exact hx
   ·exact hlt y hy)
 simp only [kS] at this;omega
def aCf (n:Nat):0∉((List.range n).map λi=>37^i%PP):=by
 intro h;obtain ⟨i,_,hi⟩:=dE.1 h;have:PP ∣ 37^i:=Nat.dvd_of_mod_eq_zero hi;have h1:Nat.gcd (37^i) PP=PP:=Nat.gcd_eq_right this;rw [Z3 i] at h1;exact absurd h1 (by decide)
def aEF:0<PP:=by decide
def aGe:NN+1=PP:=by decide
def aEG (n:Nat) (hn:n+1=PP) (hN:n≤NN) {x:Nat} (h0:0<x) (hlt:x<PP):∃ i,x=37^i%PP:=by
 have:=Tm (L:=(List.range n).map λi=>37^i%PP) (n:=PP) (by rw [aL,NY];exact hn) (Z5 n hN) (aCf n) (λy hy=>by
  obtain ⟨i,_,rfl⟩:=dE.1 hy
  exact Aj _ aEF) h0 hlt
 obtain ⟨i,_,hi⟩:=dE.1 this;exact ⟨i,hi.symm⟩
def aCg {x:Nat} (h0:0<x) (hlt:x<PP):∃ i,x=37^i%PP:=aEG NN aGe (fW _) h0 hlt
def Z6 {x:Nat} (h:x%PP≠0):x^NN%PP=1:=by
 obtain ⟨i,hi⟩:=aCg (x:=x%PP) (by omega) (Aj _ (by decide));rw [KW,hi,←KW,←IY,GG,IY,KW,aDE,Nat.one_pow];decide
def aCh {x y:Nat} (h:x*y%PP=0):x%PP=0∨y%PP=0:=by
 by_cases hx:x%PP=0
 ·exact .inl hx
 ·refine .inr ?_;have h1:=Z6 hx;have e:x^NN=x^(NN-1)*x:=by rw [←Cj];rfl
  have:x^NN*y%PP=0:=by
   rw [e,Ng,Ak,h,Qs,Nat.zero_mod]
  rw [Ak,h1,GJ,KX] at this;exact this
end Hud
end
section
namespace Hud
instance:NeZero PP:=⟨by decide⟩
abbrev Fq:=Fin PP
def aCi {a b:Fq} (h:a*b=0):a=0∨b=0:=by
 have h1:(a*b).val=0:=by rw [h];rfl
 rw [Fin.val_mul] at h1;rcases aCh h1 with h2 | h2
 ·left;apply Fin.ext;rw [Ed a.isLt] at h2;simpa using h2
 ·right;apply Fin.ext;rw [Ed b.isLt] at h2;simpa using h2
def Z7 (a:Fq) (n:Nat):(a^n).val=a.val^n%PP:=by
 induction n with
 | zero =>
  have:(a^0:Fq)=1:=by grind
  rw [this];rfl
 | succ n ih =>
  have:a^(n+1)=a^n*a:=by grind
  rw [this,Fin.val_mul,ih,Cj,Nat.mod_mul_mod]
def XT {a:Fq} (h:a≠0):a^NN=1:=by
 apply Fin.ext;rw [Z7,Z6]
 ·rfl
 ·rw [Ed a.isLt];intro h0;exact h (Fin.ext (by simpa using h0))
def inv (a:Fq):Fq:=a^(NN-1)
def Vy {a:Fq} (h:a≠0):a*inv a=1:=by
 have e0:∀ n m:Nat,n=m+1→a^n=a^m*a:=by
  rintro n m rfl;grind
 have e:=e0 NN (NN-1) (by decide);rw [inv,←XT h,e];generalize a^(NN-1)=b;grind
def aCj (a:Fq):a*0=0:=Fin.mul_zero a
def aCk (a:Fq):0*a=0:=Fin.zero_mul a
def Z8 (a:Fq):0+a=a:=Fin.zero_add a
def aGf (a:Fq):a+0=a:=Fin.add_zero a
def ev:List Fq→Fq→Fq
 | [],_=>0
 | c::l,t=>c+t*ev l t
def zp (l:List Fq):Prop:=∀ c∈l,c=0
def aDF {l:List Fq} (h:zp l) (t:Fq):ev l t=0:=by
 induction l with
 | nil=>rfl
 | cons c l ih =>
  have h1:=h c (by simp);have h2:=ih λd hd=>h d (by simp [hd]);simp only [ev,h1,h2,aCj,Z8]
def sd (z:Fq):List Fq→List Fq
 | []=>[]
 | [_]=>[]
 | _::d::l=>ev (d::l) z::sd z (d::l)
def Z9 (z:Fq):∀ l,(sd z l).length=l.length-1
 | []=>rfl
 | [_]=>rfl
 | _::d::l=>by
  have:=Z9 z (d::l);simp only [sd,kS] at this ⊢;omega
def aDG (z t:Fq):∀ l,ev l t=(t-z)*ev (sd z l) t+ev l z
 | []=>by simp only [ev,sd,aCj,Z8]
 | [c]=>by simp only [ev,sd];grind
 | c::d::l=>by
  have:=aDG z t (d::l);have e1:ev (c::d::l) t=c+t*ev (d::l) t:=rfl;have e2:ev (c::d::l) z=c+z*ev (d::l) z:=rfl;have e3:ev (sd z (c::d::l)) t=ev (d::l) z+t*ev (sd z (d::l)) t:=rfl;rw [e1,e2,e3,this];generalize ev (d::l) z=r;generalize ev (sd z (d::l)) t=q;grind
def aDH {z:Fq}:∀ {l},ev l z=0→zp (sd z l)→zp l
 | [],_,_=>by simp [zp]
 | [c],h,_=>by
  simp only [ev] at h;have hc:c=0:=by grind
  intro x hx;rw [gZ.1 hx,hc]
 | c::d::l,h,hs=>by
  simp only [sd] at hs;have h1:=hs _ (FO);have h2:=aDH h1 λx hx=>hs x (FL _ hx);have e2:ev (c::d::l) z=c+z*ev (d::l) z:=rfl;rw [e2,h1] at h;have hc:c=0:=by grind
  intro x hx;rcases gK.1 hx with rfl | hx
  ·exact hc
  ·exact h2 x hx
def Ri:∀ (n:Nat) {l:List Fq} {R:List Fq},l.length≤n→¬zp l→R.Nodup→(∀ z∈R,ev l z=0)→R.length<n
 | 0,l,R,hl,hz,_,_=>by
  have:l=[]:=CR (by omega);subst this;exact absurd (by simp [zp]) hz
 | n+1,l,[],_,_,_,_=>by simp
 | n+1,l,z::R,hl,hz,hn,hr=>by
  obtain ⟨h1,h2⟩:=KM.1 hn;have hz0:=hr z (by simp);have:=Ri n (l:=sd z l) (R:=R) (by rw [Z9];omega) (λh=>hz (aDH hz0 h)) h2 λy hy=>by
   have e:=aDG z y l;rw [hr y (by simp [hy]),hz0] at e;have e2:(y-z)*ev (sd z l) y=0:=by grind
   rcases aCi e2 with h | h
   ·have:y=z:=by grind
    exact absurd (this ▸ hy) h1
   ·exact h
  simp only [kS];omega
def Rj {l R:List Fq} (hl:l.length≤R.length) (hn:R.Nodup) (hr:∀ z∈R,ev l z=0):zp l:=by
 refine Qa λhz=>?_;have:=Ri l.length (fW _) hz hn hr;omega
def pa:List Fq→List Fq→List Fq
 | [],q=>q
 | p,[]=>p
 | c::p,d::q=>(c+d)::pa p q
def o5 (t:Fq):∀ p q,ev (pa p q) t=ev p t+ev q t
 | [],q=>by simp only [pa,ev];grind
 | c::p,[]=>by simp only [pa,ev];grind
 | c::p,d::q=>by
  have:=o5 t p q;simp only [pa,ev,this];grind
def PS:∀ p q,(pa p q).length=max p.length q.length
 | [],q=>by simp [pa]
 | c::p,[]=>by simp [pa]
 | c::p,d::q=>by simp only [pa,kS,PS p q];omega
def ps (c:Fq) (p:List Fq):List Fq:=p.map (c*·)
def aDI (c t:Fq) (p:List Fq):ev (ps c p) t=c*ev p t:=by
 induction p with
 | nil=>simp only [ps,eQ,ev];grind
 | cons d p ih =>
  simp only [ps,cN,ev] at ih ⊢;rw [ih];grind
def pm:List Fq→List Fq→List Fq
 | [],_=>[]
 | c::p,q=>pa (ps c q) (0::pm p q)
def aDJ (t:Fq) (q:List Fq):∀ p,ev (pm p q) t=ev p t*ev q t
 | []=>by simp only [pm,ev];grind
 | c::p=>by
  simp only [pm,o5,aDI,ev,aDJ t q p];grind
def pr:List Fq→List Fq
 | []=>[1]
 | z::R=>pm [-z,1] (pr R)
end Hud
end
section
namespace Hud
def aEH (n:Nat):∃ l:List (Fin n),l.Nodup∧l.length=n∧∀ x,x∈l:=⟨List.finRange n,List.nodup_finRange n,List.length_finRange,λx=>List.mem_finRange x⟩
def XU {l:List Fq} (hl:l.length≤PP) (h:∀ t,ev l t=0):zp l:=by
 obtain ⟨R,h1,h2,_⟩:=aEH PP;exact Rj (by omega) h1 λz _=>h z
def Tn {p q:List Fq} (hl:p.length=q.length) (hp:p.length≤PP) (h:∀ t,ev p t=ev q t):p=q:=by
 have hz:∀ (p q:List Fq),p.length=q.length→zp (pa p (ps (-1) q))→p=q:=by
  intro p
  induction p with
  | nil=>intro q hl _;exact (CR hl.symm).symm
  | cons c p ih =>
   intro q hl hz
   cases q with
   | nil=>simp at hl
   | cons d q =>
    have h1:=hz (c+-1*d) (by simp [ps,pa]);have h2:=ih q (by simpa using hl) λx hx=>hz x (by simp only [ps,cN,pa];exact FL _ hx);have:c=d:=by grind
    rw [this,h2]
 refine hz p q hl (XU (by rw [PS];simp only [ps,aL];omega) λt=>?_);rw [o5,aDI,h t];grind
def aN (l:List Fq):List Fq:=(l.reverse.dropWhile (· == 0)).reverse
def uF (l:List Fq) (c:Fq):aN (l++[c])=if c=0 then aN l else l++[c]:=by
 unfold aN;rw [List.reverse_append,List.reverse_singleton,Yi,List.dropWhile_cons];by_cases h:c=0
 ·simp [h]
 ·simp [h]
def N0:aN []=[]:=rfl
def PT (t c:Fq):∀ l:List Fq,ev (l++[c]) t=ev l t+c*t^l.length
 | []=>by
  have:t^0=1:=by grind
  simp only [FQ,ev,kI,this,aCj,aGf,Z8];grind
 | d::l=>by
  have:=PT t c l;simp only [Ag,ev,this,kS];generalize l.length=n;generalize ev l t=e;grind
def Gz {p:List Fq→Prop} (h0:p []) (hs:∀ l c,p l→p (l++[c])):∀ l,p l:=by
 intro l;rw [←List.reverse_reverse l]
 induction l.reverse with
 | nil=>exact h0
 | cons c r ih=>rw [List.reverse_cons];exact hs _ _ ih
def Dh (t:Fq):∀ l,ev (aN l) t=ev l t:=by
 refine Gz rfl λl c ih=>?_;rw [uF];split
 ·rename_i h;subst h;rw [ih,PT,aCk,aGf]
 ·rfl
def gP:∀ l,(aN l).length≤l.length:=by
 refine Gz (fW _) λl c ih=>?_;rw [uF];split
 ·simp;omega
 ·exact fW _
def tr (l:List Fq):Prop:=l=[]∨∃ f c,l=f++[c]∧c≠0
def BD:∀ l,tr (aN l):=by
 refine Gz (.inl rfl) λl c ih=>?_;rw [uF];split
 ·exact ih
 ·rename_i h;exact .inr ⟨l,c,rfl,h⟩
def sW:∀ l,∃ k,l=aN l++List.replicate k 0:=by
 refine Gz ⟨0,rfl⟩ λl c ih=>?_;rw [uF];split
 ·rename_i h;subst h;obtain ⟨k,hk⟩:=ih;exact ⟨k+1,by rw [List.replicate_succ',←eE,←hk]⟩
 ·exact ⟨0,by simp⟩
def FG {l:List Fq}:aN l=[]↔zp l:=by
 constructor
 ·intro h c hc;obtain ⟨k,hk⟩:=sW l;rw [h,FQ] at hk;rw [hk] at hc;exact Qc hc
 ·intro h;rcases BD l with h1 | ⟨f,c,h1,hc⟩
  ·exact h1
  ·obtain ⟨k,hk⟩:=sW l;exact absurd (h c (by rw [hk,h1];simp)) hc
def Lv (l:List Fq) (i j:Nat) (v:Fq) (h:i<l.length):(l.set i v).getD j 0=if i=j then v else l.getD j 0:=by
 rw [fG,Ec];by_cases hij:i=j
 ·subst hij;simp [h]
 ·simp [hij]
def Tp (t v:Fq):∀ (l:List Fq) (i:Nat),i<l.length→ev (l.set i v) t=ev l t+(v-l.getD i 0)*t^i
 | [],i,h=>by simp at h
 | c::l,0,_=>by
  have:t^0=1:=by grind
  simp only [Yx,ev,Ys,this];generalize ev l t=e;grind
 | c::l,i+1,h=>by
  have:=Tp t v l i (by simpa using h);simp only [Yy,ev,Yu,this];generalize ev l t=e;generalize l.getD i 0=x;grind
def cV (c:Fq):List Fq→Nat→List Fq→List Fq
 | [],_,a=>a
 | x::b,k,a=>cV c b (k+1) (a.set k (a.getD k 0-c*x))
def lD (c:Fq):∀ (b:List Fq) (k:Nat) (a:List Fq),(cV c b k a).length=a.length
 | [],_,_=>rfl
 | x::b,k,a=>by rw [cV,lD c b,mA]
def H6 (c t:Fq):∀ (b:List Fq) (k:Nat) (a:List Fq),k+b.length≤a.length→ev (cV c b k a) t=ev a t-c*t^k*ev b t
 | [],k,a,_=>by
  simp only [cV,ev,aCj];generalize ev a t=x;grind
 | x::b,k,a,h=>by
  have hk:k<a.length:=by simp only [kS] at h;omega
  rw [cV,H6 c t b (k+1) _ (by rw [mA];simp only [kS] at h;omega),Tp t _ a k hk];simp only [ev];generalize ev a t=y;generalize ev b t=z;generalize a.getD k 0=w;grind
def Lw (c:Fq):∀ (b:List Fq) (k:Nat) (a:List Fq) (j:Nat),k+b.length≤a.length→(cV c b k a).getD j 0=if k≤j∧j<k+b.length then a.getD j 0-c*b.getD (j-k) 0 else a.getD j 0
 | [],k,a,j,_=>by
  rw [cV,if_neg (by simp only [kI];omega)]
 | x::b,k,a,j,h=>by
  have hk:k<a.length:=by simp only [kS] at h;omega
  rw [cV,Lw c b (k+1) _ j (by rw [mA];simp only [kS] at h;omega),Lv _ _ _ _ hk];simp only [kS];by_cases h1:k=j
  ·subst h1;rw [if_neg (by omega),if_pos rfl,if_pos (by omega)];simp
  ·rw [if_neg h1];by_cases h2:k+1≤j∧j<k+1+b.length
   ·rw [if_pos h2,if_pos (by omega)];rw [show j-k=(j-(k+1))+1 by omega,Yu]
   ·rw [if_neg h2,if_neg (by omega)]
def lE (b:List Fq) (v:Fq):Nat→List Fq×List Fq→List Fq×List Fq
 | 0,s=>s
 | k+1,(q,a)=>lE b v k (q.set k (a.getD (k+b.length-1) 0*v),cV (a.getD (k+b.length-1) 0*v) b k a)
def N1 {b f:List Fq} {c:Fq} (hb:b=f++[c]) {v:Fq} (hv:c*v=1):∀ (k:Nat) (q a:List Fq),k≤q.length→q.length+b.length≤a.length+1→(∀ j,k+b.length-1≤j→a.getD j 0=0)→(∀ j,j<k→q.getD j 0=0) →
  (lE b v k (q,a)).1.length=q.length∧(lE b v k (q,a)).2.length=a.length∧(∀ j,b.length-1≤j→(lE b v k (q,a)).2.getD j 0=0) ∧
  (∀ t,ev (lE b v k (q,a)).1 t*ev b t+ev (lE b v k (q,a)).2 t=ev q t*ev b t+ev a t)∧(∀ j,k≤j→(lE b v k (q,a)).1.getD j 0=q.getD j 0)
 | 0,q,a,_,_,ha,_=>⟨rfl,rfl,λj hj=>ha j (by omega),λt=>rfl,λj _=>rfl⟩
 | k+1,q,a,hk,hl,ha,hq=>by
  have hbl:b.length=f.length+1:=by rw [hb];simp
  have hblast:b.getD (b.length-1) 0=c:=by rw [hb];simp
  simp only [lE];generalize hd:a.getD (k+b.length-1) 0*v=d;have hrow:=Lw d b k a
  obtain ⟨h1,h2,h3,h4,h5⟩:=N1 hb hv k (q.set k d) (cV d b k a) (by rw [mA];omega) (by rw [mA,lD];exact hl) (λj hj=>by
   rw [hrow j (by omega)];by_cases hjk:j=k+b.length-1
   ·rw [if_pos (by omega),show j-k=b.length-1 by omega,hblast,←hd,hjk];generalize a.getD (k+b.length-1) 0=x;grind
   ·rw [if_neg (by omega)]
    exact ha j (by omega)) (λj hj=>by rw [Lv _ _ _ _ (by omega),if_neg (by omega)];exact hq j (by omega))
  refine ⟨by rw [h1,mA],by rw [h2,lD],h3,λt=>?_,λj hj=>?_⟩
  ·rw [h4 t,Tp t d q k (by omega),H6 d t b k a (by omega),hq k (by omega)];generalize ev q t=x;generalize ev b t=y;generalize ev a t=z;grind
  ·rw [h5 j (by omega),Lv _ _ _ _ (by omega),if_neg (by omega)]
def dm (a b:List Fq):List Fq×List Fq :=
 if aN b=[] then ([],[]) else if (aN a).length<(aN b).length then ([],aN a) else
  let s:=lE (aN b) (inv ((aN b).getD ((aN b).length-1) 0)) ((aN a).length-(aN b).length+1) (List.replicate ((aN a).length-(aN b).length+1) 0,aN a)
  (aN s.1,aN s.2)
def Rk {l:List Fq} {m:Nat} (h:∀ j,m≤j→l.getD j 0=0):(aN l).length≤m:=by
 rcases BD l with h1 | ⟨f,c,h1,hc⟩
 ·rw [h1];simp
 ·obtain ⟨k,hk⟩:=sW l;rcases bY m (aN l).length with h2 | h2
  ·have:=h ((aN l).length-1) (by omega);rw [h1] at this h2 hk;rw [hk] at this;simp at this;exact absurd this hc
  ·exact h2
def aGg {a b:List Fq} (hb:¬zp b):(∀ t,ev a t=ev (dm a b).1 t*ev b t+ev (dm a b).2 t)∧(dm a b).2.length<(aN b).length∧tr (dm a b).1∧tr (dm a b).2 ∧
  ((dm a b).1=[]∨(dm a b).1.length+(aN b).length≤(aN a).length+1)∧(dm a b).2.length≤(aN a).length:=by
 have h0:aN b≠[]:=λh=>hb (FG.1 h);have hpos:0<(aN b).length:=CT.2 h0;unfold dm;rw [if_neg h0];by_cases h1:(aN a).length<(aN b).length
 ·rw [if_pos h1];refine ⟨λt=>?_,h1,.inl rfl,BD a,.inl rfl,fW _⟩;simp only [ev,Dh,aCk,Z8]
 ·rw [if_neg h1];simp only;rcases BD b with h2 | ⟨f,c,h2,hc⟩
  ·exact absurd h2 h0
  ·have hlast:(aN b).getD ((aN b).length-1) 0=c:=by rw [h2];simp
   rw [hlast];have hv:=Vy hc;revert hv;generalize inv c=v;intro hv;have hz:∀ j,(List.replicate ((aN a).length-(aN b).length+1) (0:Fq)).getD j 0=0:=λj=>by simp [fG,Ye];split<;>rfl
   have hk:=N1 h2 hv ((aN a).length-(aN b).length+1) (List.replicate ((aN a).length-(aN b).length+1) 0) (aN a) (by simp) (by simp;omega)
    (λj hj=>by rw [fG,gV (by omega)];rfl) (λj _=>hz j)
   revert hk;generalize lE (aN b) v ((aN a).length-(aN b).length+1) (List.replicate ((aN a).length-(aN b).length+1) 0,aN a)=s;rintro ⟨k1,k2,k3,k4,_⟩;rw [KI] at k1;have t1:=gP s.1;have t2:=gP s.2;refine ⟨λt=>?_,?_,BD _,BD _,.inr (by omega),by omega⟩
   ·have:=k4 t;rw [aDF (l:=List.replicate _ 0) (λc hc=>Qc hc),aCk,Z8,Dh,Dh] at this;rw [Dh,Dh,this]
   ·have:=Rk k3;omega
end Hud
end
section
namespace Hud
end Hud
end
section
namespace Hud
def H7 (q:List Fq) (hq:q≠[]):∀ p,p≠[]→(pm p q).length+1=p.length+q.length
 | [],h=>absurd rfl h
 | [c],_=>by
  have:0<q.length:=CT.2 hq;simp only [pm,PS,ps,aL,kS,kI];omega
 | c::d::p,_=>by
  have:=H7 q hq (d::p) (by simp);have:0<q.length:=CT.2 hq;rw [pm,PS];simp only [ps,aL,kS] at *
  omega
def BE (a b:List Fq):List Fq:=if aN a=[]∨aN b=[] then [] else aN (pm (aN a) (aN b))
def o6 (a b:List Fq):BE a b=[]∨(BE a b).length+1≤a.length+b.length:=by
 unfold BE;split
 ·exact .inl rfl
 ·rename_i h;simp only [not_or] at h;have h1:=H7 (aN b) h.2 (aN a) h.1;have h2:=gP (pm (aN a) (aN b));have h3:=gP a;have h4:=gP b;exact .inr (by omega)
def H8 (md:List Fq):Nat→Nat→List Fq→List Fq→List Fq
 | 0,_,out,_=>out
 | f+1,n,out,a=>if n=0 then out else H8 md f (n/2) (if n%2=1 then (dm (BE out a) md).2 else out) (dm (BE a a) md).2
def Jx (x:Fq) (n:Nat):x^n=(x*x)^(n/2)*x^(n%2):=by
 have key:∀ m k:Nat,x^(2*m+k)=(x*x)^m*x^k:=by
  intro m
  induction m with
  | zero =>
   intro k;rw [Qs,rW];generalize x^k=y;grind
  | succ m ih =>
   intro k;have e1:∀ (x:Fq) (k:Nat),x^(k+1)=x^k*x:=λx k=>by grind
   rw [show 2*(m+1)+k=2*m+(k+2) by omega,ih,e1 (x*x),e1 x (k+1),e1 x k];generalize (x*x)^m=y;generalize x^k=z;grind
 rw [←key,Qn]
end Hud
end
