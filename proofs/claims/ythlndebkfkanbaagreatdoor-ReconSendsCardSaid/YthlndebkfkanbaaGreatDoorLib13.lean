import Derived.Test.YthlndebkfkanbaaGreatDoorLib12
import Derived.Shelf.SlSortCmp.NoneTotal
import Derived.Test.YthlndebkfkanbaaGreatDoorProg
set_option linter.all false
namespace Hud
open Go
section
abbrev FP:Nat:=2305843009213693951
def bG (n:Nat) (h:n<18446744073709551616):IntKind.u64.wrap (n:Int)=(n:Int):=by
 simp only [IntKind.wrap,IntKind.bits,IntKind.signed];simp;omega
def XV (x:Nat) (hx:x<18446744073709551616):aZ .and (.int .u64 (x:Int)) (.int .u64 2305843009213693951)=some (.int .u64 ((x%2305843009213693952:Nat):Int)):=by
 have h1:(BitVec.ofInt 64 (x:Int)).toNat=x:=by rw [Cf];omega
 have h2:(BitVec.ofInt 64 2305843009213693951).toNat=2^61-1:=by decide
 have h3:(BitVec.ofInt 64 (x:Int) &&& BitVec.ofInt 64 2305843009213693951).toNat=x%2305843009213693952:=by
  rw [KR,h1,h2,YZ]
 have h4:aZ .and (.int .u64 (x:Int)) (.int .u64 2305843009213693951)=some (.int .u64 (IntKind.u64.wrap ((BitVec.ofInt 64 (x:Int) &&& BitVec.ofInt 64 2305843009213693951).toNat:Int))):=by
  simp only [aZ,if_true];rfl
 rw [h4,h3,bG _ (by omega)]
def Tq (x:Nat):aZ .shr (.int .u64 (x:Int)) (.int .u64 61)=some (.int .u64 ((x/2305843009213693952:Nat):Int)):=by
 have:(x:Int).fdiv (2^min 61 64)=((x/2305843009213693952:Nat):Int):=by simp [VD]
 rw [←this];simp only [aZ];rfl
def cW (x y:Nat) (h:x+y<18446744073709551616):aZ .add (.int .u64 (x:Int)) (.int .u64 (y:Int))=some (.int .u64 ((x+y:Nat):Int)):=by
 simp only [aZ,if_true];rw [←Y9,bG _ h]
def XW (x:Nat) (h:2305843009213693951≤x) (h2:x<18446744073709551616):aZ .sub (.int .u64 (x:Int)) (.int .u64 2305843009213693951)=some (.int .u64 ((x-2305843009213693951:Nat):Int)):=by
 simp only [aZ,if_true];rw [show (x:Int)-2305843009213693951=((x-2305843009213693951:Nat):Int) from by omega,bG _ (by omega)]
def Fs (x:Nat) (hx:x<18446744073709551616):aZ .and (.int .u64 (x:Int)) (.int .u64 4294967295)=some (.int .u64 ((x%4294967296:Nat):Int)):=by
 have h1:(BitVec.ofInt 64 (x:Int)).toNat=x:=by rw [Cf];omega
 have h2:(BitVec.ofInt 64 4294967295).toNat=2^32-1:=by decide
 have h3:(BitVec.ofInt 64 (x:Int) &&& BitVec.ofInt 64 4294967295).toNat=x%4294967296:=by
  rw [KR,h1,h2,YZ]
 have h4:aZ .and (.int .u64 (x:Int)) (.int .u64 4294967295)=some (.int .u64 (IntKind.u64.wrap ((BitVec.ofInt 64 (x:Int) &&& BitVec.ofInt 64 4294967295).toNat:Int))):=by
  simp only [aZ,if_true];rfl
 rw [h4,h3,bG _ (by omega)]
def Tr (x:Nat):aZ .shr (.int .u64 (x:Int)) (.int .u64 32)=some (.int .u64 ((x/4294967296:Nat):Int)):=by
 have:(x:Int).fdiv (2^min 32 64)=((x/4294967296:Nat):Int):=by simp [VD]
 rw [←this];simp only [aZ];rfl
def jV (x y:Nat) (h:x*y<18446744073709551616):aZ .mul (.int .u64 (x:Int)) (.int .u64 (y:Int))=some (.int .u64 ((x*y:Nat):Int)):=by
 simp only [aZ,if_true];rw [←Int.natCast_mul,bG _ h]
def XX (n:Nat):IntKind.u64.wrap (n:Int)=((n%18446744073709551616:Nat):Int):=by
 simp only [IntKind.wrap,IntKind.bits,IntKind.signed];simp
def XY (x y:Nat):aZ .mul (.int .u64 (x:Int)) (.int .u64 (y:Int))=some (.int .u64 ((x*y%18446744073709551616:Nat):Int)):=by
 simp only [aZ,if_true];rw [←Int.natCast_mul,XX]
def yA (G:Nat→Option (List AV)) (x:Nat) (hx:x<18446744073709551616):aC PQ G cK [.v (.int .u64 (x:Int))] [] λr T'=>r=.v (.int .u64 ((x%FP:Nat):Int))∧T'=[]:=by
 refine aF Df (by decide) ?_;unfold De;have a1:=XV x hx;have a2:=cW (x%2305843009213693952) (x/2305843009213693952) (by omega);simp only [↓a1,↓Tq,↓a2,go_sem];refine aM (λhc=>?_) (λhc=>?_)
 ·have hc':2305843009213693951≤x%2305843009213693952+x/2305843009213693952:=by have:=of_decide_eq_true hc;omega
  have a3:=XW _ hc' (by omega);simp only [↓a3,go_sem];have:x%2305843009213693952+x/2305843009213693952-2305843009213693951=x%FP:=by simp only [FP];omega
  simp only [this,and_self]
 ·have hc':x%2305843009213693952+x/2305843009213693952<2305843009213693951:=by have:=of_decide_eq_false hc;omega
  simp only [go_sem];have:x%2305843009213693952+x/2305843009213693952=x%FP:=by simp only [FP];omega
  simp only [this,and_self]
def aGh (G:Nat→Option (List AV)) (x y:Nat) (hx:x<18446744073709551616) (hy:y<18446744073709551616):aC PQ G mI [.v (.int .u64 (x:Int)),.v (.int .u64 (y:Int))] [] λr T'=>r=.v (.int .u64 (((x+y)%FP:Nat):Int))∧T'=[]:=by
 refine aF Da (by decide) ?_;unfold DZ;have a1:=cW (x%FP) (y%FP) (by simp only [FP];omega);simp only [go_sem];refine aB (aA _) rfl (yA G x hx) rfl ?_;simp only [go_sem];refine aB (aA _) rfl (yA G y hy) rfl ?_;simp only [↓a1,go_sem];refine aB (aA _) rfl (yA G _ (by simp only [FP];omega)) rfl ?_;simp only [go_sem,←Qw]
def N2 (x y:Nat):x*y=(x/4294967296*(y/4294967296))*18446744073709551616+(x/4294967296*(y%4294967296)+x%4294967296*(y/4294967296))*4294967296+x%4294967296*(y%4294967296):=by
 have hx:=Qn x 4294967296;have hy:=Qn y 4294967296;generalize x/4294967296=a at *
 generalize x%4294967296=b at *
 generalize y/4294967296=c at *
 generalize y%4294967296=d at *
 subst hx;subst hy;simp only [CW,Nat.mul_add];have e1:4294967296*a*(4294967296*c)=a*c*18446744073709551616:=by
  rw [show 4294967296*a*(4294967296*c)=(4294967296*4294967296)*(a*c) from by simp only [Ng,Y1 a]];omega
 have e2:b*(4294967296*c)=b*c*4294967296:=by rw [Y1,GG]
 have e3:4294967296*a*d=a*d*4294967296:=by rw [Ng,GG]
 omega
def aEI (x y:Nat):x/4294967296*(y/4294967296)+(x/4294967296*(y%4294967296)+x%4294967296*(y%4294967296)/4294967296)/4294967296+((x/4294967296*(y%4294967296)+x%4294967296*(y%4294967296)/4294967296)%4294967296+x%4294967296*(y/4294967296))/4294967296=x*y/18446744073709551616:=by
 rw [N2 x y];generalize x/4294967296*(y/4294967296)=s;generalize x/4294967296*(y%4294967296)=p;generalize x%4294967296*(y/4294967296)=q;generalize x%4294967296*(y%4294967296)=r;omega
def aCl (G:Nat→Option (List AV)) (x y:Nat) (hx:x<18446744073709551616) (hy:y<18446744073709551616):aC PQ G sG [.v (.int .u64 (x:Int)),.v (.int .u64 (y:Int))] [] λr T' =>
  r=.tup [.v (.int .u64 ((x*y/18446744073709551616:Nat):Int)),.v (.int .u64 ((x*y%18446744073709551616:Nat):Int))]∧T'=[]:=by
 refine aF Dd (by decide) ?_;have b:∀ a c:Nat,a<4294967296→c<4294967296→a*c≤18446744065119617025:=λa c ha hc=>ZB (show a≤4294967295 by omega) (show c≤4294967295 by omega);have m1:=b (x%4294967296) (y%4294967296) (by omega) (by omega);have m2:=b (x/4294967296) (y%4294967296) (by omega) (by omega);have m3:=b (x%4294967296) (y/4294967296) (by omega) (by omega);have m4:=b (x/4294967296) (y/4294967296) (by omega) (by omega);have hm:=aEI x y;have hh:x*y/18446744073709551616<18446744073709551616:=Nat.div_lt_of_lt_mul (Nat.mul_lt_mul'' hx hy);have a1:=Fs x hx;have a2:=Fs y hy;have a3:=jV _ _ (show x%4294967296*(y%4294967296)<18446744073709551616 by omega);have a4:=jV _ _ (show x/4294967296*(y%4294967296)<18446744073709551616 by omega);have a5:=cW (x/4294967296*(y%4294967296)) (x%4294967296*(y%4294967296)/4294967296) (by omega);have a6:=Fs (x/4294967296*(y%4294967296)+x%4294967296*(y%4294967296)/4294967296) (by omega);have a7:=jV _ _ (show x%4294967296*(y/4294967296)<18446744073709551616 by omega);have a8:=cW ((x/4294967296*(y%4294967296)+x%4294967296*(y%4294967296)/4294967296)%4294967296) (x%4294967296*(y/4294967296)) (by omega);have a9:=jV _ _ (show x/4294967296*(y/4294967296)<18446744073709551616 by omega);have a10:=cW (x/4294967296*(y/4294967296)) ((x/4294967296*(y%4294967296)+x%4294967296*(y%4294967296)/4294967296)/4294967296) (by omega);have a11:=cW (x/4294967296*(y/4294967296)+(x/4294967296*(y%4294967296)+x%4294967296*(y%4294967296)/4294967296)/4294967296) (((x/4294967296*(y%4294967296)+x%4294967296*(y%4294967296)/4294967296)%4294967296+x%4294967296*(y/4294967296))/4294967296) (by omega);have a12:=XY x y;simp only [↓a1,↓a2,↓Tr,↓a3,↓a4,↓a5,↓a6,↓a7,↓a8,↓a9,↓a10,↓a11,↓a12,go_sem,hm]
def XZ (x:Nat) (h:x*8<18446744073709551616):aZ .shl (.int .u64 (x:Int)) (.int .u64 3)=some (.int .u64 ((x*8:Nat):Int)):=by
 have:IntKind.u64.wrap ((x:Int)*2^(min 3 64))=((x*8:Nat):Int):=by
  rw [show (x:Int)*2^(min 3 64)=((x*8:Nat):Int) from by simp,bG _ h]
 rw [←this];simp only [aZ];rfl
def aGi (G:Nat→Option (List AV)) (x y:Nat) (hx:x<18446744073709551616) (hy:y<18446744073709551616):aC PQ G bQ [.v (.int .u64 (x:Int)),.v (.int .u64 (y:Int))] [] λr T'=>r=.v (.int .u64 ((x*y%FP:Nat):Int))∧T'=[]:=by
 refine aF Lp (by decide) ?_;have hx':x%FP<2305843009213693951:=by simp only [FP];omega
 have hy':y%FP<2305843009213693951:=by simp only [FP];omega
 have hm:x*y%FP=(x%FP)*(y%FP)%FP:=Ak _ _ _;have hb:(x%FP)*(y%FP)≤5316911983139663487003542222693990401:=ZB (show x%FP≤2305843009213693951 by omega) (show y%FP≤2305843009213693951 by omega);rw [hm];simp only [go_sem];refine aB (aA _) rfl (yA G x hx) rfl ?_;simp only [go_sem];refine aB (aA _) rfl (yA G y hy) rfl ?_;simp only [go_sem];refine aB (aA _) rfl (aCl G _ _ (by omega) (by omega)) rfl ?_;generalize (x%FP)*(y%FP)=z at hb;have a1:=XZ (z/18446744073709551616) (by omega);simp only [go_sem];refine aB (aA _) rfl (yA G _ (by omega)) rfl ?_;have a2:=cW (z%18446744073709551616%FP) (z/18446744073709551616*8) (by simp only [FP];omega);simp only [↓a1,↓a2,go_sem];refine aB (aA _) rfl (yA G _ (by simp only [FP];omega)) rfl ?_;have e:(z%18446744073709551616%FP+z/18446744073709551616*8)%FP=z%FP:=by simp only [FP];omega
 simp only [go_sem,e]
end
end Hud
section
namespace Hud
def PR (a b:Nat) (l l':List Nat):Prop:=l'.length=l.length∧(∀ i,i<a∨b≤i→l'.getD i 0=l.getD i 0)∧l'.Perm l
def SR (a b:Nat) (l:List Nat):Prop:=∀ i j,a≤i→i≤j→j<b→l.getD i 0≤l.getD j 0
def PU (a b:Nat) (l:List Nat):Prop:=a=0∨∀ i,a≤i→i<b→l.getD (a-1) 0≤l.getD i 0
def iF (l:List Nat) (i j:Nat):List Nat:=(l.set i (l.getD j 0)).set j (l.getD i 0)
def PR.refl (a b:Nat) (l:List Nat):PR a b l l:=⟨rfl,λ_ _=>rfl,.refl _⟩
def PR.trans {a b:Nat} {l m n:List Nat} (h:PR a b l m) (k:PR a b m n):PR a b l n:=⟨by rw [k.1,h.1],λi hi=>by rw [k.2.1 i hi,h.2.1 i hi],k.2.2.trans h.2.2⟩
def PR.wide {a b a' b':Nat} {l l':List Nat} (h:PR a b l l') (ha:a'≤a) (hb:b≤b'):PR a' b' l l':=⟨h.1,λi hi=>h.2.1 i (by omega),h.2.2⟩
def EL (l:List Nat) (i j:Nat):(iF l i j).length=l.length:=by simp [iF]
def pI (l:List Nat) (i j:Nat) (hi:i<l.length) (hj:j<l.length) (k:Nat):(iF l i j).getD k 0=if k=j then l.getD i 0 else if k=i then l.getD j 0 else l.getD k 0:=by
 simp only [iF,fG,Ec,mA];by_cases h1:k=j
 ·subst h1;simp [hj]
 ·rw [if_neg (λh=>h1 h.symm),if_neg h1];by_cases h2:k=i
  ·subst h2;simp [hi]
  ·rw [if_neg (λh=>h2 h.symm),if_neg h2]
def gJ {a b:Nat} {l:List Nat} {i j:Nat} (hi:a≤i) (hi2:i<b) (hj:a≤j) (hj2:j<b) (hb:b≤l.length):PR a b l (iF l i j):=by
 refine ⟨EL l i j,λk hk=>?_,?_⟩
 ·rw [pI l i j (by omega) (by omega),if_neg (by omega),if_neg (by omega)]
 ·have h1:l.getD j 0=l[j]'(by omega):=by rw [fG,fV (by omega)];rfl
  have h2:l.getD i 0=l[i]'(by omega):=by rw [fG,fV (by omega)];rfl
  rw [iF,h1,h2];exact List.set_set_perm (by omega) (by omega)
def NG {l:List Nat} {a b i:Nat} (ha:a≤i) (hb:i<b) (hl:b≤l.length):l.getD i 0∈(l.drop a).take (b-a):=by
 rw [fG,fV (by omega),KL];rw [Qb];refine ⟨i-a,by simp;omega,?_⟩;simp [show a+(i-a)=i by omega]
def NH {l:List Nat} {a b x:Nat} (hl:b≤l.length) (h:x∈(l.drop a).take (b-a)):∃ i,a≤i∧i<b∧l.getD i 0=x:=by
 rw [Qb] at h;obtain ⟨k,hk,e⟩:=h;simp at hk e;refine ⟨a+k,by omega,by omega,?_⟩;rw [fG,fV (by omega),KL];exact e
def PR.mid {a b:Nat} {l l':List Nat} (h:PR a b l l') (hab:a≤b) (hb:b≤l.length):((l'.drop a).take (b-a)).Perm ((l.drop a).take (b-a)):=by
 have h1:l'.take a=l.take a:=by
  apply BV λi=>?_;rw [AI,AI];split
  ·rename_i hi;have:=h.2.1 i (.inl hi);have hl:=h.1;simp only [fG] at this;rw [fV (by omega),fV (by omega)] at this ⊢;simpa using this
  ·rfl
 have h2:l'.drop b=l.drop b:=by
  apply BV λi=>?_;rw [FN,FN];have hl:=h.1;have:=h.2.1 (b+i) (.inr (by omega));simp only [fG] at this;by_cases hi:b+i<l.length
  ·rw [fV (by omega),fV (by omega)] at this ⊢;simpa using this
  ·rw [gV (by omega),gV (by omega)]
 have sp:∀ l:List Nat,l=l.take a++((l.drop a).take (b-a)++l.drop b):=λl=>by
  have e:l.drop b=(l.drop a).drop (b-a):=by rw [GF];congr 1;omega
  rw [e,KO,KO]
 have h3:=h.2.2;rw [sp l,sp l',h1,h2] at h3;exact (List.perm_append_right_iff _).1 ((List.perm_append_left_iff _).1 h3)
def PR.all {a b:Nat} {l l':List Nat} (h:PR a b l l') (hb:b≤l.length) {Q:Nat→Prop} (hQ:∀ i,a≤i→i<b→Q (l.getD i 0)):∀ i,a≤i→i<b→Q (l'.getD i 0):=by
 intro i h1 h2;obtain ⟨j,h3,h4,h5⟩:=NH hb ((h.mid (by omega) hb).mem_iff.1 (NG h1 h2 (by rw [h.1];exact hb)));rw [←h5];exact hQ j h3 h4
def PU.sub {a b c:Nat} {l:List Nat} (h:PU a b l) (hc:c≤b):PU a c l:=h.imp id λk i h1 h2=>k i h1 (by omega)
def PU.pr {a b:Nat} {l l':List Nat} (h:PU a b l) (hp:PR a b l l') (hb:b≤l.length):PU a b l':=by
 by_cases h0:a=0
 ·exact .inl h0
 ·rcases h with h | h
  ·exact absurd h h0
  ·refine .inr ?_;rw [hp.2.1 (a-1) (.inl (by omega))];exact hp.all hb (Q:=λx=>l.getD (a-1) 0≤x) h
def SR.outside {a b c d:Nat} {l l':List Nat} (h:SR a b l) (hp:PR c d l l') (hd:b≤c∨d≤a):SR a b l':=by
 intro i j h1 h2 h3;rw [hp.2.1 i (by omega),hp.2.1 j (by omega)];exact h i j h1 h2 h3
def SR.small {a b:Nat} {l:List Nat} (h:b≤a+1):SR a b l:=by
 intro i j h1 h2 h3;have:i=j:=by omega
 subst this;exact fW _
def Rl {a i j:Nat} {l:List Nat} (hlen:i<l.length) (haj:a<j) (hji:j≤i) (h:∀ p q,a≤p→p<q→q≤i→q≠j→l.getD p 0≤l.getD q 0) (hlt:l.getD j 0<l.getD (j-1) 0) :
  ∀ p q,a≤p→p<q→q≤i→q≠j-1→(iF l j (j-1)).getD p 0≤(iF l j (j-1)).getD q 0:=by
 intro p q h1 h2 h3 h4;rw [pI l j (j-1) (by omega) (by omega),pI l j (j-1) (by omega) (by omega)];rw [if_neg h4];by_cases hp:p=j-1
 ·rw [if_pos hp];by_cases hq:q=j
  ·rw [if_pos hq];omega
  ·rw [if_neg hq];exact h j q (by omega) (by omega) h3 hq
 ·rw [if_neg hp];by_cases hp2:p=j
  ·rw [if_pos hp2,if_neg (by omega)];exact h (j-1) q (by omega) (by omega) h3 (by omega)
  ·rw [if_neg hp2];by_cases hq:q=j
   ·rw [if_pos hq];exact h p (j-1) h1 (by omega) (by omega) (by omega)
   ·rw [if_neg hq];exact h p q h1 h2 h3 hq
def Di {a i j:Nat} {l:List Nat} (hji:j≤i) (h:∀ p q,a≤p→p<q→q≤i→q≠j→l.getD p 0≤l.getD q 0) (hd:j≤a∨l.getD (j-1) 0≤l.getD j 0):SR a (i+1) l:=by
 intro p q h1 h2 h3;rcases Nat.eq_or_lt_of_le h2 with rfl | h2
 ·exact fW _
 ·by_cases hq:q=j
  ·subst hq;rcases hd with hd | hd
   ·omega
   ·by_cases hp:p=q-1
    ·rw [hp];exact hd
    ·exact nX (h p (q-1) h1 (by omega) (by omega) (by omega)) hd
  ·exact h p q h1 h2 (by omega) hq
def Lx {a i:Nat} {l:List Nat} (h:SR a i l):∀ p q,a≤p→p<q→q≤i→q≠i→l.getD p 0≤l.getD q 0:=λp q h1 h2 h3 h4=>h p q h1 (by omega) (by omega)
def HP (f lo hi:Nat) (l:List Nat):Prop:=∀ p c,lo≤p→(c=2*p+1∨c=2*p+2)→c<hi→l.getD (f+c) 0≤l.getD (f+p) 0
def HQ (f lo hi r:Nat) (l:List Nat):Prop:=(∀ p c,lo≤p→p≠r→(c=2*p+1∨c=2*p+2)→c<hi→l.getD (f+c) 0≤l.getD (f+p) 0) ∧
 ∀ p c,lo≤p→(r=2*p+1∨r=2*p+2)→(c=2*r+1∨c=2*r+2)→c<hi→l.getD (f+c) 0≤l.getD (f+p) 0
def aCm {f lo hi:Nat} {l:List Nat} (h:HP f (lo+1) hi l):HQ f lo hi lo l :=
 ⟨λp c h1 h2 h3 h4=>h p c (by omega) h3 h4,λp c h1 h2=>by omega⟩
def Jy {f lo hi r:Nat} {l:List Nat} (h:HQ f lo hi r l) (hd:∀ c,(c=2*r+1∨c=2*r+2)→c<hi→l.getD (f+c) 0≤l.getD (f+r) 0):HP f lo hi l:=by
 intro p c h1 h2 h3;by_cases hp:p=r
 ·subst hp;exact hd c h2 h3
 ·exact h.1 p c h1 hp h2 h3
def PV {f lo hi r d:Nat} {l:List Nat} (h:HQ f lo hi r l) (hr:lo≤r) (hl:f+hi≤l.length) (hd:d=2*r+1∨d=2*r+2) (hdh:d<hi) (hmax:∀ c,(c=2*r+1∨c=2*r+2)→c<hi→l.getD (f+c) 0≤l.getD (f+d) 0)
  (hlt:l.getD (f+r) 0<l.getD (f+d) 0):HQ f lo hi d (iF l (f+r) (f+d)):=by
 have hg:=pI l (f+r) (f+d) (by omega) (by omega);refine ⟨λp c h1 h2 h3 h4=>?_,λp c h1 h2 h3 h4=>?_⟩
 ·rw [hg,hg];rw [if_neg (show ¬f+p=f+d by omega)];by_cases hp:p=r
  ·subst hp;rw [if_pos rfl];by_cases hc:c=d
   ·subst hc;rw [if_pos rfl];omega
   ·rw [if_neg (by omega),if_neg (by omega)];exact hmax c h3 h4
  ·rw [if_neg (show ¬f+p=f+r by omega)];by_cases hc:c=d
   ·omega
   ·rw [if_neg (by omega)];by_cases hcr:c=r
    ·subst hcr;rw [if_pos rfl];exact h.2 p d h1 h3 hd hdh
    ·rw [if_neg (by omega)];exact h.1 p c h1 hp h3 h4
 ·have hpr:p=r:=by omega
  subst hpr;rw [hg,hg,if_neg (by omega),if_neg (by omega),if_neg (by omega),if_pos rfl];exact h.1 d c (by omega) (by omega) h3 h4
def aEJ {f hi:Nat} {l:List Nat} (h:HP f 0 hi l):∀ k,k<hi→l.getD (f+k) 0≤l.getD f 0:=by
 intro k
 induction k using Nat.strongRecOn with
 | _ k ih =>
  intro hk;rcases Oh k with rfl | hp
  ·exact fW _
  ·exact nX (h ((k-1)/2) k (xC _) (by omega) hk) (ih ((k-1)/2) (by omega) (by omega))
end Hud
end
namespace Hud
open Go
section
def aDK {a b:Nat} (h:b≤a):decide ((a:Int)≥(b:Int))=true:=decide_eq_true (by omega)
def aDL {a b:Nat} (h:a<b):decide ((a:Int)≥(b:Int))=false:=decide_eq_false (by omega)
def o7 {a b:Nat} (h:b<a):decide ((a:Int)>(b:Int))=true:=decide_eq_true (by omega)
def o8 {a b:Nat} (h:a≤b):decide ((a:Int)>(b:Int))=false:=decide_eq_false (by omega)
def BF {a b:Nat} (h:a≤b):decide ((a:Int)≤(b:Int))=true:=decide_eq_true (by omega)
def Ly {a b:Nat} (h:b<a):decide ((a:Int)≤(b:Int))=false:=decide_eq_false (by omega)
section
variable {G:Nat→Option (List AV)}
end
end
end Hud
section
namespace Hud
open Go Go.Proofs Go.Sort Go.Shelf
def cellsOf {α:Type} (enc:α→List Value) (x:α):List AV:=(enc x).map .v
def PW {α:Type} [Inhabited α] {enc:α→List Value} {k:Nat} (hk:∀ x,(enc x).length=k):∀ (l:List α) (t:Nat),t<l.length*k→(l.flatMap enc)[t]?=some ((enc l[t/k]!)[t%k]!)
 | [],t,h=>by simp at h
 | x::l,t,h=>by
  have hk0:0<k:=by
   rcases Oh k with h0 | h0
   ·subst h0;simp at h
   ·exact h0
  rw [List.flatMap_cons];rcases bY t k with hlt | hge
  ·rw [Eb (by rw [hk];exact hlt),Nat.div_eq_of_lt hlt,Ed hlt,aDi];have:t<(enc x).length:=by rw [hk];exact hlt
   simp [this]
  ·rw [KG (by rw [hk];exact hge),hk];have h1:t-k<l.length*k:=by
    rw [kS,CW,GJ] at h;omega
   rw [PW hk l (t-k) h1];have e1:t/k=(t-k)/k+1:=by
    have:=Nat.add_div_right (t-k) hk0;rw [Nat.sub_add_cancel hge] at this;exact this
   have e2:t%k=(t-k)%k:=(Nat.mod_eq_sub_mod hge)
   rw [e1,←e2];simp
def aCn {α:Type} {enc:α→List Value} {k:Nat} (hk:∀ x,(enc x).length=k) (l:List α):(l.flatMap enc).length=l.length*k:=by
 induction l with
 | nil=>simp
 | cons x l ih=>rw [List.flatMap_cons,dU,hk,ih,kS,CW,GJ,Nat.add_comm]
def Lz {α:Type} [Inhabited α] (d:Array α) (i:Nat):d.toList[i]! = d[i]! := by
 by_cases h:i<d.size
 ·rw [getElem!_pos d i h,getElem!_pos d.toList i (by simpa using h)];simp
 ·rw [getElem!_neg d i h,getElem!_neg d.toList i (by simpa using h)]
def Ts {α:Type} [Inhabited α] {enc:α→List Value} {k:Nat} (hk:∀ x,(enc x).length=k) (d:Array α):(flatK enc k d).toList=d.toList.flatMap enc:=by
 apply BV;intro t;rcases bY t (d.size*k) with h | h
 ·have e:(flatK enc k d).toList[t]! = (enc d.toList[t/k]!)[t%k]! := by rw [Lz (flatK enc k d),get_flatK enc k d t h,Lz d]
  rw [PW hk d.toList t (by simpa using h),←e,aDi,fV (by simpa using h)];rfl
 ·rw [gV (by simpa using h),gV (by rw [aCn hk];simpa using h)]
def Vz {h:GH}:∀ {vs us:List Value},cB h (vs.map .v) us→us=vs
 | [],us,e=>by simpa [cB] using e
 | v::vs,us,e=>by
  simp only [cN,cB] at e;obtain ⟨u,us',rfl,h1,h2⟩:=e;simp only [mB] at h1;rw [h1,Vz h2]
def L0 {h:GH}:∀ {vs:List Value},cB h (vs.map .v) vs
 | []=>by simp [cB]
 | v::vs=>by simp only [cN,cB];exact ⟨v,vs,rfl,by simp [mB],L0⟩
def L1 {α:Type} (enc:α→List Value) (l:List α):(l.map (cellsOf enc)).flatten=(l.flatMap enc).map .v:=by
 induction l with
 | nil=>rfl
 | cons x l ih=>simp [cellsOf,ih]
section
variable {P:Program} {α:Type} [Inhabited α] {enc:α→List Value} {k:Nat}
def o9 {w:World} {g o:Nat} {cur:Array Value} {E:TypeId} (h:w.heap[g]?=some (.cells cur E (0,0))):w.cell? ⟨g,o,none⟩=cur[o]?∧w.frozen? ⟨g,o,none⟩=false:=by
 constructor
 ·simp [World.cell?,h]
 ·simp [World.frozen?,h]
def aA0 {h:GH} {w:World} {g:Nat} {cur:Array Value} {E:TypeId} {l:List α} (hk:∀ x,(enc x).length=k) (hw:w.heap[g]?=some (.cells cur E (0,0))) (hr:cB h (l.map (cellsOf enc)).flatten (cur.toList.take (l.length*k))) :
  HoldsK enc k w g 0 l.toArray:=by
 rw [L1] at hr;have hcur:=Vz hr;intro t ht;rw [size_flatK] at ht;have ht':t<l.length*k:=by simpa using ht
 obtain ⟨c1,c2⟩:=o9 (o:=0+t) hw;refine ⟨?_,c2⟩;rw [c1,rW];have h1:cur.toList[t]?=(l.flatMap enc)[t]?:=by
  rw [←hcur,AI,if_pos ht']
 rw [PW hk l t ht'] at h1;rw [get_flatK _ _ _ _ ht,←Lz];simpa using h1
def Rm {w:World} {g m:Nat} {cur:Array Value} {E:TypeId} {d:Array α} {os:Array Obj} (hk:∀ x,(enc x).length=k) (hw:w.heap[g]?=some (.cells cur E (0,0))) (hs:d.size*k≤cur.size) :
  (∀ b,b<w.heap.size→b≠g→(sortWorldK enc k w g 0 m d os).heap[b]?=w.heap[b]?) ∧
  (∃ cur',(sortWorldK enc k w g 0 m d os).heap[g]?=some (.cells cur' E (0,0))∧cur'.size=cur.size∧cur'.toList.take (d.size*k)=d.toList.flatMap enc)∧w.heap.size≤(sortWorldK enc k w g 0 m d os).heap.size:=by
 have hlt:g<w.heap.size:=by
  rcases bY g w.heap.size with hh | hh
  ·exact hh
  ·rw [GA hh] at hw;simp at hw
 have hheap:(sortWorldK enc k w g 0 m d os).heap=w.heap.modify g (onCells (putCells id 0 (flatK enc k d)))++os:=rfl;rw [hheap];refine ⟨λb hb hne=>?_,⟨putCells id 0 (flatK enc k d) cur,?_,?_,?_⟩,?_⟩
 ·rw [Ur (by simpa using hb),Uy,if_neg (λe=>hne e.symm)]
 ·rw [Ur (by simpa using hlt),Uy,if_pos rfl,hw];rfl
 ·simp [putCells]
 ·rw [←Ts hk];apply BV;intro t;rw [AI];split
  ·rename_i ht;have h1:t<cur.size:=CU ht hs;have h2:t<(flatK enc k d).size:=by rw [size_flatK];exact ht
   rw [fV (by simpa [putCells] using h1),fV (by simpa using h2)];simp only [putCells,Array.getElem_toList,Array.getElem_mapIdx];rw [if_pos ⟨xC _,by omega⟩,E4,id,getElem!_pos _ t h2]
  ·rename_i ht;rw [gV (by simpa using ht)]
 ·simp
def aCo {ρ:Ren} (L:SlLaysF0.n6 P ρ) (aE:∀ w,(isAgg (ρ.t 24)).run P w=.ok true w) (zE:∀ w,(Go.sizeOf (ρ.t 24)).run P w=.ok k w) (hk:∀ x,(enc x).length=k) (h1:∀ x,∀ v∈enc x,v.oneCell'=true) (hcl:∀ x,∀ c∈cellsOf enc x,bB c=true)
  {cf:α→α→Int} (hO:SWO (ltOf cf)) (hT:∀ x y,(ltOf cf) x y=false→(ltOf cf) y x=false→x=y) {g:Nat} (eg:∀ args w,(callFunc g args).run P w=.ok (.enter g args) w) (eS:∀ args w,(callFunc (ρ.f 6) args).run P w=.ok (.enter (ρ.f 6) args) w) {G:Nat→Option (List AV)}
  (hcmp:∀ x y,aC P G g [.ag (cellsOf enc x),.ag (cellsOf enc y)] [] λr T=>r=.v (.int .i64 (cf x y))∧T=[]) (l:List α) (hl:l.length<4611686018427387904) :
  aC P G (ρ.f 6) [.own 0,.cl g []] [some (.arr k (l.map (cellsOf enc)))] λr T=>r=.tup []∧T=[some (.arr k ((l.mergeSort λx y=>!(ltOf cf) y x).map (cellsOf enc)))]:=by
 intro h φ w vals hG hI hA;refine .inl ⟨eS _ _,?_⟩;simp only [bW] at hA;obtain ⟨u0,us0,hv0,hA0,u1,us1,rfl,hA1,rfl⟩:=hA;simp only [Rp] at hA0 hA1;obtain ⟨_,rfl,_⟩:=hA0;obtain ⟨us,rfl,hus⟩:=hA1;simp only [bW] at hus;have hus':us=#[]:=by simpa using hus
 subst hus';obtain rfl:vals=#[φ 0,.func (.func g) #[] #[]]:=by apply CV.1;simpa using hv0
 obtain ⟨hc,hobj⟩:=hI.obj 0 _ rfl;have hperm:=U3 l (λx y=>!(ltOf cf) y x);have hlen:(l.mergeSort λx y=>!(ltOf cf) y x).length=l.length:=hperm.length_eq;rcases hobj with ⟨A0,e0,hnil⟩ | ⟨b,c,cur,E,e0,e1,e2,e3,e4,e5,e6⟩
 ·have:l=[]:=by simpa using hnil
  subst this;rw [e0];refine (AnyF.slices_SortFunc_none L A0 0 (.func (.func g) #[] #[]) w).mono ?_;rintro e w' ⟨rfl,rfl⟩;have e0':([]:List α).mergeSort (λx y=>!(ltOf cf) y x)=[]:=List.mergeSort_nil;rw [e0'];exact ⟨_,rfl,.tup [],_,h,φ,⟨rfl,rfl⟩,Evo.refl,hI,by simp only [Rp];exact ⟨#[],rfl,by simp [bW]⟩⟩
 ·rw [e0];rw [aL] at e2 e6 ⊢;have hb:b<w.heap.size:=by
   rcases bY b w.heap.size with hh | hh
   ·exact hh
   ·rw [GA hh] at e1;simp at e1
  have hH:=aA0 hk e1 e6;have hsz:l.length*k≤cur.size:=by rw [e4];exact Mr k e2
  have hgh:∀ b' cs,h b'=some cs→b'≠b:=λb' cs e he=>by rw [he,e5] at e;simp at e
  have hC:CmpLays P g #[] enc k cf b 0 l.toArray.size w:=by
   intro m os dk hdk x y;obtain ⟨s1,⟨cur',s2,s3,s4⟩,s5⟩:=Rm (m:=m) (os:=os) (d:=dk) hk e1 (by rw [hdk];simpa using hsz)
   have hI':Inv h φ (sortWorldK enc k w b 0 m dk os) []:=⟨λb' cs e=>by
    obtain ⟨E',fr,hw'⟩:=hI.gh b' cs e;have hb':b'<w.heap.size:=by
     rcases bY b' w.heap.size with hh | hh
     ·exact hh
     ·rw [GA hh] at hw';simp at hw'
    exact ⟨E',fr,by rw [s1 b' hb' (hgh b' cs e)];exact hw'⟩,λi o e=>by simp at e,λi j oi oj b e=>by simp at e⟩
   have hargs:bW h φ 0 [.ag (cellsOf enc x),.ag (cellsOf enc y)] (#[Value.agg (enc x).toArray,.agg (enc y).toArray]++#[]:Array Value).toList:=by
    have key:∀ l:List Value,bW h φ 0 (l.map .v) l:=by
     intro l
     induction l with
     | nil=>simp [bW]
     | cons c l ih=>simp only [cN,bW];exact ⟨c,l,rfl,by simp [Rp],ih⟩
    simp only [bW];exact ⟨_,_,rfl,by simp only [Rp];exact ⟨_,rfl,key (enc x)⟩,_,_,rfl,by simp only [Rp];exact ⟨_,rfl,key (enc y)⟩,rfl⟩
   rcases hcmp x y h φ _ _ hG hI' hargs with ⟨_,hc⟩ | ⟨v,w',hc,_⟩
   ·refine hc.mono ?_;rintro e w' ⟨v,rfl,r,T',h',φ',⟨rfl,rfl⟩,hE,hI2,hv⟩;simp only [Rp] at hv;subst hv;refine ⟨rfl,w'.drawn-(sortWorldK enc k w b 0 m dk os).drawn,w'.heap.extract (sortWorldK enc k w b 0 m dk os).heap.size w'.heap.size,?_⟩;have hd:=hE.drawn;have hheap:w'.heap=(sortWorldK enc k w b 0 m dk os).heap++w'.heap.extract (sortWorldK enc k w b 0 m dk os).heap.size w'.heap.size:=by
     apply Array.ext_getElem?;intro i;rcases bY i (sortWorldK enc k w b 0 m dk os).heap.size with hi | hi
     ·rw [Ur hi,hE.frame i hi (λj o e=>by simp at e)]
     ·rw [Array.getElem?_append_right hi];have:=hE.size;rw [Array.getElem?_extract];split
      ·congr 1;omega
      ·rw [GA (by omega)]
    have e7:=hE.os;have e8:=hE.tape;have e9:=hE.output;revert hd hheap e7 e8 e9;generalize sortWorldK enc k w b 0 m dk os=W;intro hd hheap e7 e8 e9;obtain ⟨hp,tp,dr,o,op⟩:=w';simp only at hheap hd e7 e8 e9;subst e7;subst e8;subst e9;simp only [Go.Sort.grow,World.drewN];rw [←hheap];congr 1;omega
   ·rw [eg] at hc;simp at hc
  refine (AnyQ.slices_SortFunc_total L k aE zE enc hk h1 cf hO g #[] b 0 (c+1) l.toArray w eg hC hH hb (by simpa using hl) hT).mono ?_;rintro e w' ⟨rfl,n,os,rfl⟩;generalize (l.mergeSort λx y=>!(ltOf cf) y x)=l' at hlen;obtain ⟨s1,⟨cur',s2,s3,s4⟩,s5⟩:=Rm (m:=n) (os:=os) (d:=l'.toArray) hk e1 (by simpa [hlen] using hsz);have:=D7 (w':=sortWorldK enc k w b 0 n l'.toArray os) (o':=.arr k (l'.map (cellsOf enc))) hI rfl rfl rfl s5 (i:=0) (o:=.arr k (l.map (cellsOf enc))) rfl
   (λb' hb' hne=>s1 b' hb' (λe=>hne (by rw [e0,e];rfl)))
   ⟨λx hx=>by
    obtain ⟨y,_,rfl⟩:=dE.1 hx
    exact ⟨by simp [cellsOf,hk],hcl y⟩,.inr ⟨b,c,cur',E,by rw [aL,hlen];simpa using e0,s2,by rw [aL,hlen];exact e2,e3,by rw [s3];exact e4,e5,by
     rw [aL,L1];simp only [IT] at s4;rw [s4]
     exact L0⟩⟩
   (Y5 _ _)
  exact ⟨_,rfl,.tup [],_,h,φ,⟨rfl,rfl⟩,this.2,this.1,by simp only [Rp];exact ⟨#[],rfl,by simp [bW]⟩⟩
end
end Hud
end
section
namespace Go.Proofs
open Go.Shelf
def Tryz.laysSortC_ren:Go.Shelf.Ren:=⟨fun | 6=>132 | 15=>202 | 14=>201 | 28=>256 | 29=>257 | 20=>248 | 21=>249 | 22=>250 | 23=>251 | 24=>252 | 25=>253 | 26=>254 | 27=>255 | 46=>314 | 47=>315 | 48=>316 | 49=>317 | 50=>318 | 57=>358 | n=>n,fun | 22=>25 | 24=>107 | 25=>181 | 3=>3 | 39=>159 | 0=>0 | 53=>297 | 55=>22 | 4=>4 | 46=>291 | 45=>290 | 50=>186 | 5=>5 | 9=>9 | 66=>331 | 70=>334 | 76=>364 | 77=>365 | n=>n,fun | n=>n⟩
def Tryz.laysSortC:Go.Proofs.SlLaysF0.n6 Tryz.prog Tryz.laysSortC_ren:={
 mixed:=by kernel_rfl
 f6:=⟨Tryz.f132.name,by decide,Tryz.func132.trans (congrArg some (by kernel_rfl))⟩
 f14:=⟨Tryz.f201.name,by decide,Tryz.func201.trans (congrArg some (by kernel_rfl))⟩
 f15:=Tryz.func202.trans (congrArg some (by kernel_rfl))
 f20:=⟨Tryz.f248.name,by decide,Tryz.func248.trans (congrArg some (by kernel_rfl))⟩
 f21:=⟨Tryz.f249.name,by decide,Tryz.func249.trans (congrArg some (by kernel_rfl))⟩
 f22:=⟨Tryz.f250.name,by decide,Tryz.func250.trans (congrArg some (by kernel_rfl))⟩
 f23:=⟨Tryz.f251.name,by decide,Tryz.func251.trans (congrArg some (by kernel_rfl))⟩
 f24:=⟨Tryz.f252.name,by decide,Tryz.func252.trans (congrArg some (by kernel_rfl))⟩
 f25:=⟨Tryz.f253.name,by decide,Tryz.func253.trans (congrArg some (by kernel_rfl))⟩
 f26:=⟨Tryz.f254.name,by decide,Tryz.func254.trans (congrArg some (by kernel_rfl))⟩
 f27:=⟨Tryz.f255.name,by decide,Tryz.func255.trans (congrArg some (by kernel_rfl))⟩
 f28:=Tryz.func256.trans (congrArg some (by kernel_rfl))
 f29:=Tryz.func257.trans (congrArg some (by kernel_rfl))
 f46:=⟨Tryz.f314.name,by decide,Tryz.func314.trans (congrArg some (by kernel_rfl))⟩
 f47:=Tryz.func315.trans (congrArg some (by kernel_rfl))
 f48:=Tryz.func316.trans (congrArg some (by kernel_rfl))
 f49:=⟨Tryz.f317.name,by decide,Tryz.func317.trans (congrArg some (by kernel_rfl))⟩
 f50:=⟨Tryz.f318.name,by decide,Tryz.func318.trans (congrArg some (by kernel_rfl))⟩
 f57:=⟨Tryz.f358.name,by decide,Tryz.func358.trans (congrArg some (by kernel_rfl))⟩
 t0:=Tryz.underlying0
 a0:=Tryz.isAgg0
 z0:=Tryz.sizeOf0
 v0:=Tryz.zeroValue0
 t3:=Tryz.underlying3
 a3:=Tryz.isAgg3
 z3:=Tryz.sizeOf3
 v3:=Tryz.zeroValue3
 t4:=Tryz.underlying4
 a4:=Tryz.isAgg4
 z4:=Tryz.sizeOf4
 v4:=Tryz.zeroValue4
 t5:=Tryz.underlying5
 a5:=Tryz.isAgg5
 z5:=Tryz.sizeOf5
 v5:=Tryz.zeroValue5
 t9:=Tryz.underlying9
 a9:=Tryz.isAgg9
 z9:=Tryz.sizeOf9
 v9:=Tryz.zeroValue9
 t22:=Tryz.underlying25
 a22:=Tryz.isAgg25
 z22:=Tryz.sizeOf25
 v22:=Tryz.zeroValue25
 t25:=Tryz.underlying181
 a25:=Tryz.isAgg181
 z25:=Tryz.sizeOf181
 v25:=Tryz.zeroValue181
 t39:=Tryz.underlying159
 a39:=Tryz.isAgg159
 z39:=Tryz.sizeOf159
 v39:=Tryz.zeroValue159
 t45:=Tryz.underlying290
 a45:=Tryz.isAgg290
 z45:=Tryz.sizeOf290
 v45:=Tryz.zeroValue290
 t46:=Tryz.underlying291
 a46:=Tryz.isAgg291
 z46:=Tryz.sizeOf291
 v46:=Tryz.zeroValue291
 t50:=Tryz.underlying186
 a50:=Tryz.isAgg186
 z50:=Tryz.sizeOf186
 v50:=Tryz.zeroValue186
 t53:=Tryz.underlying297
 a53:=Tryz.isAgg297
 z53:=Tryz.sizeOf297
 v53:=Tryz.zeroValue297
 t55:=Tryz.underlying22
 a55:=Tryz.isAgg22
 z55:=Tryz.sizeOf22
 v55:=Tryz.zeroValue22
 t66:=Tryz.underlying331
 a66:=Tryz.isAgg331
 z66:=Tryz.sizeOf331
 v66:=Tryz.zeroValue331
 t70:=Tryz.underlying334
 a70:=Tryz.isAgg334
 z70:=Tryz.sizeOf334
 v70:=Tryz.zeroValue334
 t76:=Tryz.underlying364
 a76:=Tryz.isAgg364
 z76:=Tryz.sizeOf364
 v76:=Tryz.zeroValue364
 t77:=Tryz.underlying365
 a77:=Tryz.isAgg365
 z77:=Tryz.sizeOf365
 v77:=Tryz.zeroValue365 }
end Go.Proofs
end
