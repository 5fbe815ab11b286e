import Derived.Test.YthlndebkfkanbaaGreatDoorLib24
set_option linter.all false
namespace Hud
open Go
section
def aCS {g:PGM} (hg:g.ok) (l:List Id):0≤yP g l∧yP g l≤g.nodes.length+1:=by
 have key:∀ (l:List Id) (m:Int),0≤m→m≤g.nodes.length+1→0≤l.foldl (λm x=>max m ((g.nd x).lv+1)) m∧l.foldl (λm x=>max m ((g.nd x).lv+1)) m≤g.nodes.length+1:=by
  intro l
  induction l with
  | nil=>exact λm h0 h1=>⟨h0,h1⟩
  | cons x l ih =>
   intro m h0 h1;have hx:0≤(g.nd x).lv∧(g.nd x).lv≤g.nodes.length:=by
    unfold PGM.nd;rw [fG];rcases bY (g.at x) g.nodes.length with h | h
    ·rw [fV h];exact hg.lv _ (jY h)
    ·rw [gV h];simp [P6]
   exact ih (max m ((g.nd x).lv+1)) (by omega) (by omega)
 exact key l 1 (by omega) (by omega)
def aAQ {g:PGM} (hg:g.ok) (o:OpM):HF (wA g o):=P3 (HI hg _) (HH _ _)
def UO (g:PGM) (o:OpM):(wS g o).1=g∨(wS g o).1=⟨g.cards,g.nodes++[⟨o,Af o,wA g o,yP g o.Past⟩]⟩∧g.nodes.length<200:=by
 unfold wS OR SP
 repeat' (first | split | (exact .inl rfl))
 all_goals first
  | exact .inl rfl
  | exact .inr ⟨rfl,by omega⟩
def aCT {g:PGM} {o:OpM} (hg:g.ok) (ho:o.ok) (hid:(Af o).ok):(wS g o).1.ok:=by
 rcases UO g o with h | ⟨h,hl⟩<;>rw [h]
 ·exact hg
 ·have hlv:=aCS hg o.Past;refine ⟨by simp;omega,hg.cn,hg.cs,?_,?_,?_,?_⟩<;>intro x hx<;>simp only [eO,gZ] at hx<;>rcases hx with hx | rfl
  ·exact hg.ops x hx
  ·exact ho
  ·exact hg.ids x hx
  ·exact hid
  ·exact hg.ws x hx
  ·exact aAQ hg o
  ·have:=hg.lv x hx;simp only [dU,QX];omega
  ·simp only [dU,QX];omega
def rN (cs:List CardM) (l:List OpM):PGM:=l.foldl (λp o=>(wS p o).1) ⟨vU cs,[]⟩
def P8 (cs:List CardM) (l:List OpM) (o:OpM):rN cs (l++[o])=(wS (rN cs l) o).1:=by simp [rN]
def P9 {cs:List CardM} (hc:cardsOk cs):∀ (l:List OpM),(∀ o∈l,o.ok∧(Af o).ok)→(rN cs l).ok:=by
 have h0:(⟨vU cs,[]⟩:PGM).ok:=⟨by simp,by show (vU cs).length≤1000;rw [UM];exact hc.n,λc h=>hc.cs c (yJ.1 h),by simp,by simp,by simp,by simp⟩
 have key:∀ (l:List OpM) (p:PGM),p.ok→(∀ o∈l,o.ok∧(Af o).ok)→(l.foldl (λp o=>(wS p o).1) p).ok:=by
  intro l
  induction l with
  | nil=>exact λp h _=>h
  | cons o l ih=>exact λp h ha=>ih _ (aCT h (ha o (by simp)).1 (ha o (by simp)).2) (λx hx=>ha x (by simp [hx]))
 exact λl ha=>key l _ h0 ha
section
variable {G:Nat→Option (List AV)}
set_option maxHeartbeats 4000000
def aF7 (hK:GK G) (g:GM) (hg:g.ok) (hc:cardsOk g.Cards) (hids:∀ o∈g.L,(Af o).ok) (hA:∀ i (h:i<g.L.length),(wS (rN g.Cards (g.L.take i)) g.L[i]).2=0):aC PQ G Gn [.ag g.A] [] λr T=>r=.ptr 0 0∧T=TG 0 (rN g.Cards g.L):=by
 refine aF Rd (by decide) ?_;have hn:=hg.n;have hok:∀ i,(rN g.Cards (g.L.take i)).ok:=λi=>P9 hc _ λo ho=>⟨hg.ops o (CS ho),hids o (CS ho)⟩
 simp only [go_sem];refine aS (aA _) rfl (aGJ g.Cards hc) ?_;simp only [go_sem,MG,eQ,KS,kI];refine aO g.L.length (λi=>⟨0,[(1,.ptr 0 0),(3,.ptr 1 0),(4,iv i)],some (.box g.A)::TG 1 (rN g.Cards (g.L.take i))⟩) (λ_=>True) ?_ trivial ?_ ?_
 ·simp only [go_sem,TG,MG,mL,rN,Ez,PGM.I,eQ,KS,kI]
 ·intro i hi _;have ws:=aG (show i<9223372036854775807 by omega);have g0:(g.L.map OpM.A)[i]?=some g.L[i].A:=aP _ g.L i hi;have ho:=hg.ops _ (jY hi);have hz:=hA i hi;have ft:rN g.Cards (g.L.take (i+1))=(wS (rN g.Cards (g.L.take i)) g.L[i]).1:=by rw [oT hi,P8]
  have hp:=hok i;simp only [go_sem,TG,MG,aL,aT hi,hi,g0];generalize rN g.Cards (g.L.take (i+1))=p2 at *
  generalize rN g.Cards (g.L.take i)=p at *
  generalize g.L[i]=o at *
  subst ft;refine aI (T2:=TG 0 p) [1,2,3] (aA _) (by decide) (by simp) rfl (by simp only [go_sem,TG,MG]) (aF4 hK p o hp ho) ?_;rintro r T' ⟨rfl,hT⟩;rw [hz];rcases hT with ⟨rfl,he⟩ | rfl
  ·simp only [go_sem,TG,MG,ws]
  ·simp only [go_sem,TG,TH,MG,ws]
 intro _;simp only [go_sem,TG,MG,aL,aX (cZ _),kH]
end
end
section
inductive RU (Up:List (List Nat)) (up:List Nat):Nat→Prop
 | base {k:Nat}:k∈up→RU Up up k
 | step {j k:Nat}:RU Up up j→k∈Up.getD j []→RU Up up k
def RU.tail {Up:List (List Nat)} {up:List Nat} {k:Nat}:RU Up up k↔k∈up∨∃ j,RU Up up j∧k∈Up.getD j []:=by
 constructor
 ·intro h
  cases h with
  | base h=>exact .inl h
  | step h1 h2=>exact .inr ⟨_,h1,h2⟩
 ·rintro (h | ⟨j,h1,h2⟩)
  ·exact .base h
  ·exact .step h1 h2
def RU.head {Up:List (List Nat)} {up:List Nat} {k:Nat}:RU Up up k↔k∈up∨∃ i∈up,RU Up (Up.getD i []) k:=by
 constructor
 ·intro h
  induction h with
  | base h=>exact .inl h
  | step h1 h2 ih =>
   rcases ih with ih | ⟨i,hi,ih⟩
   ·exact .inr ⟨_,ih,.base h2⟩
   ·exact .inr ⟨i,hi,.step ih h2⟩
 ·rintro (h | ⟨i,hi,h⟩)
  ·exact .base h
  ·induction h with
   | base h=>exact .step (.base hi) h
   | step h1 h2 ih=>exact .step ih h2
def RU.lt {Up:List (List Nat)} {up:List Nat} {n:Nat} (hu:∀ k∈up,k<n) (hU:∀ i,∀ k∈Up.getD i [],k<i) {k:Nat} (h:RU Up up k):k<n:=by
 induction h with
 | base h=>exact hu _ h
 | step h1 h2 ih=>have:=hU _ _ h2;omega
def SV (a:List Bool) (i k:Nat) (h:i<a.length):(a.set i true).getD k false=(decide (k=i)||a.getD k false):=by
 rw [fG,fG,Ec];by_cases e:i=k
 ·subst e;simp [h]
 ·rw [if_neg e,decide_eq_false (λh=>e h.symm),Ci]
def X6 (u:List Nat) (a:List Bool) (h:∀ k∈u,k<a.length) (k:Nat):(u.foldl (λb k=>b.set k true) a).getD k false=(decide (k∈u)||a.getD k false):=by
 induction u generalizing a with
 | nil=>simp
 | cons x u ih =>
  rw [HO,ih _ (λk hk=>by rw [mA];exact h k (by simp [hk])),SV _ _ _ (h x (by simp))];rw [oU];simp only [HR,decide_eq_true_eq,gK];constructor
  ·rintro (h | h | h)
   ·exact .inl (.inr h)
   ·exact .inl (.inl h)
   ·exact .inr h
  ·rintro ((h | h) | h)
   ·exact .inr (.inl h)
   ·exact .inl h
   ·exact .inr (.inr h)
def UP (Up:List (List Nat)) (up:List Nat) (a:List Bool) (i:Nat) (hi:i<a.length) (hU:∀ k∈Up.getD i [],k<i) (k:Nat) :
  ((L3 Up up a i).getD k false=true)↔(a.getD k false=true∨(k=i∧i∈up)∨((a.getD i false=true∨i∈up)∧k∈Up.getD i [])):=by
 have hs:∀ k,((if decide (i∈up) then a.set i true else a).getD k false=true)↔(a.getD k false=true∨(k=i∧i∈up)):=by
  intro k;by_cases h:i∈up
  ·rw [if_pos (decide_eq_true h),SV _ _ _ hi];simp [h,or_comm]
  ·rw [if_neg (by simp [h])];simp [h]
 have hl:(if decide (i∈up) then a.set i true else a).length=a.length:=by split<;>simp
 unfold L3;generalize (if decide (i∈up) then a.set i true else a)=b at *
 by_cases hb:b.getD i false=true
 ·rw [if_pos hb,X6 _ _ (λk hk=>by rw [hl];have:=hU k hk;omega),HR,hs,decide_eq_true_eq];have:=(hs i).1 hb;constructor
  ·rintro (h | h | h)
   ·exact .inr (.inr ⟨this.imp id (·.2),h⟩)
   ·exact .inl h
   ·exact .inr (.inl h)
  ·rintro (h | h | h)
   ·exact .inr (.inl h)
   ·exact .inr (.inr h)
   ·exact .inl h.2
 ·rw [if_neg hb,hs];have:¬(a.getD i false=true∨i∈up):=λh=>hb ((hs i).2 (h.imp id λh=>⟨rfl,h⟩));constructor
  ·rintro (h | h)
   ·exact .inl h
   ·exact .inr (.inl h)
  ·rintro (h | h | h)
   ·exact .inl h
   ·exact .inr h
   ·exact absurd h.1 this
def MS (Up:List (List Nat)) (up:List Nat) (n:Nat) (hu:∀ k∈up,k<n) (hU:∀ i,∀ k∈Up.getD i [],k<i):∀ (i:Nat) (a:List Bool),a.length=n→i≤n →
  (∀ k,i≤k→((a.getD k false=true)↔RU Up up k))→(∀ k,k<i→((a.getD k false=true)↔∃ j,i≤j∧RU Up up j∧k∈Up.getD j []))→∀ k,((Ir Up up i a).getD k false=true)↔RU Up up k
 | 0,a,_,_,h1,_=>λk=>h1 k (by omega)
 | i+1,a,ha,hi,h1,h2=>by
  have hs:=UP Up up a i (by omega) (hU i);have hri:(a.getD i false=true∨i∈up)↔RU Up up i:=by
   rw [h2 i (by omega),RU.tail];constructor
   ·rintro (⟨j,_,h3,h4⟩ | h)
    ·exact .inr ⟨j,h3,h4⟩
    ·exact .inl h
   ·rintro (h | ⟨j,h3,h4⟩)
    ·exact .inr h
    ·exact .inl ⟨j,by have:=hU j i h4;omega,h3,h4⟩
  refine MS Up up n hu hU i (L3 Up up a i) (by rw [OK];exact ha) (by omega) ?_ ?_
  ·intro k hk;rw [hs];rcases bY k (i+1) with h | h
   ·obtain rfl:k=i:=by omega
    rw [←hri];constructor
    ·rintro (h | h | h)
     ·exact .inl h
     ·exact .inr h.2
     ·exact absurd (hU _ _ h.2) (cZ _)
    ·rintro (h | h)
     ·exact .inl h
     ·exact .inr (.inl ⟨rfl,h⟩)
   ·rw [h1 k h];constructor
    ·rintro (h3 | h3 | h3)
     ·exact h3
     ·omega
     ·have:=hU _ _ h3.2;omega
    ·exact .inl
  ·intro k hk;rw [hs,h2 k (by omega),hri];constructor
   ·rintro (⟨j,h3,h4,h5⟩ | h3 | h3)
    ·exact ⟨j,by omega,h4,h5⟩
    ·omega
    ·exact ⟨i,fW _,h3.1,h3.2⟩
   ·rintro ⟨j,h3,h4,h5⟩;rcases bY i j with h | h
    ·exact .inl ⟨j,h,h4,h5⟩
    ·obtain rfl:j=i:=by omega
     exact .inr (.inr ⟨h4,h5⟩)
def MT (g:GM) (up:List Nat) (hu:∀ k∈up,k<g.L.length) (hU:∀ i,∀ k∈g.Up.getD i [],k<i) (k:Nat):((nB g up).getD k false=true)↔RU g.Up up k:=by
 refine MS g.Up up g.L.length hu hU _ _ (by simp) (fW _) ?_ ?_ k
 ·intro k hk;constructor
  ·intro h;rw [fG,gV (by simp;omega)] at h;exact absurd h (by decide)
  ·intro h;have:=h.lt hu hU;omega
 ·intro k hk;constructor
  ·intro h;rw [fG,Ye,if_pos hk] at h;exact absurd h (by decide)
  ·rintro ⟨j,h1,h2,_⟩;have:=h2.lt hu hU;omega
def RU.more {Up:List (List Nat)} {u up:List Nat} {k:Nat} (hu:∀ k∈up,k<Up.length) (hU:∀ i,∀ k∈Up.getD i [],k<i):RU (Up++[u]) up k↔RU Up up k:=by
 have hg:∀ j,j<Up.length→(Up++[u]).getD j []=Up.getD j []:=λj hj=>by
  rw [fG,fG,Eb hj]
 constructor
 ·intro h
  induction h with
  | base h=>exact .base h
  | step h1 h2 ih=>exact .step ih (by rwa [hg _ (ih.lt hu hU)] at h2)
 ·intro h
  induction h with
  | base h=>exact .base h
  | step h1 h2 ih=>exact .step ih (by rwa [hg _ (h1.lt hu hU)])
end
section
def aAR (W V:List Nat) (h:W.length=V.length) (i:Nat):(Iw W V).getD i 0=W.getD i 0 ||| V.getD i 0:=by
 unfold Iw;rw [fG,fG,fG,Yg];rcases bY i W.length with hi | hi
 ·rw [fV hi,fV (by omega)];rfl
 ·rw [gV hi,gV (by omega)];rfl
def X7 (W V:List Nat) (h:W.length=V.length) (i:Nat):(BQ W V).getD i 0=W.getD i 0 &&& V.getD i 0:=by
 unfold BQ;rw [fG,fG,fG,Yg];rcases bY i W.length with hi | hi
 ·rw [fV hi,fV (by omega)];rfl
 ·rw [gV hi,gV (by omega)];rfl
def WJ {W V:List Nat} (hW:HF W) (hV:HF V) (k:Nat):qJ (Iw W V) k=(qJ W k||qJ V k):=by
 unfold qJ;rw [aAR W V (by rw [hW.1,hV.1]),VJ]
def WK (k:Nat):qJ z4 k=false:=by
 unfold qJ;have:z4.getD (k/64) 0=0:=by
  unfold z4;rcases k/64 with _ | _ | _ | _ | n<;>rfl
 rw [this,Qj]
def aAS {W:List Nat} (hW:HF W) (n k:Nat) (hn:n<256):qJ (NR W n) k=(decide (k=n)||qJ W k):=by
 unfold qJ NR;have hl:n/64<W.length:=by rw [hW.1];omega
 by_cases e:k/64=n/64
 ·rw [e,fG,List.getElem?_set_self hl,KL,VJ,Nat.testBit_two_pow,Bool.or_comm];congr 1;rw [oU];simp only [decide_eq_true_eq];omega
 ·rw [fG,List.getElem?_set_ne (λh=>e h.symm),←fG,decide_eq_false (λh=>e (by rw [h])),Ci]
def X8 {W V:List Nat} (hW:HF W) (hV:HF V) (h:∀ k,k<256→qJ W k=true→qJ V k=false):BQ W V=z4:=by
 have hl:=ST hW hV;refine VC (by rw [hl];rfl) λi hi _=>?_;have hi4:i<4:=by omega
 have hz:z4[i]'(by simpa [z4] using hi4)=0:=by
  unfold z4;rcases i with _ | _ | _ | _ | i<;>first | rfl | omega
 rw [hz];have e:=X7 W V (by rw [hW.1,hV.1]) i;rw [fG,fV hi,KL] at e;rw [e];refine Yn λb=>?_;rw [Nat.testBit_and,Qj];rcases bY b 64 with hb | hb
 ·have h1:(64*i+b)/64=i:=by omega
  have h2:(64*i+b)%64=b:=by omega
  have:=h (64*i+b) (by omega);unfold qJ at this;rw [h1,h2] at this;cases hx:(W.getD i 0).testBit b
  ·rfl
  ·rw [this hx];rfl
 ·rw [Nat.testBit_lt_two_pow (CU (AA hW i) (show 18446744073709551616≤2^b from Ms (n:=2) (i:=64) (by omega) hb))];rfl
def aAT (g:PGM) (hn:g.nodes.length≤200) (l:List Id) (hl:∀ x∈l,g.at x<256) (k:Nat):(qJ (F3 g l) k=true)↔∃ x∈l,g.at x=k:=by
 have key:∀ (l:List Id) (W:List Nat),HF W→(∀ x∈l,g.at x<256)→((qJ (l.foldl (λW x=>NR W (g.at x)) W) k=true)↔(qJ W k=true∨∃ x∈l,g.at x=k)):=by
  intro l
  induction l with
  | nil=>intro W _ _;simp
  | cons x l ih =>
   intro W hW hx;rw [HO,ih _ (WF hW _) (λy hy=>hx y (by simp [hy])),aAS hW _ _ (hx x (by simp)),HR,decide_eq_true_eq];simp only [gK,exists_eq_or_imp];constructor
   ·rintro ((h | h) | h)
    ·exact .inr (.inl h.symm)
    ·exact .inl h
    ·exact .inr (.inr h)
   ·rintro (h | h | h)
    ·exact .inl (.inr h)
    ·exact .inl (.inl h.symm)
    ·exact .inr h
 unfold F3;rw [key l z4 MR hl,WK];simp
def aAU {g:PGM} (hg:g.ok) (l:List Id) (k:Nat):(qJ (Et g l) k=true)↔∃ x∈l,qJ (g.nd x).W k=true:=by
 have key:∀ (l:List Id) (W:List Nat),HF W→((qJ (l.foldl (λW x=>Iw W (g.nd x).W) W) k=true)↔(qJ W k=true∨∃ x∈l,qJ (g.nd x).W k=true)):=by
  intro l
  induction l with
  | nil=>intro W _;simp
  | cons x l ih =>
   intro W hW;rw [HO,ih _ (P3 hW (SQ hg x)),WJ hW (SQ hg x),HR];simp only [gK,exists_eq_or_imp];rw [or_assoc]
 unfold Et;rw [key l z4 MR,WK];simp
def MU (g:PGM) (x:Id):g.at x=(aR g.I x).toNat:=by
 unfold PGM.at aR DK
 cases g.I.findIdx? (λy=>decide (y=x)) with
 | none=>rfl
 | some i=>simp
def nF (I:List Id) (x:Id):0≤aR I x↔x∈I:=by
 have:=B3 (λy=>decide (y=x)) I;unfold aR;have h2:(decide ((0:Int)≤DK (λy=>decide (y=x)) I)=true)↔x∈I:=by
  rw [this];simp
 simpa using h2
def aCU (g:PGM) (a:Int) (l:List Id) (h0:0≤a) (h:∀ x∈l,(g.nd x).o.At≤a):FI g l≤a:=by
 have key:∀ (l:List Id) (m:Int),m≤a→(∀ x∈l,(g.nd x).o.At≤a)→l.foldl (λm x=>max m (g.nd x).o.At) m≤a:=by
  intro l
  induction l with
  | nil=>exact λm h _=>h
  | cons x l ih =>
   intro m hm hx;have:=hx x (by simp);exact ih (max m (g.nd x).o.At) (by omega) (λy hy=>hx y (by simp [hy]))
 exact key l 0 h0 h
end
section
def rS (g:GM) (o:OpM):List Nat:=o.Past.map λx=>(aR g.I x).toNat
structure Acc (g:GM) (o:OpM):Prop where
 check:uD o=0
 twice:¬0≤aR g.I (Af o)
 full:g.L.length<200
 card:(jT g.Cards o.By).2=true
 sig:CD (jT g.Cards o.By).1.Sign o.B o.SR o.SS=true
 kind:((o.Kind==1)&&decide (0<g.L.length))=false
 there:∀ x∈o.Past,0≤aR g.I x
 up:(eK g o).2=rS g o
 order:Fx g o (rS g o)=true
 right:Dk g.L o (nB g (rS g o))=true
def MV {g:GM} {o:OpM} (h:(eK g o).1=0):Acc g o:=by
 have h0:=h;unfold eK at h;split at h
 ·rename_i hc;exact absurd h hc
 rename_i hc;simp only [ne_eq,Decidable.not_not] at hc;have e0:eK g o=Dv g o:=by rw [eK,if_neg (by simp [hc])]
 unfold Dv at h;split at h
 ·simp at h
 rename_i h1;split at h
 ·simp at h
 rename_i h2;split at h
 ·simp at h
 rename_i h3;split at h
 ·simp at h
 rename_i h4;split at h
 ·simp at h
 rename_i h5;have e1:Dv g o=AY g o:=by rw [Dv,if_neg h1,if_neg h2,if_neg h3,if_neg h4,if_neg h5]
 unfold AY at h;by_cases hp:(o.Past.all λx=>decide (0≤aR g.I x))=true;rotate_left
 ·have:NK g.I o.Past=none:=by rw [NK,if_neg hp]
  rw [this] at h;simp at h
 have ep:NK g.I o.Past=some (rS g o):=by rw [NK,if_pos hp];rfl
 have e2:AY g o=yF g o (rS g o):=by rw [AY,ep]
 rw [ep] at h;simp only at h;unfold yF at h;split at h
 ·simp at h
 rename_i h6;split at h
 ·simp at h
 rename_i h7;exact ⟨hc,h1,by omega,by simpa using h3,by simpa using h4,by simpa using h5,by simpa using hp,by rw [e0,e1,e2,yF,if_neg h6,if_neg h7],by simpa using h6,by simpa using h7⟩
def Dy {g:GM} {o:OpM} (a:Acc g o) (h:(eK g o).1=0):(sZ g o).1=⟨g.Cards,g.L++[o],g.I++[Af o],g.Up++[rS g o],(g.In.map λr=>r++[false])++[nB g (rS g o)++[false]]⟩:=by
 rw [sZ,if_neg (by simp [h]),a.up]
structure GM.wf (g:GM):Prop where
 un:g.Up.length=g.L.length
 inn:g.In.length=g.L.length
 i:g.I.length=g.L.length
 up:∀ i,∀ k∈g.Up.getD i [],k<i
 past:∀ i,i<g.L.length→∀ k,((g.In.getD i []).getD k false=true)↔RU g.Up (g.Up.getD i []) k
def aF8 (cs:List CardM):(⟨cs,[],[],[],[]⟩:GM).wf:=⟨rfl,rfl,rfl,by simp,by simp⟩
def UQ {g:GM} {o:OpM} (w:g.wf) (a:Acc g o):∀ k∈rS g o,k<g.L.length:=by
 intro k hk;obtain ⟨x,hx,rfl⟩:=dE.1 hk;have h1:=rM g.I x;have h2:=a.there x hx;have:=w.i;omega
def IK (l:List Bool) (k:Nat):(l++[false]).getD k false=l.getD k false:=by
 rw [fG,fG];rcases Y2 k l.length with h | h | h
 ·rw [Eb h]
 ·subst h;simp
 ·rw [gV (by simp;omega),gV (by omega)]
def mS {α:Type} (l:List α) (x d:α) (k:Nat) (h:k<l.length):(l++[x]).getD k d=l.getD k d:=by
 rw [fG,fG,Eb h]
def lF {α:Type} (l:List α) (x d:α):(l++[x]).getD l.length d=x:=by simp
def UR {α:Type} (l:List α) (x d:α) (k:Nat) (h:l.length<k):(l++[x]).getD k d=d:=by
 rw [fG,gV (by simp;omega)];rfl
def aAV {g:GM} (w:g.wf) (p:List Bool) (i:Nat) (h:i<g.L.length) (k:Nat):((((g.In.map λr=>r++[false])++[p]).getD i []).getD k false)=(g.In.getD i []).getD k false:=by
 have hi:i<g.In.length:=by rw [w.inn];exact h
 have e1:(g.In.map λr=>r++[false]).getD i []=g.In[i]++[false]:=by rw [fG,eD,fV hi];rfl
 have e2:g.In.getD i []=g.In[i]:=by rw [fG,fV hi];rfl
 rw [mS _ _ _ _ (by simpa using hi),e1,e2,IK]
def aF9 {g:GM} {o:OpM} (w:g.wf) (h:(eK g o).1=0):(sZ g o).1.wf:=by
 have a:=MV h;have hu:=UQ w a;rw [Dy a h];have hg:∀ i,i<g.L.length→(g.Up++[rS g o]).getD i []=g.Up.getD i []:=λi hi=>mS _ _ _ _ (by rw [w.un];exact hi);have hn:(g.Up++[rS g o]).getD g.L.length []=rS g o:=by rw [←w.un];exact lF _ _ _
 refine ⟨by simp [w.un],by simp [w.inn],by simp [w.i],?_,?_⟩
 ·intro i k hk;rcases Y2 i g.L.length with h1 | h1 | h1
  ·rw [hg i h1] at hk;exact w.up i k hk
  ·rw [h1,hn] at hk;rw [h1];exact hu k hk
  ·rw [UR _ _ _ _ (by rw [w.un];exact h1)] at hk;simp at hk
 ·intro i hi k;simp only [dU,QX] at hi;rcases bY i g.L.length with h1 | h1
  ·rw [hg i h1,aAV w _ i h1 k,RU.more (λk hk=>by rw [w.un];have:=w.up i k hk;omega) w.up];exact w.past i h1 k
  ·obtain rfl:i=g.L.length:=by omega
   rw [hn,RU.more (λk hk=>by rw [w.un];exact hu k hk) w.up,←MT g _ hu w.up];have:((g.In.map λr=>r++[false])++[nB g (rS g o)++[false]]).getD g.L.length []=nB g (rS g o)++[false]:=by
    have h2:g.L.length=(g.In.map λr=>r++[false]).length:=by simp [w.inn]
    rw [h2];exact lF _ _ _
   rw [this,IK]
structure Sim (p:PGM) (g:GM):Prop where
 c:∀ d,jT p.cards d=jT g.Cards d
 l:p.nodes.map (·.o)=g.L
 i:p.I=g.I
 w:∀ i,i<g.L.length→∀ k,k<256→qJ (p.nodes.getD i P6).W k=(g.In.getD i []).getD k false
def aCV {cs:List CardM} (hc:cardsOk cs):Sim ⟨vU cs,[]⟩ ⟨cs,[],[],[],[]⟩:=⟨λd=>UN hc d,rfl,rfl,by simp⟩
end
section
def iR (Up:List (List Nat)):Nat→List Int
 | 0=>[]
 | i+1=>iR Up i++[(Up.getD i []).foldl (λm k=>max m (1+(iR Up i).getD k 0)) 1]
def yK (Up:List (List Nat)):∀ i,(iR Up i).length=i
 | 0=>rfl
 | i+1=>by simp [iR,yK Up i]
def MW (f:Nat→Int) (b:Int):∀ (l:List Nat) (m:Int),(∀ k∈l,f k≤b)→m≤b→m≤l.foldl (λm k=>max m (f k)) m∧l.foldl (λm k=>max m (f k)) m≤b
 | [],m,_,hm=>⟨IZ _,hm⟩
 | k::l,m,h,hm=>by
  have:=MW f b l (max m (f k)) (λx hx=>h x (by simp [hx])) (Int.max_le.2 ⟨hm,h k (by simp)⟩);exact ⟨VO (Int.le_max_left _ _) this.1,this.2⟩
def QA (Up:List (List Nat)):∀ i,∀ x∈iR Up i,1≤x∧x≤i
 | 0,x,h=>by simp [iR] at h
 | i+1,x,h=>by
  simp only [iR,eO,gZ] at h;rcases h with h | rfl
  ·have:=QA Up i x h;omega
  ·have:=MW (λk=>1+(iR Up i).getD k 0) (((i+1:Nat)):Int) (Up.getD i []) 1 (λk _=>by
    rw [fG];rcases bY k (iR Up i).length with h | h
    ·rw [fV h];have:=QA Up i _ (jY h);simp only [KL];omega
    ·rw [gV h];simp only [Option.getD_none];omega) (by omega)
   exact this
def QB (Up:List (List Nat)) (i k:Nat):0≤(iR Up i).getD k 0∧(iR Up i).getD k 0≤i:=by
 rw [fG];rcases bY k (iR Up i).length with h | h
 ·rw [fV h];have:=QA Up i _ (jY h);simp only [KL];omega
 ·rw [gV h];simp only [Option.getD_none];omega
abbrev ivs (l:List Int):List (List AV):=l.map λx=>[iv x]
section
variable {G:Nat→Option (List AV)}
set_option maxHeartbeats 4000000
def aAX (g:GM) (hg:g.ok) (hw:∀ i,∀ k∈g.Up.getD i [],k<i):aC PQ G Bk [.ag g.A] [] λr T=>r=.ls 1 (ivs (iR g.Up g.L.length))∧T=[]:=by
 refine aC.fin (p:=λr T=>r=.own 0∧T=[some (.arr 1 (ivs (iR g.Up g.L.length)))]) (aF JD (by decide) ?_) [0] ?_;rotate_left
 ·rintro r T' ⟨rfl,rfl⟩;simp only [go_sem,kI]
 have hn:=hg.n;simp only [go_sem];refine aO g.L.length (λi=>⟨0,[(1,.ptr 0 0),(3,.own 1),(4,iv i)],[some (.box g.A),some (.arr 1 (ivs (iR g.Up i)))]⟩) (λ_=>True) ?_ trivial ?_ ?_
 ·simp only [go_sem];rfl
 ·intro i hi _;have ws:=aG (show i<9223372036854775807 by omega);have hun:=hg.un;have gu:(g.Up.map λl=>[OA l])[i]?=some [OA (g.Up.getD i [])]:=by rw [eD,fG,fV (by omega)];rfl
  have hmem:g.Up.getD i []∈g.Up:=by rw [fG,fV (show i<g.Up.length by omega)];exact jY _
  have hul:=(hg.up _ hmem).1;have hlt:=hw i;have hl:=yK g.Up i;have hb:=QB g.Up i;have hbd:∀ k,(List.foldl (λm k=>max m (1+(iR g.Up i).getD k 0)) 1 ((g.Up.getD i []).take k):Int)≤i+1∧1≤(List.foldl (λm k=>max m (1+(iR g.Up i).getD k 0)) 1 ((g.Up.getD i []).take k):Int):=λk=>by
   have:=MW (λk=>1+(iR g.Up i).getD k 0) ((i:Int)+1) ((g.Up.getD i []).take k) 1 (λx _=>by have:=hb x;show 1+(iR g.Up i).getD x 0≤_;omega) (by omega);exact ⟨this.2,this.1⟩
  rw [iR];generalize g.Up.getD i []=up at *
  generalize iR g.Up i=lv at *
  simp only [go_sem,aL,aT hi];refine aO up.length (λk=>⟨0,[(1,.ptr 0 0),(3,.own 1),(4,iv i),(5,iv ((up.take k).foldl (λm k=>max m (1+lv.getD k 0)) 1)),(6,iv k)],[some (.box g.A),some (.arr 1 (ivs lv))]⟩) (λ_=>True) ?_ trivial ?_ ?_
  ·simp only [go_sem,mL,Ez]
  ·intro k hk _;have wk:=aG (show k<9223372036854775807 by omega);have g0:(up.map λn:Nat=>[iv (n:Int)])[k]?=some [iv (up[k]:Int)]:=aP _ up k hk;have hki:up[k]<lv.length:=by rw [hl];exact hlt _ (jY hk)
   have g1:(ivs lv)[up[k]]?=some [iv (lv.getD up[k] 0)]:=by rw [eD,fG,fV hki];rfl
   have hf:=hbd k;have hx:=hb up[k];rw [xA _ _ up k hk];generalize (up.take k).foldl (λm k=>max m (1+lv.getD k 0)) 1=m at *
   generalize lv.getD up[k] 0=y at *
   have w1:IntKind.i64.wrap (1+y)=1+y:=aJ (by omega) (by omega);generalize up[k]=z at *
   simp only [go_sem,aL,hun,hi,gu,aT hk,hk,g0,hki,g1,w1,wk,mx]
  ·intro _;rw [kH];have:=(hbd up.length)
   simp only [go_sem,aL,hun,hi,gu,aX (cZ _),ws,gQ,hl,show i+1≤maxLen by unfold maxLen;omega,show (i+1)*8≤140737488355328 by omega]
 ·intro _;simp only [go_sem,aL,aX (cZ _)]
def X9 (g:GM) (x:Id) (hg:g.ok):aC PQ G C3 [.ag g.A,.ag x.A] [] λr T=>r=iv (aR g.I x)∧T=[]:=by
 refine aF LJ (by decide) ?_;simp only [go_sem];refine aB (aA _) rfl (wR g x hg) rfl ?_;simp only [go_sem]
def SW (lv:List Int) (I:List Id) (i k:Nat):Bool:=if lv.getD i 0=lv.getD k 0 then (I.getD i default).lt (I.getD k default) else decide (lv.getD i 0<lv.getD k 0)
def aCW (g:GM) (lv:List Int) (hg:g.ok) (hl:lv.length=g.L.length) (i k:Nat) (hi:i<g.L.length) (hk:k<g.L.length):aC PQ G C4 [.ag g.A,.ls 1 (ivs lv),iv i,iv k] [] λr T=>r=.v (.bool (SW lv g.I i k))∧T=[]:=by
 refine aF LL (by decide) ?_;have g1:(ivs lv)[i]?=some [iv (lv.getD i 0)]:=by rw [eD,fG,fV (by omega)];rfl
 have g2:(ivs lv)[k]?=some [iv (lv.getD k 0)]:=by rw [eD,fG,fV (by omega)];rfl
 have hI:=hg.i;have gi:(g.I.map Id.A)[i]?=some (g.I.getD i default).A:=by rw [eD,fG,fV (by omega)];rfl
 have gk:(g.I.map Id.A)[k]?=some (g.I.getD k default).A:=by rw [eD,fG,fV (by omega)];rfl
 unfold SW;generalize lv.getD i 0=a at *
 generalize lv.getD k 0=b at *
 generalize g.I.getD i default=x at *
 generalize g.I.getD k default=y at *
 simp only [go_sem,aL,hl,hi,hk,g1,g2];refine aM (λh=>?_) (λh=>?_)
 ·have hne:¬a=b:=by simpa using h
  simp only [go_sem,aL,hl,hi,hk,g1,g2,if_neg hne]
 ·have he:a=b:=by simpa using h
  simp only [go_sem,aL,hI,hi,hk,gi,gk];refine aB (aA _) rfl (Ft x y) rfl ?_;simp only [go_sem,if_pos he]
end
end
end Hud
