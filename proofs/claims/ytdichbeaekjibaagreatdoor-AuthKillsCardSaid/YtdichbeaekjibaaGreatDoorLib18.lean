import Derived.Test.YtdichbeaekjibaaGreatDoorLib17
set_option linter.all false
namespace Hud
open Go
section
def CardM.K (c:CardM):List Value:=[.int .i64 c.Device,.int .i64 c.Member,.int .u64 c.Lead,.int .u64 c.Keep,.int .u64 c.Sign]
def aDs (x y:CardM):Int:=x.Device-y.Device
def qH (l:List CardM):List CardM:=l.mergeSort λx y=>decide (x.Device≤y.Device)
structure cardsOk (l:List CardM):Prop where
 n:l.length≤1000
 ne:l≠[]
 cs:∀ c∈l,c.ok
 dv:∀ c∈l,0≤c.Device∧c.Device≤1000
 un:∀ c∈l,∀ d∈l,c.Device=d.Device→c=d
def xL {l:List CardM} {c:CardM}:c∈qH l↔c∈l:=(T4 l _).mem_iff
def TP (l:List CardM):(qH l).length=l.length:=(T4 l _).length_eq
def RQ {l:List CardM} (h:∀ c∈l,∀ d∈l,c.Device=d.Device→c=d) (x:Int) (c:CardM):l.find? (λc=>c.Device==x)=some c↔(c∈l∧c.Device=x):=by
 constructor
 ·grind
 ·rintro ⟨hm,hd⟩
  cases e:l.find? (λc=>c.Device==x) with
  | none=>exact absurd (Ls.1 e c hm) (by simp [hd])
  | some d =>
   grind
def TQ {l:List CardM} (h:cardsOk l) (d:Int):eK (qH l) d=eK l d:=by
 have:(qH l).find? (λc=>c.Device==d)=l.find? (λc=>c.Device==d):=by
  cases e:l.find? (λc=>c.Device==d) with
  | none =>
   rw [Ls] at e ⊢;intro c hc;exact e c (xL.1 hc)
  | some c =>
   rw [RQ h.un] at e;rw [RQ (λc hc d hd=>h.un c (xL.1 hc) d (xL.1 hd))];exact ⟨xL.2 e.1,e.2⟩
 grind [eK]
section
variable {G:Nat→Option (List AV)}
set_option maxHeartbeats 4000000
def aBk (x y:CardM) (hx:0≤x.Device∧x.Device≤1000) (hy:0≤y.Device∧y.Device≤1000):aC PQ G pC [.ag x.A,.ag y.A] [] λr T=>r=.v (.int .i64 (aDs x y))∧T=[]:=by
 refine aD HA (by decide) ?_;have w:IntKind.i64.wrap (x.Device-y.Device)=x.Device-y.Device:=bF (by omega) (by omega);simp only [go_sem,CardM.A_def,w,aDs]
def aBl (l:List CardM) (hl:cardsOk l):aC PQ G iF [.own 0,.cl pC []] [some (.arr 5 (l.map CardM.A))] λr T=>r=.tup []∧T=[some (.arr 5 ((qH l).map CardM.A))]:=by
 let α:={c:CardM // c∈l}
 have:Inhabited α:=⟨⟨l.head hl.ne,List.head_mem hl.ne⟩⟩
 let cf:α→α→Int:=λx y=>aDs x.1 y.1;have hlt:∀ x y:α,Go.Proofs.ltOf cf x y=decide (x.1.Device<y.1.Device):=by
  intro x y;unfold Go.Proofs.ltOf;show decide (x.1.Device-y.1.Device<0)=_;simp_all;omega
 have key:=aAR (α:=α) (k:=5) (enc:=λc=>c.1.K) Go.Proofs.Tryz.laysSortC Go.Proofs.Tryz.isAgg121 Go.Proofs.Tryz.sizeOf121 (λ_=>rfl) (λx v hv=>by simp [CardM.K] at hv;rcases hv with rfl | rfl | rfl | rfl | rfl<;>rfl)
  (λx c hc=>by simp [cellsOf,CardM.K] at hc;rcases hc with rfl | rfl | rfl | rfl | rfl<;>rfl) (cf:=cf)
  ⟨λx=>by rw [hlt];simp,λx y z h1 h2=>by rw [hlt] at *;simp at *;omega,λx y z h1 h2=>by rw [hlt] at *;simp at *;omega⟩
  (λx y h1 h2=>by rw [hlt] at *;simp at h1 h2;exact Subtype.ext (hl.un _ x.2 _ y.2 (by omega))) (g:=pC) (Go.Proofs.enters_of Go.Proofs.Tryz.func109 (by kernel_rfl) rfl) (Go.Proofs.enters_of Go.Proofs.Tryz.func108 (by kernel_rfl) rfl) (G:=G) (λx y=>aBk x.1 y.1 (hl.dv _ x.2) (hl.dv _ y.2)) l.attach (by rw [List.length_attach];have:=hl.n;omega)
 have e1:l.attach.map (cellsOf λc:α=>c.1.K)=l.map CardM.A:=by
  rw [show (cellsOf λc:α=>c.1.K)=CardM.A∘Subtype.val from rfl,←D1,aBR]
 have e2:(l.attach.mergeSort λx y=>!(Go.Proofs.ltOf cf y x)).map (cellsOf λc:α=>c.1.K)=(qH l).map CardM.A:=by
  rw [show (cellsOf λc:α=>c.1.K)=CardM.A∘Subtype.val from rfl,←D1];congr 1;have hs:(λx y:α=>!(Go.Proofs.ltOf cf y x))=λx y:α=>decide (x.1.Device≤y.1.Device):=by
   grind
  rw [hs,List.map_mergeSort (s:=λx y:CardM=>decide (x.Device≤y.Device)) (λa _ b _=>rfl),aBR];rfl
 rw [e1,e2] at key;exact key
def aDt (l:List CardM) (hl:cardsOk l):aC PQ G xY [.ls 5 (l.map CardM.A)] [] λr T=>r=.ptr 0 0∧T=[some (.box [.own 1,.mp 2,.v (.slice none 0 0)]),some (.arr 5 ((qH l).map CardM.A)),some (MG [])]:=by
 refine aD Kj (by decide) ?_;have hn:=hl.n;simp only [go_sem];refine aQ (aA _) rfl (xG (l.map CardM.A) (by rw [aL];omega)) ?_;simp only [go_sem];refine aG (T2:=[some (.arr 5 (l.map CardM.A))]) [0] (aA _) (by decide) (by simp) rfl (by simp only [go_sem]) (aBl l hl) ?_;rintro r T' ⟨rfl,rfl⟩;simp only [go_sem,MG,mE,JU,jJ]
def aFg (l:List CardM) (hl:cardsOk l):aC PQ G xY [.ls 5 (l.map CardM.A)] [] λr T=>r=.ptr 0 0∧T=[some (.box [.ls 5 ((qH l).map CardM.A),.mp 1,.v (.slice none 0 0)]),some (MG [])]:=by
 refine (aDt l hl).fin [1] ?_;rintro r T' ⟨rfl,rfl⟩;simp only [go_sem,MG,mE,JU]
end
end
section
def aBm {g:PGM} (hg:g.ok) (l:List Id):0≤DO g l∧DO g l≤g.nodes.length+1:=by
 have key:∀ (l:List Id) (m:Int),0≤m→m≤g.nodes.length+1→0≤l.foldl (λm x=>max m ((g.nd x).lv+1)) m∧l.foldl (λm x=>max m ((g.nd x).lv+1)) m≤g.nodes.length+1:=by
  intro l
  induction l with
  | nil=>exact λm h0 h1=>⟨h0,h1⟩
  | cons x l ih =>
   intro m h0 h1;have hx:0≤(g.nd x).lv∧(g.nd x).lv≤g.nodes.length:=by
    unfold PGM.nd;rw [uW];rcases gM (g.at x) g.nodes.length with h | h
    ·rw [nQ h];exact hg.lv _ (iN h)
    ·grind [TI]
   grind
 exact key l 1 (by omega) (by omega)
def Zg {g:PGM} (hg:g.ok) (o:OpM):FU (xK g o):=PA (Gb hg _) (Ga _ _)
def TR (g:PGM) (o:OpM):(oS g o).1=g∨(oS g o).1=⟨g.cards,g.nodes++[⟨o,Ao o,xK g o,DO g o.Past⟩]⟩∧g.nodes.length<200:=by
 grind [oS,LP,Ni]
def aBn {g:PGM} {o:OpM} (hg:g.ok) (ho:o.ok) (hid:(Ao o).ok):(oS g o).1.ok:=by
 rcases TR g o with h | ⟨h,hl⟩<;>rw [h]
 ·exact hg
 ·have hlv:=aBm hg o.Past;refine ⟨by simp;omega,hg.cn,hg.cs,?_,?_,?_,?_⟩<;>intro x hx<;>simp only [eM,iU] at hx<;>rcases hx with hx | rfl
  ·exact hg.ops x hx
  ·exact ho
  ·exact hg.ids x hx
  ·exact hid
  ·exact hg.ws x hx
  ·exact Zg hg o
  ·have:=hg.lv x hx;simp_all;omega
  ·simp_all
def Aj (cs:List CardM) (l:List OpM):PGM:=l.foldl (λp o=>(oS p o).1) ⟨qH cs,[]⟩
theorem JO (cs:List CardM) (l:List OpM) (o:OpM):Aj cs (l++[o])=(oS (Aj cs l) o).1:=by simp [Aj]
def TS {cs:List CardM} (hc:cardsOk cs):∀ (l:List OpM),(∀ o∈l,o.ok∧(Ao o).ok)→(Aj cs l).ok:=by
 have h0:(⟨qH cs,[]⟩:PGM).ok:=⟨by simp,by show (qH cs).length≤1000;rw [TP];exact hc.n,λc h=>hc.cs c (xL.1 h),by simp,by simp,by simp,by simp⟩
 have key:∀ (l:List OpM) (p:PGM),p.ok→(∀ o∈l,o.ok∧(Ao o).ok)→(l.foldl (λp o=>(oS p o).1) p).ok:=by
  intro l
  induction l with
  | nil=>exact λp h _=>h
  | cons o l ih=>exact λp h ha=>ih _ (aBn h (ha o (by simp)).1 (ha o (by simp)).2) (λx hx=>ha x (by simp [hx]))
 exact λl ha=>key l _ h0 ha
section
variable {G:Nat→Option (List AV)}
set_option maxHeartbeats 4000000
end
end
section
inductive RU (Up:List (List Nat)) (up:List Nat):Nat→Prop
 | base {k:Nat}:k∈up→RU Up up k
 | step {j k:Nat}:RU Up up j→k∈Up.getD j []→RU Up up k
theorem RU.tail {Up:List (List Nat)} {up:List Nat} {k:Nat}:RU Up up k↔k∈up∨∃ j,RU Up up j∧k∈Up.getD j []:=by
 constructor
 ·intro h
  cases h with
  | base h=>exact .inl h
  | step h1 h2=>exact .inr ⟨_,h1,h2⟩
 ·rintro (h | ⟨j,h1,h2⟩)
  ·exact .base h
  ·exact .step h1 h2
def RU.head {Up:List (List Nat)} {up:List Nat} {k:Nat}:RU Up up k↔k∈up∨∃ i∈up,RU Up (Up.getD i []) k:=by
 constructor
 ·intro h
  induction h with
  | base h=>exact .inl h
  | step h1 h2 ih =>
   rcases ih with ih | ⟨i,hi,ih⟩
   ·exact .inr ⟨_,ih,.base h2⟩
   ·exact .inr ⟨i,hi,.step ih h2⟩
 ·rintro (h | ⟨i,hi,h⟩)
  ·exact .base h
  ·induction h with
   | base h=>exact .step (.base hi) h
   | step h1 h2 ih=>exact .step ih h2
def RU.lt {Up:List (List Nat)} {up:List Nat} {n:Nat} (hu:∀ k∈up,k<n) (hU:∀ i,∀ k∈Up.getD i [],k<i) {k:Nat} (h:RU Up up k):k<n:=by
 induction h with
 | base h=>exact hu _ h
 | step h1 h2 ih=>have:=hU _ _ h2;omega
def W6 (u:List Nat) (a:List Bool) (h:∀ k∈u,k<a.length) (k:Nat):(u.foldl (λb k=>b.set k true) a).getD k false=(decide (k∈u)||a.getD k false):=by
 induction u generalizing a with
 | nil=>simp
 | cons x u ih =>
  grind
def TT (Up:List (List Nat)) (up:List Nat) (a:List Bool) (i:Nat) (hi:i<a.length) (hU:∀ k∈Up.getD i [],k<i) (k:Nat) :
  ((K6 Up up a i).getD k false=true)↔(a.getD k false=true∨(k=i∧i∈up)∨((a.getD i false=true∨i∈up)∧k∈Up.getD i [])):=by
 have hs:∀ k,((if decide (i∈up) then a.set i true else a).getD k false=true)↔(a.getD k false=true∨(k=i∧i∈up)):=by
  grind
 have hl:(if decide (i∈up) then a.set i true else a).length=a.length:=by split<;>simp
 unfold K6;generalize (if decide (i∈up) then a.set i true else a)=b at *
 by_cases hb:b.getD i false=true
 ·rw [if_pos hb,W6 _ _ (λk hk=>by rw [hl];have:=hU k hk;omega),Hj,hs,decide_eq_true_eq];grind
 ·grind
def LS (Up:List (List Nat)) (up:List Nat) (n:Nat) (hu:∀ k∈up,k<n) (hU:∀ i,∀ k∈Up.getD i [],k<i):∀ (i:Nat) (a:List Bool),a.length=n→i≤n →
  (∀ k,i≤k→((a.getD k false=true)↔RU Up up k))→(∀ k,k<i→((a.getD k false=true)↔∃ j,i≤j∧RU Up up j∧k∈Up.getD j []))→∀ k,((Hw Up up i a).getD k false=true)↔RU Up up k
 | 0,a,_,_,h1,_=>λk=>h1 k (by omega)
 | i+1,a,ha,hi,h1,h2=>by
  have hs:=TT Up up a i (by omega) (hU i);have hri:(a.getD i false=true∨i∈up)↔RU Up up i:=by
   grind [RU.tail]
  refine LS Up up n hu hU i (K6 Up up a i) (by rw [Nc];exact ha) (by omega) ?_ ?_
  ·grind
  ·intro k hk;rw [hs,h2 k (by omega),hri];constructor
   ·rintro (⟨j,h3,h4,h5⟩ | h3 | h3)
    ·exact ⟨j,by omega,h4,h5⟩
    ·omega
    ·exact ⟨i,cT _,h3.1,h3.2⟩
   ·rintro ⟨j,h3,h4,h5⟩;rcases gM i j with h | h
    ·exact .inl ⟨j,h,h4,h5⟩
    ·obtain rfl:j=i:=by omega
     exact .inr (.inr ⟨h4,h5⟩)
def LT (g:GM) (up:List Nat) (hu:∀ k∈up,k<g.L.length) (hU:∀ i,∀ k∈g.Up.getD i [],k<i) (k:Nat):((lE g up).getD k false=true)↔RU g.Up up k:=by
 refine LS g.Up up g.L.length hu hU _ _ (by simp) (cT _) ?_ ?_ k
 ·intro k hk;constructor
  ·intro h;rw [uW,oW (by simp;omega)] at h;exact absurd h (by decide)
  ·intro h;have:=h.lt hu hU;omega
 ·intro k hk;constructor
  ·intro h;rw [uW,List.getElem?_replicate,if_pos hk] at h;exact absurd h (by decide)
  ·rintro ⟨j,h1,h2,_⟩;have:=h2.lt hu hU;omega
def RU.more {Up:List (List Nat)} {u up:List Nat} {k:Nat} (hu:∀ k∈up,k<Up.length) (hU:∀ i,∀ k∈Up.getD i [],k<i):RU (Up++[u]) up k↔RU Up up k:=by
 have hg:∀ j,j<Up.length→(Up++[u]).getD j []=Up.getD j []:=λj hj=>by
  grind
 constructor
 ·intro h
  induction h with
  | base h=>exact .base h
  | step h1 h2 ih=>exact .step ih (by rwa [hg _ (ih.lt hu hU)] at h2)
 ·intro h
  induction h with
  | base h=>exact .base h
  | step h1 h2 ih=>exact .step ih (by rwa [hg _ (h1.lt hu hU)])
end
section
def Zh (W V:List Nat) (h:W.length=V.length) (i:Nat):(Hy W V).getD i 0=W.getD i 0 ||| V.getD i 0:=by
 grind [Hy]
def W7 (W V:List Nat) (h:W.length=V.length) (i:Nat):(Ai W V).getD i 0=W.getD i 0 &&& V.getD i 0:=by
 grind [Ai]
def VE {W V:List Nat} (hW:FU W) (hV:FU V) (k:Nat):mT (Hy W V) k=(mT W k||mT V k):=by
 unfold mT;rw [Zh W V (by rw [hW.1,hV.1]),aEe]
def VF (k:Nat):mT z4 k=false:=by
 grind [mT,z4]
def Zi {W:List Nat} (hW:FU W) (n k:Nat) (hn:n<256):mT (MT W n) k=(decide (k=n)||mT W k):=by
 unfold mT MT;have hl:n/64<W.length:=by rw [hW.1];omega
 grind
def W8 {W V:List Nat} (hW:FU W) (hV:FU V) (h:∀ k,k<256→mT W k=true→mT V k=false):Ai W V=z4:=by
 have hl:=RI hW hV;refine Pm (by rw [hl];rfl) λi hi _=>?_;have hi4:i<4:=by omega
 have hz:z4[i]'(by simpa [z4] using hi4)=0:=by
  grind [z4]
 rw [hz];have e:=W7 W V (by rw [hW.1,hV.1]) i;rw [uW,nQ hi,Mj] at e;rw [e];refine Nat.eq_of_testBit_eq λb=>?_;rw [Nat.testBit_and,Xd];rcases gM b 64 with hb | hb
 ·have h1:(64*i+b)/64=i:=by omega
  have h2:(64*i+b)%64=b:=by omega
  have:=h (64*i+b) (by omega);grind [mT]
 ·rw [Nat.testBit_lt_two_pow (AH (vZ hW i) (show 18446744073709551616≤2^b from Nz (n:=2) (i:=64) (by omega) hb))];rfl
def Zj (g:PGM) (hn:g.nodes.length≤200) (l:List Id) (hl:∀ x∈l,g.at x<256) (k:Nat):(mT (FN g l) k=true)↔∃ x∈l,g.at x=k:=by
 have key:∀ (l:List Id) (W:List Nat),FU W→(∀ x∈l,g.at x<256)→((mT (l.foldl (λW x=>MT W (g.at x)) W) k=true)↔(mT W k=true∨∃ x∈l,g.at x=k)):=by
  intro l
  induction l with
  | nil=>intro W _ _;simp
  | cons x l ih =>
   intro W hW hx;rw [Gm,ih _ (U9 hW _) (λy hy=>hx y (by simp [hy])),Zi hW _ _ (hx x (by simp)),Hj,decide_eq_true_eq];grind
 unfold FN;rw [key l z4 LQ hl,VF];simp
def Zk {g:PGM} (hg:g.ok) (l:List Id) (k:Nat):(mT (FO g l) k=true)↔∃ x∈l,mT (g.nd x).W k=true:=by
 have key:∀ (l:List Id) (W:List Nat),FU W→((mT (l.foldl (λW x=>Hy W (g.nd x).W) W) k=true)↔(mT W k=true∨∃ x∈l,mT (g.nd x).W k=true)):=by
  intro l
  induction l with
  | nil=>intro W _;simp
  | cons x l ih =>
   intro W hW;rw [Gm,ih _ (PA hW (RH hg x)),VE hW (RH hg x),Hj];grind
 unfold FO;rw [key l z4 LQ,VF];simp
def Zl (g:PGM) (x:Id):g.at x=(aM g.I x).toNat:=by
 grind [PGM.at,aM,zV]
def Du (I:List Id) (x:Id):0≤aM I x↔x∈I:=by
 have:=yI (λy=>decide (y=x)) I;grind [aM]
def aBo (g:PGM) (a:Int) (l:List Id) (h0:0≤a) (h:∀ x∈l,(g.nd x).o.At≤a):Eb g l≤a:=by
 have key:∀ (l:List Id) (m:Int),m≤a→(∀ x∈l,(g.nd x).o.At≤a)→l.foldl (λm x=>max m (g.nd x).o.At) m≤a:=by
  intro l
  induction l with
  | nil=>exact λm h _=>h
  | cons x l ih =>
   grind
 exact key l 0 h0 h
end
section
def uU (g:GM) (o:OpM):List Nat:=o.Past.map λx=>(aM g.I x).toNat
structure Acc (g:GM) (o:OpM):Prop where
 check:fS o=0
 twice:¬0≤aM g.I (Ao o)
 full:g.L.length<200
 card:(eK g.Cards o.By).2=true
 sig:xT (eK g.Cards o.By).1.Sign o.B o.SR o.SS=true
 kind:((o.Kind==1)&&decide (0<g.L.length))=false
 there:∀ x∈o.Past,0≤aM g.I x
 up:(cX g o).2=uU g o
 order:HQ g o (uU g o)=true
 right:DJ g.L o (lE g (uU g o))=true
def FQ {g:GM} {o:OpM} (h:(cX g o).1=0):Acc g o:=by
 have h0:=h;unfold cX at h;split at h
 ·omega
 rename_i hc;simp only [ne_eq,Decidable.not_not] at hc;have e0:cX g o=Bl g o:=by grind [cX]
 unfold Bl at h;split at h
 ·simp at h
 rename_i h1;split at h
 ·simp at h
 rename_i h2;split at h
 ·simp at h
 rename_i h3;split at h
 ·simp at h
 rename_i h4;split at h
 ·simp at h
 rename_i h5;have e1:Bl g o=xF g o:=by rw [Bl,if_neg h1,if_neg h2,if_neg h3,if_neg h4,if_neg h5]
 unfold xF at h;by_cases hp:(o.Past.all λx=>decide (0≤aM g.I x))=true;rotate_left
 ·have:MO g.I o.Past=none:=by rw [MO,if_neg hp]
  rw [this] at h;simp at h
 have ep:MO g.I o.Past=some (uU g o):=by rw [MO,if_pos hp];rfl
 have e2:xF g o=AB g o (uU g o):=by rw [xF,ep]
 rw [ep] at h;simp only at h;unfold AB at h;split at h
 ·simp at h
 rename_i h6;split at h
 ·simp at h
 rename_i h7;exact ⟨hc,h1,by omega,by simpa using h3,by simpa using h4,by simpa using h5,by simpa using hp,by rw [e0,e1,e2,AB,if_neg h6,if_neg h7],by simpa using h6,by simpa using h7⟩
def xM {g:GM} {o:OpM} (a:Acc g o) (h:(cX g o).1=0):(addM g o).1=⟨g.Cards,g.L++[o],g.I++[Ao o],g.Up++[uU g o],(g.In.map λr=>r++[false])++[lE g (uU g o)++[false]]⟩:=by
 rw [addM,if_neg (by simp [h]),a.up]
structure GM.wf (g:GM):Prop where
 un:g.Up.length=g.L.length
 inn:g.In.length=g.L.length
 i:g.I.length=g.L.length
 up:∀ i,∀ k∈g.Up.getD i [],k<i
 past:∀ i,i<g.L.length→∀ k,((g.In.getD i []).getD k false=true)↔RU g.Up (g.Up.getD i []) k
def aDu (cs:List CardM):(⟨cs,[],[],[],[]⟩:GM).wf:=⟨rfl,rfl,rfl,by simp,by simp⟩
def Zm {g:GM} {o:OpM} (w:g.wf) (a:Acc g o):∀ k∈uU g o,k<g.L.length:=by
 intro k hk;obtain ⟨x,hx,rfl⟩:=cZ.1 hk;have h1:=qR g.I x;have h2:=a.there x hx;have:=w.i;omega
def Nk (l:List Bool) (k:Nat):(l++[false]).getD k false=l.getD k false:=by
 grind
def LU {α:Type} (l:List α) (x d:α) (k:Nat) (h:k<l.length):(l++[x]).getD k d=l.getD k d:=by
 grind
def Br {α:Type} (l:List α) (x d:α):(l++[x]).getD l.length d=x:=by simp
def TU {α:Type} (l:List α) (x d:α) (k:Nat) (h:l.length<k):(l++[x]).getD k d=d:=by
 grind
def Zn {g:GM} (w:g.wf) (p:List Bool) (i:Nat) (h:i<g.L.length) (k:Nat):((((g.In.map λr=>r++[false])++[p]).getD i []).getD k false)=(g.In.getD i []).getD k false:=by
 have hi:i<g.In.length:=by rw [w.inn];exact h
 grind
def aDv {g:GM} {o:OpM} (w:g.wf) (h:(cX g o).1=0):(addM g o).1.wf:=by
 have a:=FQ h;have hu:=Zm w a;rw [xM a h];have hg:∀ i,i<g.L.length→(g.Up++[uU g o]).getD i []=g.Up.getD i []:=λi hi=>LU _ _ _ _ (by rw [w.un];exact hi);have hn:(g.Up++[uU g o]).getD g.L.length []=uU g o:=by rw [←w.un];exact Br _ _ _
 refine ⟨by simp [w.un],by simp [w.inn],by simp [w.i],?_,?_⟩
 ·intro i k hk;rcases Nat.lt_trichotomy i g.L.length with h1 | h1 | h1
  ·rw [hg i h1] at hk;exact w.up i k hk
  ·rw [h1,hn] at hk;rw [h1];exact hu k hk
  ·rw [TU _ _ _ _ (by rw [w.un];exact h1)] at hk;simp at hk
 ·intro i hi k;simp only [gK,Mc] at hi;rcases gM i g.L.length with h1 | h1
  ·rw [hg i h1,Zn w _ i h1 k,RU.more (λk hk=>by rw [w.un];have:=w.up i k hk;omega) w.up];exact w.past i h1 k
  ·obtain rfl:i=g.L.length:=by omega
   rw [hn,RU.more (λk hk=>by rw [w.un];exact hu k hk) w.up,←LT g _ hu w.up];have:((g.In.map λr=>r++[false])++[lE g (uU g o)++[false]]).getD g.L.length []=lE g (uU g o)++[false]:=by
    have h2:g.L.length=(g.In.map λr=>r++[false]).length:=by simp [w.inn]
    rw [h2];exact Br _ _ _
   rw [this,Nk]
structure Sim (p:PGM) (g:GM):Prop where
 c:∀ d,eK p.cards d=eK g.Cards d
 l:p.nodes.map (·.o)=g.L
 i:p.I=g.I
 w:∀ i,i<g.L.length→∀ k,k<256→mT (p.nodes.getD i TI).W k=(g.In.getD i []).getD k false
def aBp {cs:List CardM} (hc:cardsOk cs):Sim ⟨qH cs,[]⟩ ⟨cs,[],[],[],[]⟩:=⟨λd=>TQ hc d,rfl,rfl,by simp⟩
end
section
section
variable {G:Nat→Option (List AV)}
set_option maxHeartbeats 4000000
end
end
section
open W
def Ib:cF vJ [(0,none,1)]=some ⟨2,[(0,none)],S [R0 0 1 [M z],S [R0 1 1 [x (.bsl 1 [z0,z0,z0,z0,z0,z0] [(0,(1,zw 1)),(1,(1,zw 2)),(2,(1,zw 3)),(3,(1,zw 1)),(4,(1,zw 2)),(5,(1,zw 3))] 6),J 0 v1],ow 0 1],.ret]⟩:=by kernel_rfl
def LV:cF Cj []=some ⟨107,[(6,none)],S [R 6 1 [0] [J 3 (b t0),J 6 (M F)],R0 9 5 [L 27 (i 27 (l (f 1 t3)) v1),J 7 (s 27 (al zO) (t 13))],R0 14 5 [L 27 (i 27 (l (f 1 t3)) v2),J 8 (s 27 (al zO) (t 18))],S [R 19 22 [1,2] [O (O (eq v1 v2) (l (i 1 (l (i 1 (l (f 4 t3)) v1)) v2))) (l (i 1 (l (i 1 (l (f 4 t3)) v2)) v1))],If 41 [7,3,8] (S [E0 [A 6 F],.ret])],S [R0 42 7 [N (eq (l (f 2 t7)) w3) (ne (l (f 5 t7)) w0)],If 49 [3] (S [R 50 5 [8,7] [A 6 (eq (l (f 0 t8)) (l (f 5 t7)))],.ret])],S [R0 55 2 [eq (l (f 2 t7)) w3],Iz 57 [] (S [D 58 7 [3,8,7] [L 5 t3,l (f 0 t8),J 62 (l (f 7 t7)),J 61 (K [zl 63 62,zf 62 7 7] (c2 vN (t 58) (t 60))),J 64 (A 6 (eq (t 61) (t 63)))],.ret]) [3]],S [R0 65 2 [eq (l (f 2 t7)) (w 13)],If 67 [] (S [R 68 17 [8,7] [A 6 (N (eq (l (f 0 t8)) (l (f 6 t7))) (O (ne (l (f 2 t8)) (w 12)) (ea true [.int .i64,.int .i64,.int .u64] (L 3 (f 16 t8)) (L 3 (f 16 t7)))))],.ret])],R 85 22 [7,8] [A 6 (N (N (N (eq (l (f 2 t7)) (w 12)) (eq (l (f 2 t8)) (w 13))) (ea false [.int .i64,.int .i64,.int .u64] (L 3 (f 16 t7)) (L 3 (f 16 t8)))) (le (l (f 3 t7)) (l (f 3 t8))))],.ret]⟩:=by kernel_rfl
def Ic:cF vN []=some ⟨17,[(4,none)],S [R 4 1 [0] [J 2 (b t0),J 4 (M w0)],R 8 3 [2,1,12,11,7] [c2 BI (L 5 t2) v1,J 7 v10,J 11 (e 0 t7),e 1 t7,J 5 (s 5 (al zC) (t 11)),v12],S [R 13 1 [6] [o v6],If 14 [5] (S [i0 4,.ret])],R 15 2 [5] [A 4 (l (f 1 t5))],.ret]⟩:=by kernel_rfl
end
section
open W
def FR:cF Bx []=some ⟨57,[(4,none)],S [R 4 1 [1] [J 3 (b t1),M F],R 10 2 [0] [c2 Cf v0 (w 14),J 5 (s 5 (al zS5) (t 11))],D 12 4 [] [A 6 (c2 tJ (L 5 t5) (K [zv 12 5 5] (c1 vI (L 5 t5))))],S [R0 16 1 [v6,x (.nilS false 0 (zt 16))],If 17 [5,3,6] (S [E0 [A 4 F],.ret])],S [.regd (zq (zv 18 5 5) (zq (zv 20 3 3) (zA (zo 19 (.call (.func qK) [zt 18])) [zv 20 3 3] (zA (zo 21 (.bsl 3 zI [(0,(3,zt 20))] 1)) [] (zA (zo 22 (.app (zt 19) (zt 21) 3 24)) [] (zq (zm 7 22) (.done true)) .no) .no) (zA (zo 21 (.bsl 3 zI [(0,(3,zt 20))] 1)) [zv 18 5 5] (zA (zo 19 (.call (.func qK) [zt 18])) [] (zA (zo 22 (.app (zt 19) (zt 21) 3 24)) [] (zq (zm 7 22) (.done true)) .no) .no) .no)))),.kill [3,22,21,20,19,18]],S [i0 8,fo 0 23 3 (ls v8 (n v7)) [5,8,6,7] 8 (S [i0 9,fo 2 29 3 (ls v9 (n v7)) [9] 9 (S [D 35 20 [] [v6,L 3 (i 3 v7 v8),L 3 (i 3 v7 v9),J 45 (L 5 t5),L 3 (i 3 v7 v8),L 3 (i 3 v7 v9),J 44 (K [zv 53 3 52,zi 52 50 51 3,zm 51 9,zm 50 7,zv 49 3 48,zi 48 46 47 3,zm 47 8,zm 46 7,zv 45 5 5] (c3 gH (t 35) (t 39) (t 43))),J 54 (c3 Cg (t 45) (t 49) (t 53)),x (.eqb true (zt 44) (zt 54))],If 55 [9,5,8,6,7] (S [E0 [A 4 F],.ret])])])],R0 56 1 [A 4 (c0 Ch)],.ret]⟩:=by kernel_rfl
def LW:cF Cf []=some ⟨66,[(4,some (some 5))],S [E 4 [al zS5],R0 11 3 [c1 AT (c1 tK (c0 vJ)),J 5 (s 5 (al zS5) (t 13))],S [i0 6,fo 0 14 13 (N (ls v6 v1) (O (ls v6 (w 4)) (ls (mu w2 v6) (n v0)))) [6,0,1] 6 (S [i0 7,i0 8,S [R0 30 4 [ls (mu w2 v6) (n v0)],If 34 [7] (R0 35 5 [A 7 (l (i 1 v0 (mu w2 v6)))])],S [R0 40 5 [ls (ad (mu w2 v6) w1) (n v0)],If 45 [8] (R0 46 6 [A 8 (l (i 1 v0 (ad (mu w2 v6) w1)))])],S [.regd (zq (zv 53 5 5) (zq (zv 54 5 5) (zq (zm 55 7) (zq (zm 56 8) (zA (zo 57 (.call (.func wR) [zt 54,zt 55,zt 56])) [zv 53 5 5] (zA (zo 58 (.call (.func gJ) [zt 57])) [zv 53 5 5] (zA (zo 59 (.call (.func jQ) [zt 53,zt 58])) [] (zq (zm 52 59) (zq (zo 60 (.ext (zt 52) 0)) (zq (zo 61 (.ext (zt 52) 1)) (zA (zo 9 (.alloc zS5)) [zo 61 (.ext (zt 52) 1),zo 60 (.ext (zt 52) 0),zm 52 59] (zA (⟨none,.st 5 (zt 9) (zt 60),none⟩) [zo 61 (.ext (zt 52) 1)] (zq (zm 10 61) (.done true)) .no) .no)))) (zA (zo 9 (.alloc zS5)) [zv 53 5 5] (zA (zo 59 (.call (.func jQ) [zt 53,zt 58])) [] (zq (zm 52 59) (zq (zo 60 (.ext (zt 52) 0)) (zq (zo 61 (.ext (zt 52) 1)) (zA (⟨none,.st 5 (zt 9) (zt 60),none⟩) [zo 61 (.ext (zt 52) 1)] (zq (zm 10 61) (.done true)) .no)))) .no) .no)) (zA (zo 9 (.alloc zS5)) [zv 53 5 5] (zA (zo 58 (.call (.func gJ) [zt 57])) [zv 53 5 5] (zA (zo 59 (.call (.func jQ) [zt 53,zt 58])) [] (zq (zm 52 59) (zq (zo 60 (.ext (zt 52) 0)) (zq (zo 61 (.ext (zt 52) 1)) (zA (⟨none,.st 5 (zt 9) (zt 60),none⟩) [zo 61 (.ext (zt 52) 1)] (zq (zm 10 61) (.done true)) .no)))) .no) .no) .no)) (zA (zo 9 (.alloc zS5)) [zm 56 8,zm 55 7,zv 54 5 5,zv 53 5 5] (zA (zo 57 (.call (.func wR) [zt 54,zt 55,zt 56])) [zv 53 5 5] (zA (zo 58 (.call (.func gJ) [zt 57])) [zv 53 5 5] (zA (zo 59 (.call (.func jQ) [zt 53,zt 58])) [] (zq (zm 52 59) (zq (zo 60 (.ext (zt 52) 0)) (zq (zo 61 (.ext (zt 52) 1)) (zA (⟨none,.st 5 (zt 9) (zt 60),none⟩) [zo 61 (.ext (zt 52) 1)] (zq (zm 10 61) (.done true)) .no)))) .no) .no) .no) .no)))))),.kill [7,8,61,60,52,59,58,57,56,55,54,53]],R 62 1 [10] [eq v10 w0],Iz 63 [] (R 64 1 [9] [s 5 t5 (L 5 t9)]) [9]])],R 65 1 [5] [s 5 t4 (L 5 t5)],.ret]⟩:=by kernel_rfl
def LX:cF tJ [(5,some 2,35)]=some ⟨30,[(4,none)],S [R 4 1 [0] [J 2 (b t0),J 4 (M (kc (.const (.pointer none))))],S [R0 7 3 [A 5 (c1 xY (l (f 0 t2)))],oc 5 2 35],S [R0 10 1 [v5,x (.nilS false 0 (zt 10))],If 11 [2,5,1] (S [E0 [A 4 (kc (.const (.pointer none)))],.ret])],S [i0 6,fo 0 12 3 (ls v6 (n v1)) [2,1,6] 6 (S [D 18 10 [] [ne (c2 rD v5 (L 27 (i 27 (l (f 1 t2)) (l (i 1 v1 v6))))) w0],If 28 [6,2,5,1] (S [E0 [A 4 (kc (.const (.pointer none)))],.ret])])],R 29 1 [5] [A 4 v5],.ret]⟩:=by kernel_rfl
def Ig:cF vI [(2,none,1),(3,none,1)]=some ⟨17,[(2,none)],S [R 2 1 [0] [J 1 (b t0),M z],S [iz 3,ow 3 1],S [i0 4,fo 0 5 4 (ls v4 (n (l (f 1 t1)))) [4,1] 4 (S [R0 12 4 [A 3 (a 1 8 v3 (ba 1 [z0] v4))],ow 3 1])],S [R 16 1 [3] [A 2 v3],ow 2 1],.ret]⟩:=by kernel_rfl
def LY:cF Cg []=some ⟨29,[(6,none)],S [R 6 1 [0,1,2] [J 3 (b t0),b t1,b t2,M F],R 9 3 [4] [A 7 (c2 iP (L 5 t3) (L 3 t4))],R 12 3 [5] [A 8 (c2 iP (L 5 t3) (L 3 t5))],R 15 14 [7,8,3] [A 6 (N (N (ge v7 w0) (ge v8 w0)) (c3 Cj (L 5 t3) (mm true v7 w0) (mm true v8 w0)))],.ret]⟩:=by kernel_rfl
def LZ:cF Ch []=some ⟨55,[(0,none)],S [R0 0 1 [M F],R0 3 1 [c0 Ew,J 1 (s 5 (al zS5) t3)],R0 4 4 [s 5 t1 (c3 nV (L 5 t1) (x (.bld zO [(0,(1,zw 1)),(2,(1,zw 3)),(5,(1,zw 2))])) (ba 1 [z0] w3))],R0 8 4 [s 5 t1 (c3 nV (L 5 t1) (x (.bld zO [(0,(1,zw 2)),(2,(1,zw 3)),(5,(1,zw 1))])) (ba 1 [z0] w3))],D 12 4 [] [A 2 (c2 tJ (L 5 t1) (K [zv 12 5 1] (c1 vI (L 5 t1))))],S [R0 16 7 [v2,O (x (.nilS false 0 (zt 16))) (ne (n (l (f 2 t1))) (w 6))],If 23 [2,1] (S [E0 [A 0 F],.ret])],D 24 31 [2,1] [v2,l (f 2 t1),J 28 (l (f 2 t1)),x (.slc (zt 29) none (some (zw 5)) 3),J 27 (K [zo 30 (.slc (zt 29) none (some (zw 5)) 3),zl 29 28,zf 28 1 2] (c2 pB (t 24) (t 26))),J 31 (A 0 (N (N (c2 zL (t 27) (t 30)) (c3 gH v2 (L 3 (i 3 (l (f 2 t1)) (w 4))) (L 3 (i 3 (l (f 2 t1)) (w 5))))) (eq (c3 wQ v2 (l (f 2 t1)) (L 3 (i 3 (l (f 2 t1)) (w 5)))) (w 15))))],.ret]⟩:=by kernel_rfl
def MW:cF wR []=some ⟨210,[(6,some (some 27))],S [R 3 0 [0] [b t0,J 6 (al zO)],R0 14 2 [A 1 (c2 vK v1 (w 1000000))],R0 16 2 [A 2 (c2 vK v2 (w 1000000))],R0 18 6 [ad w1 (rm v1 (w 5)),c1 E1 v2,x (.bld zO [(0,(1,zt 20)),(2,(1,zt 22))]),J 7 (s 27 (al zO) (t 23))],R0 24 3 [A 8 (n (l (f 1 t3)))],S [R0 27 1 [eq v8 w0],If 28 [8,7,2,3] (S [R 29 3 [1] [rm v1 (w 4),s 27 t6 (x (.bld zO [(0,(1,zw 1)),(1,(1,zw 1)),(2,(1,zw 1)),(20,(1,zt 30))]))],.ret])],S [R0 32 1 [ls v8 (w 4)],If 33 [] (R0 34 7 [ad v8 w1,sb w3 (qu (rm v1 (w 5)) (w 4)),s 27 t7 (x (.bld zO [(0,(1,zw 1)),(2,(1,zw 2)),(5,(1,zt 35)),(8,(1,zt 39))]))])],R0 41 6 [A 9 (c3 BE (L 5 t3) (l (f 0 t7)) (qu v1 (w 5)))],S [R0 47 1 [ls v8 (w 4)],If 48 [9] (R0 49 2 [A 9 (c1 qK (L 5 t3))])],R 52 3 [11,56,55,51] [c3 vL (L 5 t3) v9 (w 6),J 51 (v 54),J 55 (e 0 (t 51)),e 1 (t 51),J 10 (al zI),al zO,s 3 (t 10) (t 55),s 27 (t 11) (t 56)],S [R0 57 2 [ea false [.int .i64,.int .i64,.int .u64] (L 3 (t 10)) (x (.bld zI []))],If 59 [] (R0 60 4 [s 3 (t 10) (L 3 (i 3 (l (f 2 t3)) w0))])],R 64 2 [2] [A 12 (qu v2 (w 20))],S [R0 66 1 [l (f 2 t7)],bw 0 (S [R0 69 1 [eq (t 67) w2,J 68 (v 69)],Ie 68 [67,10] (S [R 70 1 [8] [ge v8 (w 4)],Iz 71 [] (S [R0 72 4 [ad (w 4) (rm v12 w3),s 1 (f 5 t7) (t 74)],R 76 5 [12] [ad w1 (rm (qu v12 w3) w3),s 1 (f 8 t7) (t 79)]]) [12]]) [8] (S [R0 82 1 [eq (t 67) w3,J 81 (v 82)],Ie 81 [67,10] (S [R0 83 4 [ad w1 (rm v12 (w 6)),s 1 (f 5 t7) (t 85)],R0 87 2 [eq (rm v12 (w 5)) w1],Iz 89 [] (S [R0 90 1 [s 1 (f 5 t7) w0],R 91 5 [12] [ad w1 (rm (qu v12 (w 5)) w3),s 1 (f 7 t7) (t 94)]]) [12]]) [] (S [R0 97 1 [eq (t 67) (w 5),J 96 (v 97)],Ie 96 [67,10] (S [R0 98 4 [ad w1 (rm v12 w3),s 1 (f 7 t7) (t 100)],R 102 5 [12] [ad w1 (rm (qu v12 w3) w3),s 1 (f 8 t7) (t 105)]]) [] (S [R0 108 1 [eq (t 67) (w 6),J 107 (v 108)],Ie 107 [67,10] (S [D 109 11 [] [L 3 (i 3 (l (f 2 t3)) (rm v12 (mm false (n (l (f 2 t3))) (w 4)))),s 3 (f 10 t7) (t 118)],R0 120 4 [rm (qu v12 (w 4)) w2,s 1 (f 13 t7) (t 122)],R0 124 4 [cw .u8 v12,x (.bsl 1 [.int .u8 0,.int .u8 0,.int .u8 0,.int .u8 0,.int .u8 0,.int .u8 0,.int .u8 0,.int .u8 0,.int .u8 0] [(0,(1,zt 125)),(1,(1,.const (.int .u8 1))),(2,(1,.const (.int .u8 2))),(3,(1,.const (.int .u8 3))),(4,(1,.const (.int .u8 4))),(5,(1,.const (.int .u8 5))),(6,(1,.const (.int .u8 6))),(7,(1,.const (.int .u8 7))),(8,(1,.const (.int .u8 8)))] 9),s 1 (f 14 t7) (t 126)],R0 128 2 [eq (rm v12 w3) w1],Iz 130 [] (R 131 10 [12] [j2 zUU (cw .u64 (rm (qu v12 w3) (w 5))) (cw .u64 (rm (qu v12 (w 15)) (w 5))),s 1 (f 15 t7) (t 139)]) [12]]) [] (S [R0 142 1 [eq (t 67) (w 7),J 141 (v 142)],Ie 141 [67] (S [R 143 2 [10] [L 3 (t 10),s 3 (f 16 t7) (t 143)],R 145 6 [12] [ba 1 [.int .u8 0] (cw .u8 (ad (w 97) (rm v12 w3))),s 1 (f 14 t7) (t 149)]]) [] (S [R0 152 1 [eq (t 67) (w 8),J 151 (v 152)],Ie 151 [67,12] (R 153 2 [10] [L 3 (t 10),s 3 (f 16 t7) (t 153)]) [10] (S [S [R0 156 1 [eq (t 67) (w 9),J 155 (v 156)],C 155 (Z [67] .skip) (Z [155] (S [R0 157 1 [A 155 (eq (t 67) (w 11))],C 155 (Z [67] .skip) (Z [155] (S [R0 158 1 [A 155 (eq (t 67) (w 13))],C 155 (Z [67] .skip) (Z [155] (S [R0 159 1 [A 155 (eq (t 67) (w 12))],C 155 (Z [67] .skip) (Z [155] (R 160 1 [67] [A 155 (eq (t 67) (w 10))]))]))]))]))],Iz 155 [] (S [R0 161 2 [A 13 (l (f 0 t7))],R 163 5 [12] [s 27 t7 (c4 vM (L 5 t3) v9 (L 27 t7) v12)],R 168 3 [13] [ne (l (f 0 t7)) v13],If 171 [9] (R0 172 6 [A 9 (c3 BE (L 5 t3) (l (f 0 t7)) (qu v1 (w 5)))])]) [12]])])])])])])])],S [R0 178 10 [N (ea true [.int .i64,.int .i64,.int .u64] (L 3 (f 16 t7)) (x (.bld zI []))) (o (c2 nA v9 (L 3 (f 16 t7))))],If 188 [9] (R0 189 2 [A 9 (c1 qK (L 5 t3))])],R0 191 4 [c2 tN (L 5 t3) v9,s 1 (f 4 t7) (t 193)],R0 195 6 [c3 Dg (L 5 t3) v9 (l (f 0 t7)),s 1 (f 1 t7) (t 199)],R 201 8 [3,9,1] [ad (c2 BF (L 5 t3) v9) (rm (qu v1 (w 5)) w2),s 1 (f 3 t7) (t 207)],R 209 1 [7] [s 27 t6 (L 27 t7)],.ret]⟩:=by kernel_rfl
def MX:cF Ew []=some ⟨25,[(0,some (some 5))],S [E0 [al zS5],R0 3 3 [c1 AT (c1 tK (c0 vJ)),J 1 (s 5 (al zS5) t5)],D 7 4 [12,11,6] [c2 jQ (L 5 t1) (K [zv 7 5 1] (c1 gJ (q3 zO w1 w1 w1))),J 6 v10,J 11 (e 0 t6),e 1 t6,K [zo 12 (.ext (zt 6) 1)] (s 5 t1 (t 11))],S [E0 [A 2 w2],fo 0 13 1 (ls v2 (w 5)) [2] 2 (R0 17 7 [L 5 t1,v2,s 5 t1 (c3 nV (t 17) (x (.bld zO [(0,(1,zw 1)),(2,(1,zw 2)),(5,(1,zt 18)),(8,(1,zw 3))])) (ba 1 [z0] (sb v2 w2)))])],R 24 1 [1] [s 5 t0 (L 5 t1)],.ret]⟩:=by kernel_rfl
def Ih:cF nV [(7,none,3),(1000000,some 7,0)]=some ⟨53,[(6,some (some 5))],S [R 3 0 [0,1] [b t0,b t1,J 6 (al zS5)],S [iz 7,ow 7 3],S [i0 8,fo 0 11 3 (ls v8 (n v2)) [2,8] 8 (S [D 17 11 [] [Ah 7 (a 3 24 v7 (K [zm 17 7] (ba 3 zI (L 3 (i 3 (l (f 2 t3)) (l (i 1 v2 v8)))))))],ow 7 3]),.shut 7],S [R0 28 3 [A 7 (c2 pW (L 5 t3) v7)],ow 7 3],R0 31 4 [c2 tN (L 5 t3) v7,s 1 (f 4 t4) (t 33)],R0 35 6 [c3 Dg (L 5 t3) v7 (l (f 0 t4)),s 1 (f 1 t4) (t 39)],R 41 4 [7] [c2 BF (L 5 t3) v7,s 1 (f 3 t4) (t 43)],S [.regd (zq (zv 46 5 3) (zq (zv 47 27 4) (zA (zo 48 (.call (.func gJ) [zt 47])) [zv 46 5 3] (zA (zo 49 (.call (.func jQ) [zt 46,zt 48])) [] (zq (zm 45 49) (zq (zo 50 (.ext (zt 45) 0)) (zq (zo 51 (.ext (zt 45) 1)) (zA (zo 9 (.alloc zS5)) [zo 51 (.ext (zt 45) 1),zo 50 (.ext (zt 45) 0),zm 45 49] (zA (⟨none,.st 5 (zt 9) (zt 50),none⟩) [zo 51 (.ext (zt 45) 1)] (zq (zm 10 51) (.done true)) .no) .no)))) (zA (zo 9 (.alloc zS5)) [zv 46 5 3] (zA (zo 49 (.call (.func jQ) [zt 46,zt 48])) [] (zq (zm 45 49) (zq (zo 50 (.ext (zt 45) 0)) (zq (zo 51 (.ext (zt 45) 1)) (zA (⟨none,.st 5 (zt 9) (zt 50),none⟩) [zo 51 (.ext (zt 45) 1)] (zq (zm 10 51) (.done true)) .no)))) .no) .no)) (zA (zo 9 (.alloc zS5)) [zv 47 27 4,zv 46 5 3] (zA (zo 48 (.call (.func gJ) [zt 47])) [zv 46 5 3] (zA (zo 49 (.call (.func jQ) [zt 46,zt 48])) [] (zq (zm 45 49) (zq (zo 50 (.ext (zt 45) 0)) (zq (zo 51 (.ext (zt 45) 1)) (zA (⟨none,.st 5 (zt 9) (zt 50),none⟩) [zo 51 (.ext (zt 45) 1)] (zq (zm 10 51) (.done true)) .no)))) .no) .no) .no)))),.kill [3,4,10,51,50,45,49,48,47,46]],R 52 1 [9] [s 5 t6 (L 5 t9)],.ret]⟩:=by kernel_rfl
def MY:cF E1 []=some ⟨8,[(2,none)],S [R0 2 1 [M w0],R 3 5 [0] [l (i 1 (x (.bsl 1 [z0,z0,z0,z0,z0,z0,z0,z0,z0,z0,z0,z0,z0,z0,z0,z0,z0,z0,z0,z0] [(0,(1,zw 6)),(1,(1,zw 4)),(2,(1,zw 3)),(3,(1,zw 2)),(4,(1,zw 5)),(5,(1,zw 7)),(6,(1,zw 8)),(7,(1,zw 3)),(8,(1,zw 6)),(9,(1,zw 9)),(10,(1,zw 11)),(11,(1,zw 11)),(12,(1,zw 13)),(13,(1,zw 12)),(14,(1,zw 10)),(15,(1,zw 4)),(16,(1,zw 3)),(17,(1,zw 2)),(18,(1,zw 6)),(19,(1,zw 13))] 20)) (rm v0 (w 20))),J 2 v7],.ret]⟩:=by kernel_rfl
def MZ:cF BE [(67,none,1000)]=some ⟨69,[(6,none)],S [R 6 1 [0] [J 3 (b t0),J 6 (M z)],R0 10 2 [A 7 (c1 qK (L 5 t3))],E0 [A 8 (w (-1))],S [i0 9,fo 0 12 4 (ls v9 (n (l (f 1 t3)))) [9,1] 9 (S [R0 19 7 [eq (l (f 0 (i 27 (l (f 1 t3)) v9))) v1],If 26 [8] (R0 27 1 [A 8 v9])])],S [R0 28 6 [N (eq (rm v2 (w 37)) (w 7)) (gt v8 w0)],If 34 [2,7] (S [D 35 8 [3,8] [A 6 (c2 pW (L 5 t3) (l (f 4 (i 27 (l (f 1 t3)) v8))))],.ret])],S [R0 43 6 [O (gt (rm v2 w3) w0) (ls v8 w0)],Iz 49 [3,8,2] (S [R 50 1 [7] [A 6 v7],.ret]) [7]],D 51 18 [3,8,2] [L 5 t3,L 3 (i 3 (l (f 2 t3)) v8),L 3 (i 3 (l (f 2 t3)) (rm (qu v2 w3) (n (l (f 2 t3))))),A 6 (c2 pW (t 51) (K [zv 51 5 3] (xh (.bsl 3 [z0,z0,zU,z0,z0,zU] [(0,(3,zt 56)),(3,(3,zt 66))] 2))))],.ret]⟩:=by kernel_rfl
def Ii:cF vL []=some ⟨46,[(6,some (some 3)),(7,some (some 27))],S [R 3 0 [0] [b t0,J 6 (al zI),al zO],S [R0 9 4 [sb (n (l (f 1 t3))) w1,J 8 v12],lo 0 (S [S [R0 13 1 [ge v8 w0],Ie 14 [] .skip [3,8,2,1] (ex 0)],bw 1 (S [R0 17 16 [N (eq (l (f 2 (i 27 (l (f 1 t3)) v8))) v2) (c2 nA v1 (L 3 (i 3 (l (f 2 t3)) v8)))],If 33 [1,2] (S [D 34 10 [3,8] [L 3 (i 3 (l (f 2 t3)) v8),L 27 (i 27 (l (f 1 t3)) v8),K [zv 43 27 42,zi 42 40 41 27,zm 41 8,zl 40 39,zf 39 3 1] (s 3 t6 (t 38)),s 27 t7 (t 43)],.ret])]),R0 15 2 [A 8 (sb v8 w1)]])],R0 44 2 [x (.bld zI []),x (.bld zO []),s 3 t6 (t 44),s 27 t7 (t 45)],.ret]⟩:=by kernel_rfl
def Ij:cF vM []=some ⟨126,[(8,some (some 27))],S [R 4 0 [0,2] [b t0,J 6 (b t2),J 8 (al zO)],R 14 3 [1,18,17,13] [c3 vL (L 5 t4) v1 (w 9),J 13 v16,J 17 (e 0 (t 13)),e 1 (t 13),J 9 (al zI),al zO,s 3 t9 (t 17),s 27 (t 10) (t 18)],S [R0 19 7 [N (ne (l (f 2 t6)) (w 9)) (ea false [.int .i64,.int .i64,.int .u64] (L 3 t9) (x (.bld zI [])))],If 26 [] (R0 27 1 [s 1 (f 2 t6) (w 9)])],S [R0 28 2 [eq (l (f 2 t6)) (w 9)],If 30 [9,10,4] (S [S [E0 [A 11 w1],fo 0 31 1 (le v11 (w 4)) [11] 11 (S [R0 35 4 [eq (rm (qu v3 v11) w2) w0],If 39 [] (R0 40 6 [a 1 8 (l (f 19 t6)) (ba 1 [z0] v11),s 1 (f 19 t6) (t 44)])])],S [R0 46 3 [eq (n (l (f 19 t6))) w0],If 49 [] (R0 50 2 [j2 [z0,z0] w1 w2,s 1 (f 19 t6) (t 50)])],R0 52 9 [ad w1 (rm (qu v3 (w 16)) (mm false w2 (n (l (f 19 t6))))),s 1 (f 20 t6) (t 59)],R 61 4 [3] [rm (qu v3 (w 32)) w3,s 1 (f 21 t6) (t 63)],R0 65 1 [s 1 (f 23 t6) (u 5)],R0 66 5 [c1 wU (n (l (f 19 t6))),s 1 (f 22 t6) (t 69)],R 71 1 [6] [s 27 t8 (L 27 t6)],.ret])],R0 72 2 [L 3 t9,s 3 (f 16 t6) (t 72)],R 74 4 [4] [A 12 (c2 vN (L 5 t4) (l (f 0 t9)))],S [R0 78 2 [eq (l (f 2 t6)) (w 10)],Iz 80 [] (S [R 81 3 [9] [l (f 0 t9),s 1 (f 0 t6) (t 82)],R0 84 5 [c1 wU (n (l (f 19 (t 10)))),s 1 (f 22 t6) (t 87)]]) [9]],S [R0 89 7 [O (eq (l (f 2 t6)) (w 11)) (eq (l (f 2 t6)) (w 13))],Iz 96 [] (S [D 97 10 [10,3] [l (i 1 (l (f 19 (t 10))) (rm v3 (n (l (f 19 (t 10)))))),s 1 (f 0 t6) (t 105)],R0 107 3 [ad v12 w3,s 1 (f 5 t6) (t 108)]]) [10,3]],S [R0 110 2 [eq (l (f 2 t6)) (w 11)],If 112 [] (R0 113 2 [c1 wU w1,s 1 (f 22 t6) (t 113)])],S [R0 115 2 [eq (l (f 2 t6)) (w 13)],If 117 [] (R0 118 2 [v12,s 1 (f 6 t6) (t 118)])],S [R0 120 2 [eq (l (f 2 t6)) (w 12)],Iz 122 [] (R 123 2 [12] [v12,s 1 (f 0 t6) (t 123)]) [12]],R 125 1 [6] [s 27 t8 (L 27 t6)],.ret]⟩:=by kernel_rfl
def Ma:cF wU [(2,none,4),(3,none,4)]=some ⟨17,[(2,none)],S [R0 2 1 [M z],S [iz 3,ow 3 4],S [i0 4,fo 0 5 2 (ls v4 v0) [4,0] 4 (S [R0 10 6 [A 3 (a 4 32 v3 (ba 4 zU4 (q4 zU4 (u 1) (u 1) (cw .u64 v4) (u 1))))],ow 3 4])],S [R 16 1 [3] [A 2 v3],ow 2 4],.ret]⟩:=by kernel_rfl
end
end Hud
