import Derived.Test.YtdichbeaekjibaaGreatDoorLib08
import Derived.Shelf.SlSortCmp.NoneTotal
import Derived.Test.YtdichbeaekjibaaGreatDoorProg
set_option linter.all false
namespace Hud
open Go
section
abbrev FP:Nat:=2305843009213693951
def bT (n:Nat) (h:n<18446744073709551616):IntKind.u64.wrap (n:Int)=(n:Int):=by
 grind [IntKind.wrap,IntKind.bits,IntKind.signed]
def WX (x:Nat) (hx:x<18446744073709551616):bM .and (.int .u64 (x:Int)) (.int .u64 2305843009213693951)=some (.int .u64 ((x%2305843009213693952:Nat):Int)):=by
 have h1:(BitVec.ofInt 64 (x:Int)).toNat=x:=by simp_all
 have h2:(BitVec.ofInt 64 2305843009213693951).toNat=2^61-1:=by decide
 have h3:(BitVec.ofInt 64 (x:Int) &&& BitVec.ofInt 64 2305843009213693951).toNat=x%2305843009213693952:=by
  rw [Xp,h1,h2,aBM]
 have h4:bM .and (.int .u64 (x:Int)) (.int .u64 2305843009213693951)=some (.int .u64 (IntKind.u64.wrap ((BitVec.ofInt 64 (x:Int) &&& BitVec.ofInt 64 2305843009213693951).toNat:Int))):=by
  rfl
 rw [h4,h3,bT _ (by omega)]
def Sj (x:Nat):bM .shr (.int .u64 (x:Int)) (.int .u64 61)=some (.int .u64 ((x/2305843009213693952:Nat):Int)):=by
 have:(x:Int).fdiv (2^min 61 64)=((x/2305843009213693952:Nat):Int):=by grind
 rw [←this];simp only [bM];rfl
def dG (x y:Nat) (h:x+y<18446744073709551616):bM .add (.int .u64 (x:Int)) (.int .u64 (y:Int))=some (.int .u64 ((x+y:Nat):Int)):=by
 simp only [bM,if_true];rw [←Int.natCast_add,bT _ h]
def WY (x:Nat) (h:2305843009213693951≤x) (h2:x<18446744073709551616):bM .sub (.int .u64 (x:Int)) (.int .u64 2305843009213693951)=some (.int .u64 ((x-2305843009213693951:Nat):Int)):=by
 simp only [bM,if_true];rw [show (x:Int)-2305843009213693951=((x-2305843009213693951:Nat):Int) from by omega,bT _ (by omega)]
def FA (x:Nat) (hx:x<18446744073709551616):bM .and (.int .u64 (x:Int)) (.int .u64 4294967295)=some (.int .u64 ((x%4294967296:Nat):Int)):=by
 have h1:(BitVec.ofInt 64 (x:Int)).toNat=x:=by simp_all
 have h2:(BitVec.ofInt 64 4294967295).toNat=2^32-1:=by decide
 have h3:(BitVec.ofInt 64 (x:Int) &&& BitVec.ofInt 64 4294967295).toNat=x%4294967296:=by
  rw [Xp,h1,h2,aBM]
 have h4:bM .and (.int .u64 (x:Int)) (.int .u64 4294967295)=some (.int .u64 (IntKind.u64.wrap ((BitVec.ofInt 64 (x:Int) &&& BitVec.ofInt 64 4294967295).toNat:Int))):=by
  rfl
 rw [h4,h3,bT _ (by omega)]
def Sk (x:Nat):bM .shr (.int .u64 (x:Int)) (.int .u64 32)=some (.int .u64 ((x/4294967296:Nat):Int)):=by
 have:(x:Int).fdiv (2^min 32 64)=((x/4294967296:Nat):Int):=by grind
 rw [←this];simp only [bM];rfl
def iW (x y:Nat) (h:x*y<18446744073709551616):bM .mul (.int .u64 (x:Int)) (.int .u64 (y:Int))=some (.int .u64 ((x*y:Nat):Int)):=by
 simp only [bM,if_true];rw [←Int.natCast_mul,bT _ h]
def WZ (x y:Nat):bM .mul (.int .u64 (x:Int)) (.int .u64 (y:Int))=some (.int .u64 ((x*y%18446744073709551616:Nat):Int)):=by
 rfl
def EV (G:Nat→Option (List AV)) (x:Nat) (hx:x<18446744073709551616):aC PQ G eR [.v (.int .u64 (x:Int))] [] λr T'=>r=.v (.int .u64 ((x%FP:Nat):Int))∧T'=[]:=by
 refine aD Kp (by decide) ?_;have a1:=WX x hx;have a2:=dG (x%2305843009213693952) (x/2305843009213693952) (by omega);simp only [↓a1,↓Sj,↓a2,go_sem];refine aK (λhc=>?_) (λhc=>?_)
 ·have hc':2305843009213693951≤x%2305843009213693952+x/2305843009213693952:=by have:=of_decide_eq_true hc;omega
  have a3:=WY _ hc' (by omega);simp only [↓a3,go_sem];have:x%2305843009213693952+x/2305843009213693952-2305843009213693951=x%FP:=by simp only [FP];omega
  simp only [this]
 ·have hc':x%2305843009213693952+x/2305843009213693952<2305843009213693951:=by have:=of_decide_eq_false hc;omega
  simp only [go_sem];have:x%2305843009213693952+x/2305843009213693952=x%FP:=by simp only [FP];omega
  simp only [this]
def aEP (G:Nat→Option (List AV)) (x y:Nat) (hx:x<18446744073709551616) (hy:y<18446744073709551616):aC PQ G yG [.v (.int .u64 (x:Int)),.v (.int .u64 (y:Int))] [] λr T'=>r=.v (.int .u64 (((x+y)%FP:Nat):Int))∧T'=[]:=by
 refine aD Ko (by decide) ?_;have a1:=dG (x%FP) (y%FP) (by simp only [FP];omega);simp only [go_sem];refine aB (aA _) rfl (EV G x hx) rfl ?_;simp only [go_sem];refine aB (aA _) rfl (EV G y hy) rfl ?_;simp only [↓a1,go_sem];refine aB (aA _) rfl (EV G _ (by simp only [FP];omega)) rfl ?_;simp only [go_sem,←Pt]
def NE (x y:Nat):x*y=(x/4294967296*(y/4294967296))*18446744073709551616+(x/4294967296*(y%4294967296)+x%4294967296*(y/4294967296))*4294967296+x%4294967296*(y%4294967296):=by
 have hx:=Mm x 4294967296;have hy:=Mm y 4294967296;grind
def aD4 (x y:Nat):x/4294967296*(y/4294967296)+(x/4294967296*(y%4294967296)+x%4294967296*(y%4294967296)/4294967296)/4294967296+((x/4294967296*(y%4294967296)+x%4294967296*(y%4294967296)/4294967296)%4294967296+x%4294967296*(y/4294967296))/4294967296=x*y/18446744073709551616:=by
 rw [NE x y];omega
def aAQ (G:Nat→Option (List AV)) (x y:Nat) (hx:x<18446744073709551616) (hy:y<18446744073709551616):aC PQ G rI [.v (.int .u64 (x:Int)),.v (.int .u64 (y:Int))] [] λr T' =>
  r=.tup [.v (.int .u64 ((x*y/18446744073709551616:Nat):Int)),.v (.int .u64 ((x*y%18446744073709551616:Nat):Int))]∧T'=[]:=by
 refine aD C4 (by decide) ?_;have b:∀ a c:Nat,a<4294967296→c<4294967296→a*c≤18446744065119617025:=λa c ha hc=>Xt (show a≤4294967295 by omega) (show c≤4294967295 by omega);have m1:=b (x%4294967296) (y%4294967296) (by omega) (by omega);have m2:=b (x/4294967296) (y%4294967296) (by omega) (by omega);have m3:=b (x%4294967296) (y/4294967296) (by omega) (by omega);have m4:=b (x/4294967296) (y/4294967296) (by omega) (by omega);have hm:=aD4 x y;have hh:x*y/18446744073709551616<18446744073709551616:=Nat.div_lt_of_lt_mul (Nat.mul_lt_mul'' hx hy);have a1:=FA x hx;have a2:=FA y hy;have a3:=iW _ _ (show x%4294967296*(y%4294967296)<18446744073709551616 by omega);have a4:=iW _ _ (show x/4294967296*(y%4294967296)<18446744073709551616 by omega);have a5:=dG (x/4294967296*(y%4294967296)) (x%4294967296*(y%4294967296)/4294967296) (by omega);have a6:=FA (x/4294967296*(y%4294967296)+x%4294967296*(y%4294967296)/4294967296) (by omega);have a7:=iW _ _ (show x%4294967296*(y/4294967296)<18446744073709551616 by omega);have a8:=dG ((x/4294967296*(y%4294967296)+x%4294967296*(y%4294967296)/4294967296)%4294967296) (x%4294967296*(y/4294967296)) (by omega);have a9:=iW _ _ (show x/4294967296*(y/4294967296)<18446744073709551616 by omega);have a10:=dG (x/4294967296*(y/4294967296)) ((x/4294967296*(y%4294967296)+x%4294967296*(y%4294967296)/4294967296)/4294967296) (by omega);have a11:=dG (x/4294967296*(y/4294967296)+(x/4294967296*(y%4294967296)+x%4294967296*(y%4294967296)/4294967296)/4294967296) (((x/4294967296*(y%4294967296)+x%4294967296*(y%4294967296)/4294967296)%4294967296+x%4294967296*(y/4294967296))/4294967296) (by omega);have a12:=WZ x y;simp only [↓a1,↓a2,↓Sk,↓a3,↓a4,↓a5,↓a6,↓a7,↓a8,↓a9,↓a10,↓a11,↓a12,go_sem,hm]
def Wa (x:Nat) (h:x*8<18446744073709551616):bM .shl (.int .u64 (x:Int)) (.int .u64 3)=some (.int .u64 ((x*8:Nat):Int)):=by
 have:IntKind.u64.wrap ((x:Int)*2^(min 3 64))=((x*8:Nat):Int):=by
  rw [show (x:Int)*2^(min 3 64)=((x*8:Nat):Int) from by simp,bT _ h]
 rw [←this];simp only [bM];rfl
def aEQ (G:Nat→Option (List AV)) (x y:Nat) (hx:x<18446744073709551616) (hy:y<18446744073709551616):aC PQ G nG [.v (.int .u64 (x:Int)),.v (.int .u64 (y:Int))] [] λr T'=>r=.v (.int .u64 ((x*y%FP:Nat):Int))∧T'=[]:=by
 refine aD Kn (by decide) ?_;have hx':x%FP<2305843009213693951:=by simp only [FP];omega
 have hy':y%FP<2305843009213693951:=by simp only [FP];omega
 have hm:x*y%FP=(x%FP)*(y%FP)%FP:=Gn _ _ _;have hb:(x%FP)*(y%FP)≤5316911983139663487003542222693990401:=Xt (show x%FP≤2305843009213693951 by omega) (show y%FP≤2305843009213693951 by omega);rw [hm];simp only [go_sem];refine aB (aA _) rfl (EV G x hx) rfl ?_;simp only [go_sem];refine aB (aA _) rfl (EV G y hy) rfl ?_;simp only [go_sem];refine aB (aA _) rfl (aAQ G _ _ (by omega) (by omega)) rfl ?_;generalize (x%FP)*(y%FP)=z at hb;have a1:=Wa (z/18446744073709551616) (by omega);simp only [go_sem];refine aB (aA _) rfl (EV G _ (by omega)) rfl ?_;have a2:=dG (z%18446744073709551616%FP) (z/18446744073709551616*8) (by simp only [FP];omega);simp only [↓a1,↓a2,go_sem];refine aB (aA _) rfl (EV G _ (by simp only [FP];omega)) rfl ?_;have e:(z%18446744073709551616%FP+z/18446744073709551616*8)%FP=z%FP:=by simp only [FP];omega
 simp only [go_sem,e]
end
end Hud
section
namespace Hud
def PR (a b:Nat) (l l':List Nat):Prop:=l'.length=l.length∧(∀ i,i<a∨b≤i→l'.getD i 0=l.getD i 0)∧l'.Perm l
def SR (a b:Nat) (l:List Nat):Prop:=∀ i j,a≤i→i≤j→j<b→l.getD i 0≤l.getD j 0
def Pre (a b:Nat) (l:List Nat):Prop:=a=0∨∀ i,a≤i→i<b→l.getD (a-1) 0≤l.getD i 0
def PR.refl (a b:Nat) (l:List Nat):PR a b l l:=⟨rfl,λ_ _=>rfl,.refl _⟩
def PR.trans {a b:Nat} {l m n:List Nat} (h:PR a b l m) (k:PR a b m n):PR a b l n:=⟨by rw [k.1,h.1],λi hi=>by rw [k.2.1 i hi,h.2.1 i hi],k.2.2.trans h.2.2⟩
def PR.wide {a b a' b':Nat} {l l':List Nat} (h:PR a b l l') (ha:a'≤a) (hb:b≤b'):PR a' b' l l':=⟨h.1,λi hi=>h.2.1 i (by omega),h.2.2⟩
def MH {l:List Nat} {a b i:Nat} (ha:a≤i) (hb:i<b) (hl:b≤l.length):l.getD i 0∈(l.drop a).take (b-a):=by
 rw [uW,nQ (by omega),Mj];rw [Pc];refine ⟨i-a,by simp;omega,?_⟩;simp [show a+(i-a)=i by omega]
def MI {l:List Nat} {a b x:Nat} (hl:b≤l.length) (h:x∈(l.drop a).take (b-a)):∃ i,a≤i∧i<b∧l.getD i 0=x:=by
 rw [Pc] at h;obtain ⟨k,hk,e⟩:=h;simp at hk e;refine ⟨a+k,by omega,by omega,?_⟩;rw [uW,nQ (by omega),Mj];exact e
def PR.mid {a b:Nat} {l l':List Nat} (h:PR a b l l') (hab:a≤b) (hb:b≤l.length):((l'.drop a).take (b-a)).Perm ((l.drop a).take (b-a)):=by
 have h1:l'.take a=l.take a:=by
  apply Dy λi=>?_;rw [zD,zD];split
  ·rename_i hi;have:=h.2.1 i (.inl hi);have hl:=h.1;simp only [uW] at this;rw [nQ (by omega),nQ (by omega)] at this ⊢;simpa using this
  ·rfl
 have h2:l'.drop b=l.drop b:=by
  apply Dy λi=>?_;rw [FV,FV];have hl:=h.1;have:=h.2.1 (b+i) (.inr (by omega));simp only [uW] at this;by_cases hi:b+i<l.length
  ·rw [nQ (by omega),nQ (by omega)] at this ⊢;simpa using this
  ·rw [oW (by omega),oW (by omega)]
 have sp:∀ l:List Nat,l=l.take a++((l.drop a).take (b-a)++l.drop b):=λl=>by
  have e:l.drop b=(l.drop a).drop (b-a):=by rw [Hi];congr 1;omega
  rw [e,Lo,Lo]
 have h3:=h.2.2;rw [sp l,sp l',h1,h2] at h3;exact (List.perm_append_right_iff _).1 ((List.perm_append_left_iff _).1 h3)
def PR.all {a b:Nat} {l l':List Nat} (h:PR a b l l') (hb:b≤l.length) {Q:Nat→Prop} (hQ:∀ i,a≤i→i<b→Q (l.getD i 0)):∀ i,a≤i→i<b→Q (l'.getD i 0):=by
 intro i h1 h2;obtain ⟨j,h3,h4,h5⟩:=MI hb ((h.mid (by omega) hb).mem_iff.1 (MH h1 h2 (by rw [h.1];exact hb)));rw [←h5];exact hQ j h3 h4
def Pre.sub {a b c:Nat} {l:List Nat} (h:Pre a b l) (hc:c≤b):Pre a c l:=h.imp id λk i h1 h2=>k i h1 (by omega)
def Pre.pr {a b:Nat} {l l':List Nat} (h:Pre a b l) (hp:PR a b l l') (hb:b≤l.length):Pre a b l':=by
 by_cases h0:a=0
 ·exact .inl h0
 ·rcases h with h | h
  ·exact absurd h h0
  ·refine .inr ?_;rw [hp.2.1 (a-1) (.inl (by omega))];exact hp.all hb (Q:=λx=>l.getD (a-1) 0≤x) h
end Hud
end
namespace Hud
open Go
section
section
variable {G:Nat→Option (List AV)}
end
end
end Hud
section
namespace Hud
open Go Go.Proofs Go.Sort Go.Shelf
def cellsOf {α:Type} (enc:α→List Value) (x:α):List AV:=(enc x).map .v
def Oe {α:Type} [Inhabited α] {enc:α→List Value} {k:Nat} (hk:∀ x,(enc x).length=k):∀ (l:List α) (t:Nat),t<l.length*k→(l.flatMap enc)[t]?=some ((enc l[t/k]!)[t%k]!)
 | [],t,h=>by simp at h
 | x::l,t,h=>by
  have hk0:0<k:=by
   rcases Mh k with h0 | h0
   ·subst h0;simp at h
   ·exact h0
  rw [List.flatMap_cons];rcases gM t k with hlt | hge
  ·rw [JQ (by rw [hk];exact hlt),Nat.div_eq_of_lt hlt,CL hlt,aBN];have:t<(enc x).length:=by rw [hk];exact hlt
   simp [this]
  ·rw [Tr (by rw [hk];exact hge),hk];have h1:t-k<l.length*k:=by
    rw [wJ,CM,Hl] at h;omega
   rw [Oe hk l (t-k) h1];have e1:t/k=(t-k)/k+1:=by
    have:=Nat.add_div_right (t-k) hk0;rw [Nat.sub_add_cancel hge] at this;exact this
   have e2:t%k=(t-k)%k:=(Nat.mod_eq_sub_mod hge)
   rw [e1,←e2];simp
def JB {α:Type} {enc:α→List Value} {k:Nat} (hk:∀ x,(enc x).length=k) (l:List α):(l.flatMap enc).length=l.length*k:=by
 induction l with
 | nil=>simp
 | cons x l ih=>rw [List.flatMap_cons,gK,hk,ih,wJ,CM,Hl,Nat.add_comm]
def Kt {α:Type} [Inhabited α] (d:Array α) (i:Nat):d.toList[i]! = d[i]! := by
 by_cases h:i<d.size
 ·rw [getElem!_pos d i h,getElem!_pos d.toList i (by simpa using h)];simp
 ·rw [getElem!_neg d i h,getElem!_neg d.toList i (by simpa using h)]
def Sl {α:Type} [Inhabited α] {enc:α→List Value} {k:Nat} (hk:∀ x,(enc x).length=k) (d:Array α):(flatK enc k d).toList=d.toList.flatMap enc:=by
 apply Dy;intro t;rcases gM t (d.size*k) with h | h
 ·have e:(flatK enc k d).toList[t]! = (enc d.toList[t/k]!)[t%k]! := by rw [Kt (flatK enc k d),get_flatK enc k d t h,Kt d]
  rw [Oe hk d.toList t (by simpa using h),←e,aBN,nQ (by simpa using h)];rfl
 ·rw [oW (by simpa using h),oW (by rw [JB hk];simpa using h)]
def Og {h:GH}:∀ {vs us:List Value},bQ h (vs.map .v) us→us=vs
 | [],us,e=>by simpa [bQ] using e
 | v::vs,us,e=>by
  simp only [fE,bQ] at e;obtain ⟨u,us',rfl,h1,h2⟩:=e;simp only [kY] at h1;rw [h1,Og h2]
def Ku {h:GH}:∀ {vs:List Value},bQ h (vs.map .v) vs
 | []=>by simp [bQ]
 | v::vs=>by simp only [fE,bQ];exact ⟨v,vs,rfl,by simp [kY],Ku⟩
def FB {α:Type} (enc:α→List Value) (l:List α):(l.map (cellsOf enc)).flatten=(l.flatMap enc).map .v:=by
 induction l with
 | nil=>rfl
 | cons x l ih=>simp [cellsOf,ih]
section
variable {P:Program} {α:Type} [Inhabited α] {enc:α→List Value} {k:Nat}
def GD {w:World} {g o:Nat} {cur:Array Value} {E:TypeId} (h:w.heap[g]?=some (.cells cur E (0,0))):w.cell? ⟨g,o,none⟩=cur[o]?∧w.frozen? ⟨g,o,none⟩=false:=by
 constructor
 ·simp [World.cell?,h]
 ·simp [World.frozen?,h]
def Yn {h:GH} {w:World} {g:Nat} {cur:Array Value} {E:TypeId} {l:List α} (hk:∀ x,(enc x).length=k) (hw:w.heap[g]?=some (.cells cur E (0,0))) (hr:bQ h (l.map (cellsOf enc)).flatten (cur.toList.take (l.length*k))) :
  HoldsK enc k w g 0 l.toArray:=by
 rw [FB] at hr;have hcur:=Og hr;intro t ht;rw [size_flatK] at ht;have ht':t<l.length*k:=by simpa using ht
 obtain ⟨c1,c2⟩:=GD (o:=0+t) hw;refine ⟨?_,c2⟩;rw [c1,qT];have h1:cur.toList[t]?=(l.flatMap enc)[t]?:=by
  rw [←hcur,zD,if_pos ht']
 rw [Oe hk l t ht'] at h1;rw [get_flatK _ _ _ _ ht,←Kt];simpa using h1
def Qa {w:World} {g m:Nat} {cur:Array Value} {E:TypeId} {d:Array α} {os:Array Obj} (hk:∀ x,(enc x).length=k) (hw:w.heap[g]?=some (.cells cur E (0,0))) (hs:d.size*k≤cur.size) :
  (∀ b,b<w.heap.size→b≠g→(sortWorldK enc k w g 0 m d os).heap[b]?=w.heap[b]?) ∧
  (∃ cur',(sortWorldK enc k w g 0 m d os).heap[g]?=some (.cells cur' E (0,0))∧cur'.size=cur.size∧cur'.toList.take (d.size*k)=d.toList.flatMap enc)∧w.heap.size≤(sortWorldK enc k w g 0 m d os).heap.size:=by
 have hlt:g<w.heap.size:=by
  rcases gM g w.heap.size with hh | hh
  ·exact hh
  ·rw [Nx hh] at hw;simp at hw
 have hheap:(sortWorldK enc k w g 0 m d os).heap=w.heap.modify g (onCells (putCells id 0 (flatK enc k d)))++os:=rfl;rw [hheap];refine ⟨λb hb hne=>?_,⟨putCells id 0 (flatK enc k d) cur,?_,?_,?_⟩,?_⟩
 ·rw [Ts (by simpa using hb),Tx,if_neg (λe=>hne e.symm)]
 ·rw [Ts (by simpa using hlt),Tx,if_pos rfl,hw];rfl
 ·simp [putCells]
 ·rw [←Sl hk];apply Dy;intro t;rw [zD];split
  ·rename_i ht;have h1:t<cur.size:=AH ht hs;have h2:t<(flatK enc k d).size:=by rw [size_flatK];exact ht
   rw [nQ (by simpa [putCells] using h1),nQ (by simpa using h2)];simp only [putCells,Array.getElem_toList,Array.getElem_mapIdx];rw [if_pos ⟨B8 _,by omega⟩,Pp,id,getElem!_pos _ t h2]
  ·rename_i ht;rw [oW (by simpa using ht)]
 ·simp
def aAR {ρ:Ren} (L:SlLaysF0.n6 P ρ) (aE:∀ w,(isAgg (ρ.t 24)).run P w=.ok true w) (zE:∀ w,(Go.sizeOf (ρ.t 24)).run P w=.ok k w) (hk:∀ x,(enc x).length=k) (h1:∀ x,∀ v∈enc x,v.oneCell'=true) (hcl:∀ x,∀ c∈cellsOf enc x,aO c=true)
  {cf:α→α→Int} (hO:SWO (ltOf cf)) (hT:∀ x y,(ltOf cf) x y=false→(ltOf cf) y x=false→x=y) {g:Nat} (eg:∀ args w,(callFunc g args).run P w=.ok (.enter g args) w) (eS:∀ args w,(callFunc (ρ.f 6) args).run P w=.ok (.enter (ρ.f 6) args) w) {G:Nat→Option (List AV)}
  (hcmp:∀ x y,aC P G g [.ag (cellsOf enc x),.ag (cellsOf enc y)] [] λr T=>r=.v (.int .i64 (cf x y))∧T=[]) (l:List α) (hl:l.length<4611686018427387904) :
  aC P G (ρ.f 6) [.own 0,.cl g []] [some (.arr k (l.map (cellsOf enc)))] λr T=>r=.tup []∧T=[some (.arr k ((l.mergeSort λx y=>!(ltOf cf) y x).map (cellsOf enc)))]:=by
 intro h φ w vals hG hI hA;refine .inl ⟨eS _ _,?_⟩;simp only [bK] at hA;obtain ⟨u0,us0,hv0,hA0,u1,us1,rfl,hA1,rfl⟩:=hA;simp only [Rp] at hA0 hA1;obtain ⟨_,rfl,_⟩:=hA0;obtain ⟨us,rfl,hus⟩:=hA1;simp only [bK] at hus;have hus':us=#[]:=by simpa using hus
 subst hus';obtain rfl:vals=#[φ 0,.func (.func g) #[] #[]]:=by apply CK.1;simpa using hv0
 obtain ⟨hc,hobj⟩:=hI.obj 0 _ rfl;have hperm:=T4 l (λx y=>!(ltOf cf) y x);have hlen:(l.mergeSort λx y=>!(ltOf cf) y x).length=l.length:=hperm.length_eq;rcases hobj with ⟨A0,e0,hnil⟩ | ⟨b,c,cur,E,e0,e1,e2,e3,e4,e5,e6⟩
 ·have:l=[]:=by simpa using hnil
  subst this;rw [e0];refine (AnyF.slices_SortFunc_none L A0 0 (.func (.func g) #[] #[]) w).mono ?_;rintro e w' ⟨rfl,rfl⟩;have e0':([]:List α).mergeSort (λx y=>!(ltOf cf) y x)=[]:=List.mergeSort_nil;rw [e0'];exact ⟨_,rfl,.tup [],_,h,φ,⟨rfl,rfl⟩,Evo.refl,hI,by simp only [Rp];exact ⟨#[],rfl,by simp [bK]⟩⟩
 ·rw [e0];rw [aL] at e2 e6 ⊢;have hb:b<w.heap.size:=by
   rcases gM b w.heap.size with hh | hh
   ·exact hh
   ·rw [Nx hh] at e1;simp at e1
  have hH:=Yn hk e1 e6;have hsz:l.length*k≤cur.size:=by rw [e4];exact Ny k e2
  have hgh:∀ b' cs,h b'=some cs→b'≠b:=λb' cs e he=>by rw [he,e5] at e;simp at e
  have hC:CmpLays P g #[] enc k cf b 0 l.toArray.size w:=by
   intro m os dk hdk x y;obtain ⟨s1,⟨cur',s2,s3,s4⟩,s5⟩:=Qa (m:=m) (os:=os) (d:=dk) hk e1 (by rw [hdk];simpa using hsz)
   have hI':Inv h φ (sortWorldK enc k w b 0 m dk os) []:=⟨λb' cs e=>by
    obtain ⟨E',fr,hw'⟩:=hI.gh b' cs e;have hb':b'<w.heap.size:=by
     rcases gM b' w.heap.size with hh | hh
     ·exact hh
     ·rw [Nx hh] at hw';simp at hw'
    exact ⟨E',fr,by rw [s1 b' hb' (hgh b' cs e)];exact hw'⟩,λi o e=>by simp at e,λi j oi oj b e=>by simp at e⟩
   have hargs:bK h φ 0 [.ag (cellsOf enc x),.ag (cellsOf enc y)] (#[Value.agg (enc x).toArray,.agg (enc y).toArray]++#[]:Array Value).toList:=by
    have key:∀ l:List Value,bK h φ 0 (l.map .v) l:=by
     intro l
     induction l with
     | nil=>simp [bK]
     | cons c l ih=>simp only [fE,bK];exact ⟨c,l,rfl,by simp [Rp],ih⟩
    simp only [bK];exact ⟨_,_,rfl,by simp only [Rp];exact ⟨_,rfl,key (enc x)⟩,_,_,rfl,by simp only [Rp];exact ⟨_,rfl,key (enc y)⟩,rfl⟩
   rcases hcmp x y h φ _ _ hG hI' hargs with ⟨_,hc⟩ | ⟨v,w',hc,_⟩
   ·refine hc.mono ?_;rintro e w' ⟨v,rfl,r,T',h',φ',⟨rfl,rfl⟩,hE,hI2,hv⟩;simp only [Rp] at hv;subst hv;refine ⟨rfl,w'.drawn-(sortWorldK enc k w b 0 m dk os).drawn,w'.heap.extract (sortWorldK enc k w b 0 m dk os).heap.size w'.heap.size,?_⟩;have hd:=hE.drawn;have hheap:w'.heap=(sortWorldK enc k w b 0 m dk os).heap++w'.heap.extract (sortWorldK enc k w b 0 m dk os).heap.size w'.heap.size:=by
     apply Array.ext_getElem?;intro i;rcases gM i (sortWorldK enc k w b 0 m dk os).heap.size with hi | hi
     ·rw [Ts hi,hE.frame i hi (λj o e=>by simp at e)]
     ·rw [Array.getElem?_append_right hi];have:=hE.size;rw [Array.getElem?_extract];split
      ·congr 1;omega
      ·rw [Nx (by omega)]
    have e7:=hE.os;have e8:=hE.tape;have e9:=hE.output;revert hd hheap e7 e8 e9;generalize sortWorldK enc k w b 0 m dk os=W;intro hd hheap e7 e8 e9;obtain ⟨hp,tp,dr,o,op⟩:=w';simp only at hheap hd e7 e8 e9;subst e7;subst e8;subst e9;simp only [Go.Sort.grow,World.drewN];rw [←hheap];congr 1;omega
   ·rw [eg] at hc;simp at hc
  refine (AnyQ.slices_SortFunc_total L k aE zE enc hk h1 cf hO g #[] b 0 (c+1) l.toArray w eg hC hH hb (by simpa using hl) hT).mono ?_;rintro e w' ⟨rfl,n,os,rfl⟩;generalize (l.mergeSort λx y=>!(ltOf cf) y x)=l' at hlen;obtain ⟨s1,⟨cur',s2,s3,s4⟩,s5⟩:=Qa (m:=n) (os:=os) (d:=l'.toArray) hk e1 (by simpa [hlen] using hsz);have:=DW (w':=sortWorldK enc k w b 0 n l'.toArray os) (o':=.arr k (l'.map (cellsOf enc))) hI rfl rfl rfl s5 (i:=0) (o:=.arr k (l.map (cellsOf enc))) rfl
   (λb' hb' hne=>s1 b' hb' (λe=>hne (by rw [e0,e];rfl)))
   ⟨λx hx=>by
    obtain ⟨y,_,rfl⟩:=cZ.1 hx
    exact ⟨by simp [cellsOf,hk],hcl y⟩,.inr ⟨b,c,cur',E,by rw [aL,hlen];simpa using e0,s2,by rw [aL,hlen];exact e2,e3,by rw [s3];exact e4,e5,by
     rw [aL,FB];simp only [Lt] at s4;rw [s4]
     exact Ku⟩⟩
   (Nat.le_add_right _ _)
  exact ⟨_,rfl,.tup [],_,h,φ,⟨rfl,rfl⟩,this.2,this.1,by simp only [Rp];exact ⟨#[],rfl,by simp [bK]⟩⟩
end
end Hud
end
section
namespace Go.Proofs
open Go.Shelf
def Tryz.laysSortC_ren:Go.Shelf.Ren:=⟨fun | 6=>108 | 15=>145 | 14=>179 | 28=>217 | 29=>218 | 20=>232 | 21=>233 | 22=>234 | 23=>235 | 24=>236 | 25=>237 | 26=>238 | 27=>239 | 46=>312 | 47=>283 | 48=>284 | 49=>313 | 50=>314 | 57=>342 | n=>n,fun | 22=>26 | 24=>121 | 25=>179 | 3=>3 | 39=>213 | 0=>0 | 53=>278 | 55=>23 | 4=>4 | 46=>272 | 45=>271 | 50=>156 | 5=>5 | 9=>9 | 66=>328 | 70=>331 | 76=>360 | 77=>361 | n=>n,fun | n=>n⟩
def Tryz.laysSortC:Go.Proofs.SlLaysF0.n6 Tryz.prog Tryz.laysSortC_ren:={
 mixed:=by kernel_rfl
 f6:=⟨Tryz.f108.name,by decide,Tryz.func108.trans (congrArg some (by kernel_rfl))⟩
 f14:=⟨Tryz.f179.name,by decide,Tryz.func179.trans (congrArg some (by kernel_rfl))⟩
 f15:=Tryz.func145.trans (congrArg some (by kernel_rfl))
 f20:=⟨Tryz.f232.name,by decide,Tryz.func232.trans (congrArg some (by kernel_rfl))⟩
 f21:=⟨Tryz.f233.name,by decide,Tryz.func233.trans (congrArg some (by kernel_rfl))⟩
 f22:=⟨Tryz.f234.name,by decide,Tryz.func234.trans (congrArg some (by kernel_rfl))⟩
 f23:=⟨Tryz.f235.name,by decide,Tryz.func235.trans (congrArg some (by kernel_rfl))⟩
 f24:=⟨Tryz.f236.name,by decide,Tryz.func236.trans (congrArg some (by kernel_rfl))⟩
 f25:=⟨Tryz.f237.name,by decide,Tryz.func237.trans (congrArg some (by kernel_rfl))⟩
 f26:=⟨Tryz.f238.name,by decide,Tryz.func238.trans (congrArg some (by kernel_rfl))⟩
 f27:=⟨Tryz.f239.name,by decide,Tryz.func239.trans (congrArg some (by kernel_rfl))⟩
 f28:=Tryz.func217.trans (congrArg some (by kernel_rfl))
 f29:=Tryz.func218.trans (congrArg some (by kernel_rfl))
 f46:=⟨Tryz.f312.name,by decide,Tryz.func312.trans (congrArg some (by kernel_rfl))⟩
 f47:=Tryz.func283.trans (congrArg some (by kernel_rfl))
 f48:=Tryz.func284.trans (congrArg some (by kernel_rfl))
 f49:=⟨Tryz.f313.name,by decide,Tryz.func313.trans (congrArg some (by kernel_rfl))⟩
 f50:=⟨Tryz.f314.name,by decide,Tryz.func314.trans (congrArg some (by kernel_rfl))⟩
 f57:=⟨Tryz.f342.name,by decide,Tryz.func342.trans (congrArg some (by kernel_rfl))⟩
 t0:=Tryz.underlying0
 a0:=Tryz.isAgg0
 z0:=Tryz.sizeOf0
 v0:=Tryz.zeroValue0
 t3:=Tryz.underlying3
 a3:=Tryz.isAgg3
 z3:=Tryz.sizeOf3
 v3:=Tryz.zeroValue3
 t4:=Tryz.underlying4
 a4:=Tryz.isAgg4
 z4:=Tryz.sizeOf4
 v4:=Tryz.zeroValue4
 t5:=Tryz.underlying5
 a5:=Tryz.isAgg5
 z5:=Tryz.sizeOf5
 v5:=Tryz.zeroValue5
 t9:=Tryz.underlying9
 a9:=Tryz.isAgg9
 z9:=Tryz.sizeOf9
 v9:=Tryz.zeroValue9
 t22:=Tryz.underlying26
 a22:=Tryz.isAgg26
 z22:=Tryz.sizeOf26
 v22:=Tryz.zeroValue26
 t25:=Tryz.underlying179
 a25:=Tryz.isAgg179
 z25:=Tryz.sizeOf179
 v25:=Tryz.zeroValue179
 t39:=Tryz.underlying213
 a39:=Tryz.isAgg213
 z39:=Tryz.sizeOf213
 v39:=Tryz.zeroValue213
 t45:=Tryz.underlying271
 a45:=Tryz.isAgg271
 z45:=Tryz.sizeOf271
 v45:=Tryz.zeroValue271
 t46:=Tryz.underlying272
 a46:=Tryz.isAgg272
 z46:=Tryz.sizeOf272
 v46:=Tryz.zeroValue272
 t50:=Tryz.underlying156
 a50:=Tryz.isAgg156
 z50:=Tryz.sizeOf156
 v50:=Tryz.zeroValue156
 t53:=Tryz.underlying278
 a53:=Tryz.isAgg278
 z53:=Tryz.sizeOf278
 v53:=Tryz.zeroValue278
 t55:=Tryz.underlying23
 a55:=Tryz.isAgg23
 z55:=Tryz.sizeOf23
 v55:=Tryz.zeroValue23
 t66:=Tryz.underlying328
 a66:=Tryz.isAgg328
 z66:=Tryz.sizeOf328
 v66:=Tryz.zeroValue328
 t70:=Tryz.underlying331
 a70:=Tryz.isAgg331
 z70:=Tryz.sizeOf331
 v70:=Tryz.zeroValue331
 t76:=Tryz.underlying360
 a76:=Tryz.isAgg360
 z76:=Tryz.sizeOf360
 v76:=Tryz.zeroValue360
 t77:=Tryz.underlying361
 a77:=Tryz.isAgg361
 z77:=Tryz.sizeOf361
 v77:=Tryz.zeroValue361 }
end Go.Proofs
end
namespace Hud
open Go
section
section
variable {G:Nat→Option (List AV)}
set_option maxHeartbeats 2000000
def Kv (x y:Id):aC PQ G BH [.ag x.A,.ag y.A] [] λr T=>r=.v (.bool (x.lt y))∧T=[]:=by
 refine aD MF (by decide) ?_;simp only [go_sem,Id.A];refine aK (λh=>?_) (λh=>?_)<;>simp only [go_sem]
 ·simp_all [Id.lt]
 ·refine aK (λh2=>?_) (λh2=>?_)<;>simp only [go_sem]<;>simp_all [Id.lt]
def B2 (x:Int):aC PQ G lW [.v (.int .i64 x)] [] λr T=>r=.v (.bool false)∧T=[]:=by
 refine aD xA (by decide) ?_;unfold uQ;simp only [go_sem,bne_self_eq_false]
def xB (x:Int):aC PQ G jG [.v (.int .u64 x)] [] λr T=>r=.v (.bool false)∧T=[]:=by
 refine aD sD (by decide) ?_;unfold qE;simp only [go_sem,bne_self_eq_false]
def D8 (x y:Int):Int:=if x<y then -1 else if y<x then 1 else 0
def yK (x y:Int):aC PQ G gZ [.v (.int .i64 x),.v (.int .i64 y)] [] λr T=>r=.v (.int .i64 (D8 x y))∧T=[]:=by
 refine aD tW (by decide) ?_;unfold rM;simp only [go_sem];refine aB (aA _) rfl (B2 x) rfl ?_;simp only [go_sem];refine aB (aA _) rfl (B2 y) rfl ?_;simp only [go_sem];refine aK (λh=>?_) (λh=>?_)<;>simp only [go_sem]
 ·simp_all [D8]
 ·refine aK (λh2=>?_) (λh2=>?_)<;>simp only [go_sem]<;>simp_all [D8];omega
def C7 (x y:Int):aC PQ G jX [.v (.int .u64 x),.v (.int .u64 y)] [] λr T=>r=.v (.int .i64 (D8 x y))∧T=[]:=by
 refine aD qP (by decide) ?_;unfold nL;simp only [go_sem];refine aB (aA _) rfl (xB x) rfl ?_;simp only [go_sem];refine aB (aA _) rfl (xB y) rfl ?_;simp only [go_sem];refine aK (λh=>?_) (λh=>?_)<;>simp only [go_sem]
 ·simp_all [D8]
 ·refine aK (λh2=>?_) (λh2=>?_)<;>simp only [go_sem]<;>simp_all [D8];omega
end
def I1 (x:Int):List AV:=[.v (.int .i64 x)]
def aD5 (x:Int):I1 x=[.v (.int .i64 x)]:=rfl
abbrev ints (l:List Int):AV:=.ls 1 (l.map I1)
def zY (n m:Int):Int:=(if n<0 then -(n+1) else n)%m
def vS:List Int→Int
 | []=>0
 | x::r=>if x=0 then vS r else x
def Oh {l:List Int} {i:Nat} (h:∀ j,j<i→l.getD j 0=0) (hi:i<l.length) (hx:l[i]≠0):vS l=l[i]:=by
 induction l generalizing i with
 | nil=>simp at hi
 | cons a l ih =>
  cases i with
  | zero=>simp only [List.getElem_cons_zero] at hx ⊢;simp [vS,hx]
  | succ i =>
   have h0:a=0:=by simpa using h 0 (by omega)
   grind [vS]
def Oi {l:List Int} (h:∀ j,j<l.length→l.getD j 0=0):vS l=0:=by
 induction l with
 | nil=>rfl
 | cons a l ih =>
  have h0:a=0:=by simpa using h 0 (by simp)
  simp only [vS,h0,if_true];exact ih λj hj=>by simpa using h (j+1) (by simpa using hj)
theorem aD6 {x y:Int}:D8 x y=0↔x=y:=by
 grind [D8]
theorem aD7 {x y:Int}:D8 x y<0↔x<y:=by
 grind [D8]
def aD8 (x y:Id):decide (vS [D8 x.a y.a,D8 x.b y.b,D8 x.c y.c]<0)=x.lt y:=by
 rw [rX];grind [vS,Id.lt,aD6,aD7]
section
variable {G:Nat→Option (List AV)}
set_option maxHeartbeats 2000000
def Oj (l:List Int) (hl:l.length≤maxLen):aC PQ G rF [ints l] [] λr T=>r=.v (.int .i64 (vS l))∧T=[]:=by
 refine aD B0 (by decide) ?_;unfold Ba;unfold maxLen at hl;simp only [go_sem,aL];refine aJ l.length (λi=>⟨0,[(3,.v (.int .i64 0)),(6,ints l),(7,.v (.int .i64 l.length)),(8,.v (.int .i64 i))],[]⟩) (λi=>∀ j,j<i→l.getD j 0=0) ?_ (by simp) ?_ ?_
 ·rfl
 ·intro i hi hj;simp only [go_sem,bG hi,aI I1 l i hi,aD5];refine aK (λh=>?_) (λh=>?_)<;>simp only [go_sem,aF (show i<9223372036854775807 by omega)]
  ·rw [Oh hj hi (by simpa using h)]
  ·grind
 ·intro hj;simp only [go_sem,aX (cN _),Oi hj]
def Wb (x y:Id):aC PQ G wG [.ag x.A,.ag y.A] [] λr T=>r=.v (.bool (x.lt y))∧T=[]:=by
 refine aD GC (by decide) ?_;unfold HF;simp only [go_sem,Id.A];refine aB (aA _) rfl (yK x.a y.a) rfl ?_;simp only [go_sem];refine aB (aA _) rfl (yK x.b y.b) rfl ?_;simp only [go_sem];refine aB (aA _) rfl (C7 x.c y.c) rfl ?_;simp only [go_sem];refine rB (aA _) rfl rfl (Oj [D8 x.a y.a,D8 x.b y.b,D8 x.c y.c] (by simp [maxLen])) ?_;simp only [go_sem];rw [aD8]
def GE (n m:Int) (h1:-9223372036854775808≤n) (h2:n≤9223372036854775807) (h3:1≤m) (h4:m≤9223372036854775807) :
  aC PQ G vK [.v (.int .i64 n),.v (.int .i64 m)] [] λr T=>r=.v (.int .i64 (zY n m))∧T=[]:=by
 refine aD IS (by decide) ?_;have hm:¬m=0:=by omega
 simp only [go_sem];refine aK (λh=>?_) (λh=>?_)<;>simp only [go_sem,hm]
 ·have hn:n<0:=by simpa using h
  rw [bF (n:=n+1) (by omega) (by omega),bF (by omega) (by omega)];grind [zY,Int.zero_sub]
 ·grind [zY]
def MJ (x y:List Id) (hl:x.length≤maxLen):aC PQ G zL [ids x,ids y] [] λr T=>r=.v (.bool (decide (x=y)))∧T=[]:=by
 refine aD HE (by decide) ?_;unfold maxLen at hl;simp only [go_sem,aL];refine aK (λh=>?_) (λh=>?_)<;>simp only [go_sem]
 ·have:x≠y:=λe=>aCR h (by rw [e]);simp [this]
 have hxy:=aCS h;refine aJ x.length (λi=>⟨0,[(0,ids x),(1,ids y),(5,.v (.int .i64 i))],[]⟩) (λi=>x.take i=y.take i) ?_ (by simp) ?_ ?_
 ·rfl
 ·intro i hi hj;have hy:i<y.length:=by omega
  simp only [go_sem,aL,bG hi,aI Id.A x i hi,aI Id.A y i hy,Id.A_def];refine aK (λh=>?_) (λh=>?_)<;>simp only [go_sem,aF (show i<9223372036854775807 by omega)]
  ·have:x≠y:=by rintro rfl;simp at h
   simp [this]
  ·have:x[i]=y[i]:=by simpa using h
   rw [oV hi,oV hy,hj,this]
 ·intro hj;have:x=y:=by
   grind
  simp only [go_sem,aL,aX (cN _),this]
def tY (l:List Id) (x:Id) (hl:l.length≤maxLen):aC PQ G nA [ids l,.ag x.A] [] λr T=>r=.v (.bool (decide (x∈l)))∧T=[]:=by
 refine aD Km (by decide) ?_;unfold maxLen at hl;simp only [go_sem,Id.A_def];refine aJ l.length (λi=>⟨0,[(0,ids l),(3,.ptr 0 0),(5,.v (.int .i64 i))],[some (.box x.A)]⟩) (λi=>x∉l.take i) ?_ (by simp) ?_ ?_
 ·rfl
 ·intro i hi hj;simp only [go_sem,aL,bG hi,aI Id.A l i hi,Id.A_def];refine aK (λh=>?_) (λh=>?_)<;>simp only [go_sem,aF (show i<9223372036854775807 by omega)]
  ·grind
  ·refine ⟨rfl,?_⟩;have:l[i]≠x:=by simpa using h
   intro hx;rw [oV hi] at hx;grind
 ·intro hj;rw [lP] at hj;simp only [go_sem,aL,aX (cN _),hj]
end
def FC (x:Id) (out:List Id):Nat→Nat
 | 0=>0
 | n+1=>match out[n]? with | some y=>if x.lt y then FC x out n else n+1 | none=>n+1
def MK (out:List Id) (x:Id):List Id:=out.take (FC x out out.length)++[x]++out.drop (FC x out out.length)
def fR (l:List Id):List Id:=l.foldl MK []
def Um (x:Id) (out:List Id):∀ n,FC x out n≤n
 | 0=>cT _
 | n+1=>by
  simp only [FC];split
  ·split
   ·have:=Um x out n;omega
   ·omega
  ·omega
def Yo (out:List Id) (x:Id):(MK out x).length=out.length+1:=by
 grind [MK,List.length_append,List.length_take,List.length_drop,List.length_cons,List.length_nil]
def Wc (l:List Id):∀ out,(l.foldl MK out).length=out.length+l.length:=by
 induction l with
 | nil=>simp
 | cons x l ih=>intro out;simp only [Gm,ih,Yo,wJ];omega
def NF (l:List Id):(fR l).length=l.length:=by simp [fR,Wc]
def Sm (l:List Id) (i:Nat) (h:i<l.length):fR (l.take (i+1))=MK (fR (l.take i)) l[i]:=by
 rw [oV h,fR,Pk];rfl
section
variable {G:Nat→Option (List AV)}
set_option maxHeartbeats 2000000
def rN (l:List Id) (hl:l.length≤1000000000):aC PQ G nW [ids l] [] λr T=>r=.own 0∧T=[some (.arr 3 ((fR l).map Id.A))]:=by
 refine aD IR (by decide) ?_;simp only [go_sem];refine aJ l.length (λi=>⟨0,[(0,ids l),(3,.own 0),(4,.v (.int .i64 i))],[some (.arr 3 ((fR (l.take i)).map Id.A))]⟩) (λ_=>True) ?_ trivial ?_ ?_
 ·rfl
 ·intro i hi _;simp only [go_sem,aL,bG hi];have hn:=NF (l.take i);rw [kM] at hn;have hp:=Um l[i] (fR (l.take i)) (fR (l.take i)).length;refine wD (λs=>s=⟨0,[(0,ids l),(3,.own 0),(4,.v (.int .i64 i)),(5,.v (.int .i64 (FC l[i] (fR (l.take i)) (fR (l.take i)).length:Nat)))],[some (.arr 3 ((fR (l.take i)).map Id.A))]⟩) ?_ ?_
  ·refine aAF (fR (l.take i)).length (λk=>⟨0,[(0,ids l),(3,.own 0),(4,.v (.int .i64 i)),(5,.v (.int .i64 k))],[some (.arr 3 ((fR (l.take i)).map Id.A))]⟩) (λk=>FC l[i] (fR (l.take i)) (fR (l.take i)).length=FC l[i] (fR (l.take i)) k) ?_ rfl ?_ ?_
   ·simp only [go_sem]
   ·intro k hk hj;have hnth:=aI Id.A (fR (l.take i)) k hk;simp only [go_sem,aL,aI Id.A l i hi,Dd (show k<9223372036854775807 by omega),hk,hnth,Id.A_def];refine aB (aA _) rfl (Kv l[i] (fR (l.take i))[k]) rfl ?_;simp only [go_sem];refine aK (λh=>?_) (λh=>?_)<;>simp only [go_sem,Dd (show k<9223372036854775807 by omega)]
    ·grind [FC]
    ·grind [FC]
   ·intro hj;simp only [go_sem,hj,FC]
  ·rintro s rfl;generalize hq:FC l[i] (fR (l.take i)) (fR (l.take i)).length=p at hp
   simp only [go_sem,aL,kM,xS,gK,Mn hp,hp,Pp,qT,B8,aI Id.A l i hi,Id.A_def,show p*24≤140737488355328 by omega,show p≤maxLen by unfold maxLen;omega,show (p+1)*24≤140737488355328 by omega,show p+1≤maxLen by unfold maxLen;omega,
    show p+((fR (l.take i)).length-p)=(fR (l.take i)).length by omega,aF (show i<9223372036854775807 by omega),
    show (p+1+((fR (l.take i)).length-p))*24≤140737488355328 by omega,show p+1+((fR (l.take i)).length-p)≤maxLen by unfold maxLen;omega,cT,jI]
   rw [Sm l i hi,MK,hq];simp only [jA,UB,List.map_drop,fE,Id.A_def,jI,fX,gW]
 ·intro _;simp only [go_sem,aL,aX (cN _),lP]
end
def Id.K (x:Id):List Value:=[.int .i64 x.a,.int .i64 x.b,.int .u64 x.c]
section
variable {G:Nat→Option (List AV)}
end
end
section
def B3 {α:Type} {p:α→Bool} {l:List α} {i:Nat} (hi:i<l.length) (h:p l[i]=false):l.all p=false:=by
 grind
def yL {α:Type} {p:α→Bool} {l:List α} (h:∀ j (hj:j<l.length),j<l.length→p l[j]=true):l.all p=true:=by
 rw [lF];intro x hx;obtain ⟨j,hj,rfl⟩:=AG hx;exact h j hj hj
def rO {α:Type} {p:α→Bool} {l:List α} {i:Nat} (hi:i<l.length) (hJ:∀ j (hj:j<l.length),j<i→p l[j]=true) (h:p l[i]=true):∀ j (hj:j<l.length),j<i+1→p l[j]=true:=λj hj hji=>by
 grind
section
variable {G:Nat→Option (List AV)}
set_option maxHeartbeats 4000000
def Wd (o:OpM):aC PQ G sU [.ag o.A] [] λr T=>r=.v (.bool (dU o))∧T=[]:=by
 refine aD G6 (by decide) ?_;simp only [go_sem]
 repeat' (first
  | ((with_reducible refine aK (λh=>?_) (λh=>?_))<;>(try simp only [rW,lG,lR] at h)<;>simp only [go_sem,aL,h,undef])
  | (with_reducible refine cK (f:=cM) ?_;refine aB (aA _) rfl (Cx _ _ _) rfl ?_;simp only [go_sem,aL,undef])
  | (with_reducible refine cK (f:=gQ) ?_;refine aB (aA _) rfl (Cy _) rfl ?_;simp only [go_sem,aL,undef])
  | (with_reducible refine cK (f:=iJ) ?_;refine aB (aA _) rfl (BW _) rfl ?_;simp only [go_sem,aL,undef]))
 all_goals simp_all [dU]
def Un (l:List BoxM) (hl:l.length<9223372036854775807):aC PQ G tT [De l] [] λr T=>r=.v (.bool (l.all sI))∧T=[]:=by
 refine aD KV (by decide) ?_;simp only [go_sem];refine aJ l.length (λi=>⟨0,[(0,De l),(3,iv i)],[]⟩) (λi=>∀ j (hj:j<l.length),j<i→sI l[j]=true) ?_ (by intro j hj h;omega) ?_ ?_
 ·simp only [go_sem]
 ·intro i hi hJ;have g0:(l.map BoxM.A)[i]?=some [uv l[i].To,uv l[i].Eph,uv l[i].Body,uv l[i].Tag]:=aI _ l i hi;simp only [go_sem,aL,bG hi,g0]
  repeat' (first
   | ((with_reducible refine aK (λh=>?_) (λh=>?_))<;>(try simp only [rW,lG,lR] at h)<;>simp only [go_sem,aL,hi,g0,aF (show i<9223372036854775807 by omega),h,undef])
   | (with_reducible refine cK (f:=iJ) ?_;refine aB (aA _) rfl (BW _) rfl ?_;simp only [go_sem,aL,hi,g0,aF (show i<9223372036854775807 by omega),undef])
   | (with_reducible refine cK (f:=tS) ?_;refine aB (aA _) rfl (Ke _) rfl ?_;simp only [go_sem,aL,hi,g0,aF (show i<9223372036854775807 by omega),undef]))
  all_goals first
   | exact rO hi hJ (by clear hJ g0;generalize l[i]=x at *;simp_all [sI])
   | rw [B3 hi (by clear hJ g0;generalize l[i]=x at *;simp_all [sI])]
 ·intro hJ;simp only [go_sem,aL,aX (cN _),yL hJ]
def aAS (o:OpM) (ho:o.ok):aC PQ G yC [.ag o.A] [] λr T=>r=.v (.bool (qB o))∧T=[]:=by
 refine aD KS (by decide) ?_;have l1:=ho.guards.1;have l2:=ho.refs.1;have l3:=ho.past.1;have l4:=ho.path.1;have l5:=ho.hist.1;have l6:=ho.boxes.1;simp only [go_sem];refine aJ o.Guards.length (λi=>⟨0,[(1,.ptr 0 0),(3,iv i)],[some (.box o.A)]⟩) (λi=>∀ j (hj:j<o.Guards.length),j<i→uO o.Guards[j]=true) ?_ (by intro j hj h;omega) ?_ ?_
 ·simp only [go_sem]
 ·intro i hi hJ;have g0:(o.Guards.map λn=>[iv n])[i]?=some [iv o.Guards[i]]:=aI _ o.Guards i hi;have hlen:o.Guards.length<9223372036854775807:=by omega
  simp only [go_sem,aL,bG hi,g0]
  repeat' (first
   | ((with_reducible refine aK (λh=>?_) (λh=>?_))<;>(try simp only [rW,lG,lR] at h)<;>simp only [go_sem,aL,hi,g0,aF (show i<9223372036854775807 by omega),h,undef])
   | (with_reducible refine cK (f:=cM) ?_;refine aB (aA _) rfl (Cx _ _ _) rfl ?_;simp only [go_sem,aL,hi,g0,aF (show i<9223372036854775807 by omega),undef]))
  all_goals first
   | exact rO hi hJ (by clear hJ g0;generalize o.Guards[i]=x at *;simp_all [uO])
   | (have e:=B3 (p:=uO) hi (by clear hJ g0;generalize o.Guards[i]=x at *;simp_all [uO]);simp [qB,e])
 intro hJ;simp only [go_sem,aL,aX (cN _)];have h3:=yL hJ;clear hJ;refine aJ o.Refs.length (λi=>⟨0,[(1,.ptr 0 0),(4,iv i)],[some (.box o.A)]⟩) (λi=>∀ j (hj:j<o.Refs.length),j<i→OU o.Refs[j]=true) ?_ (by intro j hj h;omega) ?_ ?_
 ·simp only [go_sem]
 ·intro i hi hJ;have g0:(ul o.Refs)[i]?=some [uv o.Refs[i]]:=aI _ o.Refs i hi;have hlen:o.Refs.length<9223372036854775807:=by omega
  simp only [go_sem,aL,bG hi,g0]
  repeat' (first
   | ((with_reducible refine aK (λh=>?_) (λh=>?_))<;>(try simp only [rW,lG,lR] at h)<;>simp only [go_sem,aL,hi,g0,aF (show i<9223372036854775807 by omega),h,undef])
   | (with_reducible refine cK (f:=tS) ?_;refine aB (aA _) rfl (Ke _) rfl ?_;simp only [go_sem,aL,hi,g0,aF (show i<9223372036854775807 by omega),undef]))
  all_goals first
   | exact rO hi hJ (by clear hJ g0;generalize o.Refs[i]=x at *;simp_all [OU])
   | (have e:=B3 (p:=OU) hi (by clear hJ g0;generalize o.Refs[i]=x at *;simp_all [OU]);simp [qB,e])
 intro hJ;simp only [go_sem,aL,aX (cN _)];have h4:=yL hJ;clear hJ;refine aJ o.Past.length (λi=>⟨0,[(1,.ptr 0 0),(5,iv i)],[some (.box o.A)]⟩) (λi=>∀ j (hj:j<o.Past.length),j<i→gN o.Past[j]=true) ?_ (by intro j hj h;omega) ?_ ?_
 ·simp only [go_sem]
 ·intro i hi hJ;have g0:(o.Past.map Id.A)[i]?=some o.Past[i].A:=aI _ o.Past i hi;have hlen:o.Past.length<9223372036854775807:=by omega
  simp only [go_sem,aL,bG hi,g0]
  repeat' (first
   | ((with_reducible refine aK (λh=>?_) (λh=>?_))<;>(try simp only [rW,lG,lR] at h)<;>simp only [go_sem,aL,hi,g0,aF (show i<9223372036854775807 by omega),h,undef])
   | (with_reducible refine cK (f:=gQ) ?_;refine aB (aA _) rfl (Cy _) rfl ?_;simp only [go_sem,aL,hi,g0,aF (show i<9223372036854775807 by omega),undef]))
  all_goals first
   | exact rO hi hJ (by clear hJ g0;generalize o.Past[i]=x at *;simp_all [gN])
   | (have e:=B3 (p:=gN) hi (by clear hJ g0;generalize o.Past[i]=x at *;simp_all [gN]);simp [qB,e])
 intro hJ;simp only [go_sem,aL,aX (cN _)];have h5:=yL hJ;clear hJ;refine aJ o.Path.length (λi=>⟨0,[(1,.ptr 0 0),(6,iv i)],[some (.box o.A)]⟩) (λi=>∀ j (hj:j<o.Path.length),j<i→C0 o.Path[j]=true) ?_ (by intro j hj h;omega) ?_ ?_
 ·simp only [go_sem]
 ·intro i hi hJ;have g0:(o.Path.map NodeM.A)[i]?=some [uv o.Path[i].Pub,De o.Path[i].Boxes]:=aI _ o.Path i hi;have hlen:o.Path.length<9223372036854775807:=by omega
  have lb:o.Path[i].Boxes.length<9223372036854775807:=by have:=(ho.path.2 _ (iN hi)).2.1;omega
  simp only [go_sem,aL,bG hi,g0]
  repeat' (first
   | ((with_reducible refine aK (λh=>?_) (λh=>?_))<;>(try simp only [rW,lG,lR] at h)<;>simp only [go_sem,aL,hi,g0,aF (show i<9223372036854775807 by omega),h,undef])
   | (with_reducible refine cK (f:=iJ) ?_;refine aB (aA _) rfl (BW _) rfl ?_;simp only [go_sem,aL,hi,g0,aF (show i<9223372036854775807 by omega),undef])
   | (with_reducible refine cK (f:=tT) ?_;refine aB (aA _) rfl (Un _ lb) rfl ?_;simp only [go_sem,aL,hi,g0,aF (show i<9223372036854775807 by omega),undef]))
  all_goals first
   | exact rO hi hJ (by clear hJ g0;generalize o.Path[i]=x at *;simp_all [C0])
   | (have e:=B3 (p:=C0) hi (by clear hJ g0;generalize o.Path[i]=x at *;simp_all [C0]);simp [qB,e])
 intro hJ;simp only [go_sem,aL,aX (cN _)];have h6:=yL hJ;clear hJ;refine aJ o.Hist.length (λi=>⟨0,[(1,.ptr 0 0),(7,iv i)],[some (.box o.A)]⟩) (λi=>∀ j (hj:j<o.Hist.length),j<i→C1 o.Hist[j]=true) ?_ (by intro j hj h;omega) ?_ ?_
 ·simp only [go_sem]
 ·intro i hi hJ;have g0:(o.Hist.map SealM.A)[i]?=some [.v (.int .i64 o.Hist[i].Of.a),.v (.int .i64 o.Hist[i].Of.b),.v (.int .u64 o.Hist[i].Of.c),.ls 1 (bl o.Hist[i].Body)]:=aI _ o.Hist i hi;have hlen:o.Hist.length<9223372036854775807:=by omega
  simp only [go_sem,aL,bG hi,g0]
  repeat' (first
   | ((with_reducible refine aK (λh=>?_) (λh=>?_))<;>(try simp only [rW,lG,lR] at h)<;>simp only [go_sem,aL,hi,g0,aF (show i<9223372036854775807 by omega),h,undef])
   | (with_reducible refine cK (f:=gQ) ?_;refine aB (aA _) rfl (Cy o.Hist[i].Of) rfl ?_;simp only [go_sem,aL,hi,g0,aF (show i<9223372036854775807 by omega),undef]))
  all_goals first
   | exact rO hi hJ (by clear hJ g0;generalize o.Hist[i]=x at *;simp_all [C1])
   | (have e:=B3 (p:=C1) hi (by clear hJ g0;generalize o.Hist[i]=x at *;simp_all [C1]);simp [qB,e])
 intro hJ;simp only [go_sem,aL,aX (cN _)];have h7:=yL hJ;clear hJ;refine aB (aA _) rfl (Un o.Boxes (by omega)) rfl ?_;simp only [go_sem,qB,h3,h4,h5,h6,h7,kN]
end
end
section
structure CE where
 i:Nat
 d:Nat
 f:Nat
 xs:List Operand
structure IE where
 i:Nat
 k:Int
 s:Nat
 n:Nat
 deriving DecidableEq
def GF {s:List (Nat×AV)} {j:Nat} (h:j∉s.map (·.1)):Fa s j=s:=by
 induction s with
 | nil=>rfl
 | cons p s ih =>
  grind [Fa]
def AW {s:List (Nat×AV)} {j:Nat} {x:AV} (hn:(s.map (·.1)).Nodup) (h:(j,x)∈s):aP s j=x:=by
 induction s with
 | nil=>simp at h
 | cons p s ih =>
  grind [List.nodup_cons,aP]
def Qb {s:List (Nat×AV)} {j:Nat} (h:j∈s.map (·.1)):(j,aP s j)∈s:=by
 induction s with
 | nil=>simp at h
 | cons p s ih =>
  grind [aP]
def We {s t:List (Nat×AV)} (hn:(t.map (·.1)).Nodup) (h:s.Perm t) {j:Nat} (hj:j∈t.map (·.1)):aP s j=aP t j :=
 AW ((h.map _).nodup_iff.2 hn) (h.mem_iff.2 (Qb hj))
def Sn {s t:List (Nat×AV)} (hn:(s.map (·.1)).Nodup) (h:s.Perm t):oH s=oH t:=by
 induction h with
 | nil=>rfl
 | cons p h ih=>simp only [fE,IA] at hn;simp only [oH];rw [ih hn.2]
 | swap p q l =>
  simp only [fE,IA,jB,not_or] at hn;simp only [oH];generalize oH l=l';have hne:q.1≠p.1:=hn.1.1
  induction l' with
  | nil =>
   grind [IC]
  | cons x l' ih =>
   grind [IC]
 | trans h1 h2 ih1 ih2=>rw [ih1 hn,ih2 ((h1.map _).nodup_iff.1 hn)]
def NG:∀ s:List (Nat×AV),jL [] s=s
 | []=>rfl
 | p::s=>by simp [jL,NG s]
def Qc {r:Nat} {s t:List (Nat×AV)} {T:aH} (hn:(s.map (·.1)).Nodup) (h:s.Perm t):Aq [] ⟨r,s,T⟩=Aq [] ⟨r,t,T⟩:=by
 simp only [Aq,NG,Sn hn h]
def Ok {G:Nat→Option (List AV)} {st:St}:∀ {l:List HOper},(∀ o∈l,lT G st [o])→lT G st l
 | [],_=>trivial
 | o::l,h=>⟨(h o Gk).1,Ok λx hx=>h x (H8 _ hx)⟩
def kW {p:Plan} {E:List Nat} {k:Nat}:k∈p.ready E↔k<p.hops.length∧k∉E∧∀ q∈p.p k,q∈E:=by
 simp_all [Plan.ready,uD,sH,lN,Gl,lF,Gj]
def Qd {p:Plan} {E:List Nat} {o:HOper} (h:o∈p.pend E):∃ q,q∈E∧p.quiet q=true∧(∀ k∈E,p.quiet k=false→q∉p.p k)∧p.hops[q]?=some o:=by
 grind [Plan.pend]
structure PlOk (p:Plan) (Q:List Nat) (z y:Nat) (ci:List Nat) (es:List IE):Prop where
 all:∀ k,k<p.hops.length→k∈Q∨k=0∨k∈ci∨k∈es.map (·.i)∨k=z∨k=y
 lt:∀ k∈0::z::y::(ci++es.map (·.i)),k<p.hops.length
 cp:∀ j,j<ci.length→(j=0∨ci.getD (j-1) 0∈p.p (ci.getD j 0))∧∀ q∈p.p (ci.getD j 0),q∈Q++ci.take j
 ep:∀ e∈es,e.n≤ci.length∧0∈p.p e.i∧(e.n=0∨ci.getD (e.n-1) 0∈p.p e.i)∧∀ q∈p.p e.i,q∈0::(Q++ci.take e.n)
 mp:∀ q∈p.p 0,q∈Q
 zp:(∀ q∈0::(ci++es.map (·.i)),q∈p.p z)∧∀ q∈p.p z,q∈0::(Q++(ci++es.map (·.i)))
 yp:z∈p.p y∧∀ q∈p.p y,q∈z::0::(Q++(ci++es.map (·.i)))
 nd:(Q++0::z::y::(ci++es.map (·.i))).Nodup
 qn:∀ k∈0::y::(ci++es.map (·.i)),p.quiet k=false
 qz:p.quiet z=true
def aAT {T:aH} {ev:Operand→AV}:bO T ev (.mkm false)=some (.mp T.length,T++[some (MP [])]):=bJ rfl rfl
def Qe {T0:aH} {a b:Option AObj}:(T0++[a]).set T0.length b=T0++[b]:=by
 simp
section
variable {P:Program} {G:Nat→Option (List AV)} {p:Plan} {Q:List Nat} {m z y dz dy r0:Nat} {cs:List CE} {es:List IE} {s0:List (Nat×AV)} {T0:aH} {vs:Nat→Bool} {K:St→Prop}
abbrev NH (m:Nat) (cs:List CE) (s0:List (Nat×AV)) (n0:Nat) (vs:Nat→Bool) (mm:Bool) (i:Nat):List (Nat×AV) :=
 s0++((cs.take i).map (λc=>(c.d,.v (.bool (vs c.d))))++if mm then [(m,.mp n0)] else [])
abbrev Yp (T0:aH) (vs:Nat→Bool) (mm:Bool) (D:List IE):aH:=T0++if mm then [some (MP (D.map λe=>(e.k,vs e.s)))] else []
def So {l:List CE} {j:Nat} (hj:j<l.length):(l.map (·.i)).getD j 0=l[j].i:=by simp [hj]
def aD9 (hok:PlOk p Q z y (cs.map (·.i)) es) (h0:p.hops[0]?=some ⟨some m,.mkm false,none⟩)
  (hc:∀ c∈cs,p.hops[c.i]?=some ⟨some c.d,.call (.func c.f) c.xs,none⟩)
  (he:∀ e∈es,p.hops[e.i]?=some ⟨none,.mup false [.int .i64] (.tmp m) (.const (.int .i64 e.k)) (.tmp e.s),none⟩)
  (hz:p.hops[z]?=some ⟨some dz,.mov (.tmp m),none⟩) (hy:p.hops[y]?=some ⟨some dy,.rgm (.tmp dz),none⟩)
  (hkeys:(s0.map (·.1)++(cs.map (·.d)++[m,dz,dy])).Nodup) (hek:(es.map (·.k)).Nodup)
  (hcall:∀ c∈cs,∀ (s:List (Nat×AV)) (T:aH) (K':AV→aH→Prop),(∀ x∈s0.map (·.1),aP s x=aP s0 x)→K' (.v (.bool (vs c.d))) T→EI P G c.f (c.xs.map (cQ G s)) T K')
  (hval:∀ e∈es,(e.s∈s0.map (·.1)∧aP s0 e.s=.v (.bool (vs e.s)))∨(∃ c,cs[e.n-1]?=some c∧0<e.n∧c.d=e.s))
  (hq:∀ (s:List (Nat×AV)) (T:aH),(∀ x∈s0.map (·.1),aP s x=aP s0 x)→(∀ j,j<T0.length→bZ T j=bZ T0 j)→∀ q∈Q,∀ o,p.hops[q]?=some o→lT G ⟨r0,s,T⟩ [o])
  (hcs:0<cs.length)
  (hK:∀ X,X.Perm (es.map λe=>(e.k,vs e.s))→K (Aq [] ⟨r0,(dy,.ptr (T0.length+1) 0)::(dz,.mp T0.length)::NH m cs s0 T0.length vs true cs.length,T0++[some (MP X),some (.mit (some T0.length) X.length [] X.length)]⟩)) :
  ∀ (n:Nat) (gc mm:Bool) (i:Nat) (D:List IE) (E:List Nat) (s:List (Nat×AV)),i≤cs.length→D.Nodup→(∀ e∈D,e∈es∧e.n≤i∧mm=true)→s.Perm (NH m cs s0 T0.length vs mm i) →
   (∀ k,k∈E↔k∈Q∨(mm=true∧k=0)∨k∈(cs.map (·.i)).take i∨k∈D.map (·.i))→(gc=true∨(mm=false∧i=0))→cs.length+es.length+4≤n+i+D.length+mm.toNat →
   sB P G p n gc E ⟨r0,s,Yp T0 vs mm D⟩ K:=by
 have hnd:=H9.1 hok.nd;have hQ:=λk (hk:k∈Q) k2 (hk2:k2∈0::z::y::(cs.map (·.i)++es.map (·.i)))=>hnd.2.2 k hk k2 hk2;have hN:=hnd.2.1;simp only [IA,jB,not_or] at hN;obtain ⟨⟨h0z,h0y,h0m⟩,⟨hzy,hzm⟩,hym,hN⟩:=hN;have hcN:=(H9.1 hN).1;have heN:=(H9.1 hN).2.1;have hce:=(H9.1 hN).2.2;have hkn:=H9.1 hkeys;have keysOf:∀ (mm:Bool) (i:Nat),((NH m cs s0 T0.length vs mm i).map (·.1)).Nodup:=λmm i=>by
  have hsub:((NH m cs s0 T0.length vs mm i).map (·.1)).Sublist (s0.map (·.1)++(cs.map (·.d)++[m,dz,dy])):=by
   simp only [jA,D1];refine List.Sublist.append (List.Sublist.refl _) (List.Sublist.append ?_ ?_)
   ·show ((cs.take i).map _).Sublist _;exact (List.take_sublist i cs).map _
   ·cases mm
    ·exact List.nil_sublist _
    ·exact List.Sublist.cons_cons _ (List.nil_sublist _)
  exact hsub.nodup hkeys
 intro n
 induction n with
 | zero =>
  intro gc mm i D E s hi hD hDe _ _ _ hn;exfalso;have h1:D.length≤es.length:=by
   have:(D.map (·.i)).length≤(es.map (·.i)).length:=tU (by
    refine (Nv.2 ?_);rw [Pj];refine Pd (λ{a b} ha hb hab e=>hab ?_) (Nv.1 hD);have:=hDe a ha;have hb2:=hDe b hb;obtain ⟨ia,hia,rfl⟩:=AG this.1;obtain ⟨ib,hib,rfl⟩:=AG hb2.1;have:=(Mk (h₀:=by simpa using hia) (h₁:=by simpa using hib) heN).1 (by simpa using e)
    subst this;rfl) (λx hx=>by obtain ⟨e,he1,rfl⟩:=cZ.1 hx;exact cZ.2 ⟨e,(hDe e he1).1,rfl⟩)
   simpa using this
  have h2:mm.toNat≤1:=by cases mm<;>decide
  omega
 | succ n ih =>
  intro gc mm i D E s hi hD hDe hs hE hgc hn;have hgetI:∀ j (hj:j<cs.length),(cs.map (·.i)).getD j 0=cs[j].i:=λj hj=>So hj;have hcmem:∀ j (hj:j<cs.length),cs[j].i∈cs.map (·.i):=λj hj=>cZ.2 ⟨_,iN hj,rfl⟩;have hctake:∀ j (hj:j<cs.length),cs[j].i∈(cs.map (·.i)).take i↔j<i:=λj hj=>by
   rw [Pc];constructor
   ·rintro ⟨k,hk,e⟩;simp only [aL] at hk;have:=(Mk (h₀:=by simp;omega) (h₁:=by simpa using hj) hcN).1 (show (cs.map (·.i))[k]'(by simp;omega)=(cs.map (·.i))[j]'(by simpa using hj) by rw [e];simp);omega
   ·intro h;exact ⟨j,by simp;omega,by simp⟩
  have einj:∀ a∈es,∀ b∈es,a.i=b.i→a=b:=λa ha b hb e=>by
   obtain ⟨ia,hia,rfl⟩:=AG ha;obtain ⟨ib,hib,rfl⟩:=AG hb;have:=(Mk (h₀:=by simpa using hia) (h₁:=by simpa using hib) heN).1 (by simpa using e);subst this;rfl
  have hzE:z∉E:=λh=>by
   rcases (hE z).1 h with h | ⟨_,h⟩ | h | h
   ·exact hQ z h z (by simp) rfl
   ·exact h0z h.symm
   ·exact hzm (eM.2 (.inl (Ef h)))
   ·obtain ⟨e,h1,h2⟩:=cZ.1 h;exact hzm (eM.2 (.inr (cZ.2 ⟨e,(hDe e h1).1,h2⟩)))
  have hyR:y∉p.ready E:=λh=>hzE ((kW.1 h).2.2 z hok.yp.1);have h0E:0∈E↔mm=true:=by
   rw [hE];constructor
   ·rintro (h | ⟨h,_⟩ | h | h)
    ·exact (hQ 0 h 0 (by simp) rfl).elim
    ·exact h
    ·exact (h0m (eM.2 (.inl (Ef h)))).elim
    ·obtain ⟨e,h1,h2⟩:=cZ.1 h;exact (h0m (eM.2 (.inr (cZ.2 ⟨e,(hDe e h1).1,h2⟩)))).elim
   ·intro h;exact .inr (.inl ⟨h,rfl⟩)
  have hcE:∀ j (hj:j<cs.length),cs[j].i∈E↔j<i:=λj hj=>by
   rw [hE,hctake j hj];constructor
   ·rintro (h | ⟨_,h⟩ | h | h)
    ·exact (hQ _ h cs[j].i (by simp [hcmem j hj]) rfl).elim
    ·exact (h0m (eM.2 (.inl (h ▸ hcmem j hj)))).elim
    ·exact h
    ·obtain ⟨e,h1,h2⟩:=cZ.1 h;exact (hce _ (hcmem j hj) _ (cZ.2 ⟨e,(hDe e h1).1,rfl⟩) h2.symm).elim
   ·intro h;exact .inr (.inr (.inl h))
  have heE:∀ e∈es,e.i∈E↔e∈D:=λe he1=>by
   have hm:e.i∈es.map (·.i):=cZ.2 ⟨e,he1,rfl⟩;rw [hE];constructor
   ·rintro (h | ⟨_,h⟩ | h | h)
    ·exact (hQ _ h e.i (by simp only [jB,eM];exact .inr (.inr (.inr (.inr hm)))) rfl).elim
    ·exact (h0m (eM.2 (.inr (h ▸ hm)))).elim
    ·exact (hce _ (Ef h) _ hm rfl).elim
    ·obtain ⟨e',h1,h2⟩:=cZ.1 h;rw [←einj e' (hDe e' h1).1 e he1 h2];exact h1
   ·intro h;exact .inr (.inr (.inr (cZ.2 ⟨e,h,rfl⟩)))
  have hgS:∀ (s':List (Nat×AV)) (mm':Bool) (i':Nat),s'.Perm (NH m cs s0 T0.length vs mm' i')→∀ x∈s0.map (·.1),aP s' x=aP s0 x:=λs' mm' i' hp x hx=>by
   have hk:=keysOf mm' i';rw [We hk hp (by simp only [jA,eM];exact .inl hx)];refine AW hk ?_;exact eM.2 (.inl (Qb hx))
  have hqn:∀ q,p.quiet q=true→q∈E→q∈Q:=λq h1 h2=>by
   rcases (hE q).1 h2 with h | ⟨_,h⟩ | h | h
   ·exact h
   ·rw [h,hok.qn 0 (by simp)] at h1;simp at h1
   ·rw [hok.qn q (by simp only [jB,eM];exact .inr (.inr (.inl (Ef h))))] at h1;simp at h1
   ·obtain ⟨e,h3,h4⟩:=cZ.1 h;rw [hok.qn q (by simp only [jB,eM];exact .inr (.inr (.inr (cZ.2 ⟨e,(hDe e h3).1,h4⟩))))] at h1;simp at h1
  have chk:∀ (k:Nat) (s':List (Nat×AV)) (T':aH),p.quiet k=false→(∀ x∈s0.map (·.1),aP s' x=aP s0 x)→(∀ j,j<T0.length→bZ T' j=bZ T0 j)→lT G ⟨r0,s',T'⟩ (p.pend (k::E)):=λk s' T' hk h1 h2=>Ok λo ho=>by
   obtain ⟨q,hq1,hq2,_,hq4⟩:=Qd ho;refine hq s' T' h1 h2 q ?_ o hq4;rcases jB.1 hq1 with e | h
   ·rw [e,hk] at hq2;simp at hq2
   ·exact hqn q hq2 h
  have getT_app:∀ (T0 R:aH) j,j<T0.length→bZ (T0++R) j=bZ T0 j:=λT0 R j hj=>by unfold bZ;rw [JQ hj]
  have hDl:D.length≤es.length:=by
   have:(D.map (·.i)).length≤(es.map (·.i)).length:=tU (by
    refine (Nv.2 ?_);rw [Pj]
    exact Pd (λ{a b} ha hb hab e=>hab (einj a (hDe a ha).1 b (hDe b hb).1 e)) (Nv.1 hD)) (λx hx=>by obtain ⟨e,he1,rfl⟩:=cZ.1 hx;exact cZ.2 ⟨e,(hDe e he1).1,rfl⟩)
   simpa using this
  have hmN:mm.toNat≤1:=by cases mm<;>decide
  have hks:=keysOf mm i;have hsn:(s.map (·.1)).Nodup:=(hs.map _).nodup_iff.2 hks;have hnew:∀ x∈cs.map (·.d)++[m,dz,dy],x∉s0.map (·.1):=λx hx h=>hkn.2.2 x h x hx rfl;have hdN:=H9.1 hkn.2.1;by_cases hdone:mm=true∧i=cs.length∧∀ e∈es,e∈D
  ·obtain ⟨rfl,rfl,hall⟩:=hdone;have hgt:gc=true:=by
    rcases hgc with h | ⟨h,_⟩
    ·exact h
    ·simp at h
   subst hgt
   have hzR:z∈p.ready E:=kW.2 ⟨hok.lt z (by simp),hzE,λq hq1=>by
    have:=hok.zp.2 q hq1;simp only [jB,eM] at this;rcases this with rfl | h | h | h
    ·exact h0E.2 rfl
    ·exact (hE q).2 (.inl h)
    ·obtain ⟨j,hj,rfl⟩:=AG h;simp only [aL] at hj;simp only [Eg];exact (hcE j hj).2 hj
    ·obtain ⟨e,h1,rfl⟩:=cZ.1 h
     exact (heE e h1).2 (hall e h1)⟩
   have hRz:∀ k∈p.ready E,k=z:=λk hk=>by
    have h1:=kW.1 hk;rcases hok.all k h1.1 with h | h | h | h | h | h
    ·exact (h1.2.1 ((hE k).2 (.inl h))).elim
    ·exact (h1.2.1 (h ▸ h0E.2 rfl)).elim
    ·obtain ⟨j,hj,rfl⟩:=AG h;simp only [aL] at hj;simp only [Eg] at h1;exact (h1.2.1 ((hcE j hj).2 hj)).elim
    ·obtain ⟨e,h3,rfl⟩:=cZ.1 h;exact (h1.2.1 ((heE e h3).2 (hall e h3))).elim
    ·exact h
    ·exact (hyR (h ▸ hk)).elim
   have hfz:(p.ready E).find? p.quiet=some z:=by
    cases h:(p.ready E).find? p.quiet with
    | none=>have:=Ls.1 h z hzR;rw [hok.qz] at this;simp at this
    | some k=>rw [hRz k (Pb h)]
   have hDlen:D.length=es.length:=Nat.le_antisymm hDl (by
    have:(es.map (·.i)).length≤(D.map (·.i)).length:=tU heN (λx hx=>by obtain ⟨e,he1,rfl⟩:=cZ.1 hx;exact cZ.2 ⟨e,hall e he1,rfl⟩)
    simpa using this)
   obtain ⟨n,rfl⟩:∃ n',n=n'+2:=⟨n-2,by simp only [Bool.toNat_true] at hn;omega⟩
   have hgm:aP s m=.mp T0.length:=AW hsn (hs.mem_iff.2 (by simp));rw [sB,hfz];have hopz:bO (Yp T0 vs true D) (cQ G s) (.mov (.tmp m))=some (.mp T0.length,Yp T0 vs true D):=by simp only [bO,cQ,hgm]
   simp only [hz,dM,hopz,dH];have hEz:∀ k∈p.ready (z::E),k=y:=λk hk=>by
    have h1:=kW.1 hk;simp only [jB,not_or] at h1;rcases hok.all k h1.1 with h | h | h | h | h | h
    ·exact (h1.2.1.2 ((hE k).2 (.inl h))).elim
    ·exact (h1.2.1.2 (h ▸ h0E.2 rfl)).elim
    ·obtain ⟨j,hj,rfl⟩:=AG h;simp only [aL] at hj;simp only [Eg] at h1;exact (h1.2.1.2 ((hcE j hj).2 hj)).elim
    ·obtain ⟨e,h3,rfl⟩:=cZ.1 h;exact (h1.2.1.2 ((heE e h3).2 (hall e h3))).elim
    ·exact (h1.2.1.1 h).elim
    ·exact h
   have hyE:y∉E:=λh=>by
    rcases (hE y).1 h with h | ⟨_,h⟩ | h | h
    ·exact hQ y h y (by simp) rfl
    ·exact h0y h.symm
    ·exact hym (eM.2 (.inl (Ef h)))
    ·obtain ⟨e,h1,h2⟩:=cZ.1 h;exact hym (eM.2 (.inr (cZ.2 ⟨e,(hDe e h1).1,h2⟩)))
   have hyz:y∈p.ready (z::E):=kW.2 ⟨hok.lt y (by simp),by simp only [jB,not_or];exact ⟨λh=>hzy h.symm,hyE⟩,λq hq1=>by
    have:=hok.yp.2 q hq1;simp only [jB,eM] at this ⊢;rcases this with rfl | rfl | h | h | h
    ·exact .inl rfl
    ·exact .inr (h0E.2 rfl)
    ·exact .inr ((hE q).2 (.inl h))
    ·obtain ⟨j,hj,rfl⟩:=AG h;simp only [aL] at hj;simp only [Eg];exact .inr ((hcE j hj).2 hj)
    ·obtain ⟨e,h1,rfl⟩:=cZ.1 h
     exact .inr ((heE e h1).2 (hall e h1))⟩
   have hfy:(p.ready (z::E)).find? p.quiet=none:=Ls.2 λk hk=>by rw [hEz k hk,hok.qn y (by simp)];simp
   have hdzs:dz∉s.map (·.1):=λh=>by
    have:=(hs.map (·.1)).mem_iff.1 h;simp only [NH,jA,eM,D1] at this;rcases this with h | h | h
    ·exact hnew dz (by simp) h
    ·obtain ⟨c,h1,h2⟩:=cZ.1 h;exact hdN.2.2 c.d (cZ.2 ⟨c,Ef h1,rfl⟩) dz (by simp) h2
    ·simp at h;have:=hdN.2.1;simp [h] at this
   have hdys:dy∉s.map (·.1):=λh=>by
    have:=(hs.map (·.1)).mem_iff.1 h;simp only [NH,jA,eM,D1] at this;rcases this with h | h | h
    ·exact hnew dy (by simp) h
    ·obtain ⟨c,h1,h2⟩:=cZ.1 h;exact hdN.2.2 c.d (cZ.2 ⟨c,Ef h1,rfl⟩) dy (by simp) h2
    ·simp at h;have:=hdN.2.1;simp [h] at this
   have hzyd:dz≠dy:=by
    have:=hdN.2.1;simp at this;exact this.2
   have hs1:CN s dz (.mp T0.length)=(dz,.mp T0.length)::s:=by simp only [CN,GF hdzs]
   rw [hs1,sB,hfy];have hXl:(D.map λe=>(e.k,vs e.s)).Perm (es.map λe=>(e.k,vs e.s)):=by
    refine List.Perm.map _ ?_
    exact (aBT hD (by
     refine Nv.2 (Pd (λ{a b} ha hb hab e=>hab (congrArg IE.i e)) (Pj.1 (Nv.1 heN)))
     )).2 λe=>⟨λh=>(hDe e h).1,hall e⟩
   generalize hX:(D.map λe=>(e.k,vs e.s))=X at *
   have hTX:Yp T0 vs true D=T0++[some (MP X)]:=by simp only [Yp,hX,if_true]
   rw [hTX];have hgX:bZ (T0++[some (MP X)]) T0.length=some (MP X):=by simp [bZ]
   have hopy:bO (T0++[some (MP X)]) (cQ G ((dz,.mp T0.length)::s)) (.rgm (.tmp dz))=some (.ptr (T0.length+1) 0,T0++[some (MP X),some (.mit (some T0.length) X.length [] X.length)]):=by
    have h1:cQ G ((dz,.mp T0.length)::s) (.tmp dz)=.mp T0.length:=by simp only [cQ,aP,if_true]
    simp only [bO,h1,hgX];simp only [MP,gK,wJ,jJ,jI,fX,gW,qT]
   have last:∀ gc',sB P G p (n+1) (true||gc') (y::z::E) ⟨r0,(dy,.ptr (T0.length+1) 0)::(dz,.mp T0.length)::s,T0++[some (MP X),some (.mit (some T0.length) X.length [] X.length)]⟩ K:=λgc'=>by
    have hr0:p.ready (y::z::E)=[]:=by
     refine Tp.2 λk hk=>?_;have h1:=kW.1 hk;simp only [jB,not_or] at h1;rcases hok.all k h1.1 with h | h | h | h | h | h
     ·exact (h1.2.1.2.2 ((hE k).2 (.inl h))).elim
     ·exact (h1.2.1.2.2 (h ▸ h0E.2 rfl)).elim
     ·obtain ⟨j,hj,rfl⟩:=AG h;simp only [aL] at hj;simp only [Eg] at h1;exact (h1.2.1.2.2 ((hcE j hj).2 hj)).elim
     ·obtain ⟨e,h3,rfl⟩:=cZ.1 h;exact (h1.2.1.2.2 ((heE e h3).2 (hall e h3))).elim
     ·exact (h1.2.1.2.1 h).elim
     ·exact (h1.2.1.1 h).elim
    rw [sB,hr0];simp only [List.find?_nil,FW,if_true];have hpm:=((hs.cons (dz,AV.mp T0.length)).cons (dy,AV.ptr (T0.length+1) 0))
    have hn2:(((dy,AV.ptr (T0.length+1) 0)::(dz,AV.mp T0.length)::s).map (·.1)).Nodup:=by
     simp only [fE,IA,jB,not_or];exact ⟨⟨λh=>hzyd h.symm,hdys⟩,hdzs,hsn⟩
    rw [Qc hn2 hpm];exact hK X hXl
   cases hR:p.ready (z::E) with
   | nil=>rw [hR] at hyz;simp at hyz
   | cons c cs' =>
    simp only;intro k hk;have hky:=hEz k (by rw [hR];exact hk);subst hky;refine ⟨_,hy,?_⟩;simp only [dM,rV,hopy,dH,fG,kB,if_false];have hs2:CN ((dz,AV.mp T0.length)::s) dy (.ptr (T0.length+1) 0)=(dy,.ptr (T0.length+1) 0)::(dz,.mp T0.length)::s:=by
     simp only [CN];rw [GF];simp only [fE,jB,not_or];exact ⟨λh=>hzyd h.symm,hdys⟩
    rw [hs2];refine ⟨Ok λo ho=>?_,last _⟩;obtain ⟨q,hq1,hq2,hq3,hq4⟩:=Qd ho;refine hq _ _ (λx hx=>?_) (λj hj=>getT_app _ _ j hj) q ?_ o hq4
    ·have e1:dy≠x:=λe=>hnew dy (by simp) (e ▸ hx);have e2:dz≠x:=λe=>hnew dz (by simp) (e ▸ hx);simp only [aP,e1,e2,if_false];exact hgS s true cs.length hs x hx
    ·rcases jB.1 hq1 with e | h
     ·rw [e,hok.qn k (by simp)] at hq2;simp at hq2
     ·rcases jB.1 h with e | h
      ·exact (hq3 k (by simp) (hok.qn k (by simp)) (e ▸ hok.yp.1)).elim
      ·exact hqn q hq2 h
  ·have hfn:(p.ready E).find? p.quiet=none:=Ls.2 λk hk=>by
    have h1:=kW.1 hk;rcases hok.all k h1.1 with h | h | h | h | h | h
    ·exact (h1.2.1 ((hE k).2 (.inl h))).elim
    ·rw [h,hok.qn 0 (by simp)];simp
    ·rw [hok.qn k (by simp only [jB,eM];exact .inr (.inr (.inl h)))];simp
    ·rw [hok.qn k (by simp only [jB,eM];exact .inr (.inr (.inr h)))];simp
    ·exfalso;subst h;have h2:=λq hq1=>h1.2.2 q (hok.zp.1 q hq1);refine hdone ⟨h0E.1 (h2 0 (by simp)),?_,λe he1=>(heE e he1).1 (h2 e.i (by simp only [jB,eM];exact .inr (.inr (cZ.2 ⟨e,he1,rfl⟩))))⟩;have h3:cs.length-1<i:=(hcE (cs.length-1) (by omega)).1 (h2 _ (by simp only [jB,eM];exact .inr (.inl (hcmem _ _))));omega
    ·exact (hyR (h ▸ hk)).elim
   have hr0:mm=false→0∈p.ready E:=λh=>kW.2 ⟨hok.lt 0 (by simp),λh2=>by rw [h0E,h] at h2;simp at h2,λq hq1=>(hE q).2 (.inl (hok.mp q hq1))⟩
   have hrc:∀ hi2:i<cs.length,cs[i].i∈p.ready E:=λhi2=>kW.2 ⟨hok.lt _ (by simp only [jB,eM];exact .inr (.inr (.inr (.inl (hcmem i hi2))))),λh2=>by have:=(hcE i hi2).1 h2;omega,λq hq1=>by
    have:=(hok.cp i (by simpa using hi2)).2 q (by rw [hgetI i hi2];exact hq1);rcases eM.1 this with h | h
    ·exact (hE q).2 (.inl h)
    ·exact (hE q).2 (.inr (.inr (.inl h)))⟩
   rw [sB,hfn]
   cases hR:p.ready E with
   | nil =>
    exfalso;rw [hR] at hr0 hrc
    cases mm with
    | false=>exact absurd (hr0 rfl) (by simp)
    | true =>
     by_cases hi2:i<cs.length
     ·exact absurd (hrc hi2) (by simp)
     ·have hie:i=cs.length:=by omega
      refine hdone ⟨rfl,hie,λe he1=>?_⟩;refine Tu λhne=>?_;have h1:=hok.ep e he1
      have:e.i∈p.ready E:=kW.2 ⟨hok.lt _ (by simp only [jB,eM];exact .inr (.inr (.inr (.inr (cZ.2 ⟨e,he1,rfl⟩))))),λh2=>hne ((heE e he1).1 h2),λq hq1=>by
       have:=h1.2.2.2 q hq1;simp only [jB,eM] at this;rcases this with rfl | h | h
       ·exact h0E.2 rfl
       ·exact (hE q).2 (.inl h)
       ·refine (hE q).2 (.inr (.inr (.inl ?_)));rw [hie,xR (by simp)]
        exact Ef h⟩
      rw [hR] at this;simp at this
   | cons c cs' =>
    simp only;have hgc':(gc||!cs'.isEmpty)=true:=by
     rcases hgc with h | ⟨h1,h2⟩
     ·rw [h];rfl
     ·have ha:=hr0 h1;have hb:=hrc (by omega);rw [hR] at ha hb
      cases cs' with
      | cons _ _=>simp
      | nil =>
       exfalso;simp only [iU] at ha hb;exact h0m (eM.2 (.inl (by rw [ha,←hb];exact hcmem _ _)))
    intro k hk;have h1:=kW.1 (show k∈p.ready E by rw [hR];exact hk);have hTg:∀ (R:aH) j,j<T0.length→bZ (T0++R) j=bZ T0 j:=λR j hj=>getT_app T0 R j hj;rcases hok.all k h1.1 with h | h | h | h | h | h
    ·exact (h1.2.1 ((hE k).2 (.inl h))).elim
    ·
     subst h;have hmf:mm=false:=by
      cases mm with
      | false=>rfl
      | true=>exact (h1.2.1 (h0E.2 rfl)).elim
     subst hmf;have hD0:D=[]:=Tp.2 λe h=>by have:=(hDe e h).2.2;simp at this
     subst hD0;refine ⟨_,h0,?_⟩;have hms:m∉s.map (·.1):=λh=>by
      have:=(hs.map (·.1)).mem_iff.1 h;simp only [NH,jA,eM,D1] at this;rcases this with h | h | h
      ·exact hnew m (by simp) h
      ·obtain ⟨c,h1,h2⟩:=cZ.1 h;exact hdN.2.2 c.d (cZ.2 ⟨c,Ef h1,rfl⟩) m (by simp) h2
      ·simp at h
     simp only [dM,rV,aAT,dH,fG,kB,if_false];have hT:(Yp T0 vs false [])=T0:=by simp [Yp]
     have hs1:CN s m (.mp T0.length)=(m,.mp T0.length)::s:=by simp only [CN,GF hms]
     rw [hT,hs1];have hp2:((m,AV.mp T0.length)::s).Perm (NH m cs s0 T0.length vs true i):=by
      refine (hs.cons _).trans ?_;simp only [NH,kB,if_false,nR,if_true,←jI];exact (List.perm_append_singleton _ _).symm
     refine ⟨chk 0 _ _ (hok.qn 0 (by simp)) (hgS _ true i hp2) (hTg _),?_⟩;have:=ih (gc||!cs'.isEmpty) true i [] (0::E) _ hi Po (λe h=>by simp at h) hp2 (λq=>?_) (.inl hgc') ?_
     ·simpa [Yp] using this
     ·rw [jB,hE];simp only [kB,false_and,false_or,true_and];constructor
      ·rintro (h | h | h)
       ·exact .inr (.inl h)
       ·exact .inl h
       ·exact .inr (.inr h)
      ·rintro (h | h | h)
       ·exact .inr (.inl h)
       ·exact .inl h
       ·exact .inr (.inr h)
     ·simp only [Bool.toNat_true,Bool.toNat_false] at hn ⊢;omega
    ·
     obtain ⟨j,hj,rfl⟩:=AG h;simp only [aL] at hj;simp only [Eg] at h1 hk ⊢;have hji:j=i:=by
      have h2:=hok.cp j (by simpa using hj);have h3:¬j<i:=λh=>h1.2.1 ((hcE j hj).2 h);rcases h2.1 with h4 | h4
      ·omega
      ·have h5:=h1.2.2 _ (by rw [hgetI j hj] at h4;exact h4);rw [hgetI (j-1) (by omega)] at h5;have:=(hcE (j-1) (by omega)).1 h5;omega
     subst hji;refine ⟨_,hc cs[j] (iN hj),?_⟩;simp only [dM,rV,cQ,fnA,nR];refine hcall cs[j] (iN hj) s _ _ (hgS s mm j hs) ?_;have hcs1:cs[j].d∉s.map (·.1):=λh=>by
      have:=(hs.map (·.1)).mem_iff.1 h;simp only [NH,jA,eM,D1] at this;have hdn:(cs.map (·.d)).Nodup:=hdN.1;rcases this with h | h | h
      ·exact hnew _ (eM.2 (.inl (cZ.2 ⟨_,iN hj,rfl⟩))) h
      ·obtain ⟨c,h3,h4⟩:=cZ.1 h;obtain ⟨k,hk2,rfl⟩:=Pc.1 h3;have:=(Mk (h₀:=by simp;omega) (h₁:=by simpa using hj) hdn).1 (show (cs.map (·.d))[k]'(by simp;omega)=(cs.map (·.d))[j]'(by simpa using hj) by simpa using h4);omega
      ·cases mm with
       | false=>simp at h
       | true =>
        simp at h;exact hdN.2.2 cs[j].d (cZ.2 ⟨_,iN hj,rfl⟩) m (by simp) h
     have hp2:((cs[j].d,AV.v (.bool (vs cs[j].d)))::s).Perm (NH m cs s0 T0.length vs mm (j+1)):=by
      refine (hs.cons _).trans ?_;simp only [NH];rw [oV hj,jA,fE,mE,jI];refine (List.perm_middle (l₁:=s0)).symm.trans (Ty _ ?_);exact (List.perm_middle (a:=(cs[j].d,AV.v (.bool (vs cs[j].d)))) (l₁:=(cs.take j).map λc=>(c.d,AV.v (.bool (vs c.d))))).symm
     have hs1:dH s (some cs[j].d) (.v (.bool (vs cs[j].d)))=(cs[j].d,.v (.bool (vs cs[j].d)))::s:=by simp only [dH,CN,GF hcs1]
     rw [hs1];simp only [fG,kB,if_false];have hqk:=hok.qn cs[j].i (by simp only [jB,eM];exact .inr (.inr (.inl (hcmem j hj))));refine ⟨chk _ _ _ hqk (hgS _ mm (j+1) hp2) (hTg _),?_⟩;refine ih (gc||!cs'.isEmpty) mm (j+1) D (cs[j].i::E) _ hj hD (λe h=>by have:=hDe e h;exact ⟨this.1,by omega,this.2.2⟩) hp2 (λq=>?_) (.inl hgc') (by omega);rw [jB,hE,oV (by simpa using hj)];simp only [eM,iU,Eg];constructor
     ·rintro (h | h | h | h | h)
      ·exact .inr (.inr (.inl (.inr h)))
      ·exact .inl h
      ·exact .inr (.inl h)
      ·exact .inr (.inr (.inl (.inl h)))
      ·exact .inr (.inr (.inr h))
     ·rintro (h | h | (h | h) | h)
      ·exact .inr (.inl h)
      ·exact .inr (.inr (.inl h))
      ·exact .inr (.inr (.inr (.inl h)))
      ·exact .inl h
      ·exact .inr (.inr (.inr (.inr h)))
    ·
     obtain ⟨e,he1,rfl⟩:=cZ.1 h;have h2:=hok.ep e he1;have hmt:mm=true:=h0E.1 (h1.2.2 0 h2.2.1);subst hmt;have hni:e.n≤i:=by
      rcases h2.2.2.1 with h3 | h3
      ·omega
      ·rcases Mh e.n with h5 | h5
       ·omega
       have h4:=h1.2.2 _ h3;have hlt:e.n-1<cs.length:=by have:=h2.1;simp at this;omega
       rw [hgetI _ hlt] at h4;have:=(hcE _ hlt).1 h4;omega
     have hnD:e∉D:=λh=>h1.2.1 ((heE e he1).2 h);refine ⟨_,he e he1,?_⟩;have hgm:aP s m=.mp T0.length:=AW hsn (hs.mem_iff.2 (by simp));have hgv:aP s e.s=.v (.bool (vs e.s)):=by
      rcases hval e he1 with ⟨h3,h4⟩ | ⟨c,h3,h4,h5⟩
      ·rw [hgS s true i hs e.s h3,h4]
      ·refine AW hsn (hs.mem_iff.2 ?_);obtain ⟨hlt,rfl⟩:=vE.1 h3;simp only [NH,eM,cZ];exact .inr (.inl ⟨cs[e.n-1],Pc.2 ⟨e.n-1,by omega,rfl⟩,by rw [h5]⟩)
     have hkn:e.k∉(D.map λe=>(e.k,vs e.s)).map (·.1):=λh=>by
      simp only [D1,cZ,Function.comp] at h;obtain ⟨e',h3,h4⟩:=h;refine hnD ?_;have h6:e'=e:=by
       obtain ⟨ia,hia,rfl⟩:=AG (hDe e' h3).1;obtain ⟨ib,hib,rfl⟩:=AG he1;have:=(Mk (h₀:=by simpa using hia) (h₁:=by simpa using hib) hek).1 (by simpa using h4);subst this;rfl
      rw [←h6];exact h3
     have hT0:T0++[some (MP (D.map λe:IE=>(e.k,vs e.s)))]=(T0++[none]).set T0.length (some (MP (D.map λe:IE=>(e.k,vs e.s)))):=by rw [Qe]
     have hstep:=Uc (T:=T0++[none]) (i:=T0.length) (by simp) (ev:=cQ G s) (m:=m) (D:=D.map λe:IE=>(e.k,vs e.s)) (e:=(e.k,e.s,vs e.s)) (by simp only [cQ,hgm]) rfl (by simp only [cQ,hgv]) hkn;have hpT:Yp T0 vs true D=(T0++[none]).set T0.length (some (MP (D.map λe:IE=>(e.k,vs e.s)))):=by simp only [Yp,if_true,hT0]
     rw [hpT];simp only [dM,rV,hstep,dH,fG,kB,if_false];rw [Qe];have hqk:=hok.qn e.i (by simp only [jB,eM];exact .inr (.inr (.inr (cZ.2 ⟨e,he1,rfl⟩))));refine ⟨chk _ _ _ hqk (hgS _ true i hs) (hTg _),?_⟩
     have:=ih (gc||!cs'.isEmpty) true i (D++[e]) (e.i::E) s hi (H9.2 ⟨hD,by simp,λa ha b hb hab=>by rw [iU] at hb;subst hb;subst hab;exact hnD ha⟩) (λx hx=>by
      rcases eM.1 hx with h | h
      ·exact hDe x h
      ·rw [iU] at h;subst h;exact ⟨he1,hni,rfl⟩) hs (λq=>?_) (.inl hgc') (by simp only [gK,wJ,jJ];omega)
     ·simpa [Yp] using this
     ·rw [jB,hE];simp only [jA,fE,mE,eM,iU];constructor
      ·rintro (h | h | h | h | h)
       ·exact .inr (.inr (.inr (.inr h)))
       ·exact .inl h
       ·exact .inr (.inl h)
       ·exact .inr (.inr (.inl h))
       ·exact .inr (.inr (.inr (.inl h)))
      ·rintro (h | h | h | h | h)
       ·exact .inr (.inl h)
       ·exact .inr (.inr (.inl h))
       ·exact .inr (.inr (.inr (.inl h)))
       ·exact .inr (.inr (.inr (.inr h)))
       ·exact .inl h
    ·exfalso;have:=Ls.1 hfn k (by rw [hR];exact hk);rw [h,hok.qz] at this;simp at this
    ·exact (hyR (h ▸ (by rw [hR];exact hk))).elim
end
def aAU {P:Program} {G:Nat→Option (List AV)} {hops:List HOper} {pre:List (List Nat)} {n:Nat} {gc:Bool} {E:List Nat} {st:St} {K:St→Prop} (h:∀ p:Plan,p=⟨hops,pre⟩→sB P G p n gc E st K):@Lz P G (.plan hops pre n gc E) st ⟨K⟩:=h _ rfl
def NI (p:Nat×AV):∀ l:List (Nat×AV),(IC p l).Perm (p::l)
 | []=>by simp [IC]
 | q::l=>by
  simp only [IC];split
  ·rfl
  ·exact ((NI p l).cons q).trans (List.Perm.swap p q l)
def Qf:∀ l:List (Nat×AV),(oH l).Perm l
 | []=>List.Perm.refl _
 | p::l=>(NI p _).trans ((Qf l).cons p)
def Wf {P:Program} {G:Nat→Option (List AV)} {a b c:HC} {st:St} {Q:Ex→St→Prop} (h:@dE P G (.seq (.seq a b) c) st ⟨Q⟩):@dE P G (.seq a (.seq b c)) st ⟨Q⟩:=by
 simp only [aS] at h ⊢;refine pV (λe s hq=>?_) h
 cases e with
 | normal=>simp only [aCJ] at hq ⊢;rw [aS];exact hq
 | exit i=>simp only [aCK] at hq ⊢;exact hq
 | ret=>simp only [aCL] at hq ⊢;exact hq
end
end Hud
