import Derived.Test.YtdichbeaekjibaaGreatDoorLib18
set_option linter.all false
namespace Hud
open Go
section
def RR (cs:List CardM) (d:Int):Int:=if (eK cs d).2 then (eK cs d).1.Member else 0
def XR (g:GM) (x y:Nat):Bool:=(g.In.getD x []).getD y false
def VG (cs:List CardM) (a b:OpM):Bool :=
 if a.Kind==3&&a.Device !=0 then b.By==a.Device else if a.Kind==3 then RR cs b.By==a.Member
 else if a.Kind==13 then b.By==a.Old&&(b.Kind !=12||!decide (b.Of=a.Of)) else a.Kind==12&&(b.Kind==13&&(decide (a.Of=b.Of)&&decide (a.At≤b.At)))
def VH (g:GM) (x y:Nat):Bool:=!(decide (x=y)||(XR g x y||XR g y x))&&VG g.Cards (g.L.getD x default) (g.L.getD y default)
section
variable {G:Nat→Option (List AV)}
set_option maxHeartbeats 4000000
def La (g:GM) (d:Int) (hg:g.ok):aC PQ G vN [.ag g.A,iv d] [] λr T=>r=iv (RR g.Cards d)∧T=[]:=by
 refine aD Ic (by decide) ?_;have hc:=RB (G:=G) g d hg;unfold RR;generalize eK g.Cards d=c at *
 obtain ⟨c,b⟩:=c;simp only [go_sem];refine aB (aA _) rfl hc (by simp only [CardM.A_def];rfl) ?_;cases b
 ·simp only [go_sem,CardM.A_def]
 ·simp only [go_sem,CardM.A_def]
def W9 (g:GM) (hg:g.ok) (x y:Nat) (hx:x<g.L.length) (hy:y<g.L.length):aC PQ G Cj [.ag g.A,iv x,iv y] [] λr T=>r=.v (.bool (VH g x y))∧T=[]:=by
 refine aD LV (by decide) ?_;have hin:=hg.inn;have gx:(g.L.map OpM.A)[x]?=some (g.L.getD x default).A:=by rw [lO,uW,nQ hx];rfl
 have gy:(g.L.map OpM.A)[y]?=some (g.L.getD y default).A:=by rw [lO,uW,nQ hy];rfl
 have hm:=La (G:=G) g (g.L.getD y default).By hg;have gIx:(g.In.map λl=>[Qt l])[x]?=some [Qt (g.In.getD x [])]:=by rw [lO,uW,nQ (by omega)];rfl
 have gIy:(g.In.map λl=>[Qt l])[y]?=some [Qt (g.In.getD y [])]:=by rw [lO,uW,nQ (by omega)];rfl
 have hlx:(g.In.getD x []).length=g.L.length:=hg.ins _ (by rw [uW,nQ (show x<g.In.length by omega)];exact iN _);have hly:(g.In.getD y []).length=g.L.length:=hg.ins _ (by rw [uW,nQ (show y<g.In.length by omega)];exact iN _);have gxy:((g.In.getD x []).map λb=>[AV.v (.bool b)])[y]?=some [.v (.bool (XR g x y))]:=by rw [lO,XR,uW (l:=g.In.getD x []),nQ (by omega)];rfl
 have gyx:((g.In.getD y []).map λb=>[AV.v (.bool b)])[x]?=some [.v (.bool (XR g y x))]:=by rw [lO,XR,uW (l:=g.In.getD y []),nQ (by omega)];rfl
 have exy:((x:Int)==(y:Int))=decide (x=y):=by
  rw [rX,beq_iff_eq,decide_eq_true_iff];omega
 unfold VH VG;generalize XR g x y=i1 at *
 generalize XR g y x=i2 at *
 generalize g.L.getD x default=a at *
 generalize g.L.getD y default=b at *
 cases c0:decide (x=y)
 ·cases i1
  ·cases i2
   ·cases k1:a.Kind==3
    ·cases k2:a.Kind==13
     ·simp only [go_sem,gx,gy,gIx,gIy,gxy,gyx,exy,c0,k1,k2,undef];have hid:=Id.beq a.Of b.Of;cases k3:a.Kind==12
      ·simp only [go_sem,k3,undef,kC]
      ·cases k4:b.Kind==13
       ·simp only [go_sem,k3,k4,undef,kC,Dz]
       ·cases k5:decide (a.Of=b.Of)
        ·simp only [go_sem,k3,k4,hid,k5,undef,kC,Dz]
        ·simp only [go_sem,k3,k4,hid,k5,undef,kN]
     ·simp only [go_sem,gx,gy,gIx,gIy,gxy,gyx,exy,c0,k1,k2,undef];have hid:=Id.beq b.Of a.Of;have hid2:=Id.beq a.Of b.Of;cases k3:b.By==a.Old
      ·simp only [go_sem,k3,undef,kC]
      ·cases k4:b.Kind !=12
       ·cases k5:decide (b.Of=a.Of)
        ·simp only [go_sem,k3,k4,hid,k5,undef,kN]
        ·simp only [go_sem,k3,k4,hid,k5,undef,kN]
       ·simp only [go_sem,k3,k4,undef,kN]
    ·cases k2:a.Device !=0
     ·simp only [go_sem,gx,gy,gIx,gIy,gxy,gyx,exy,c0,k1,k2,undef];refine aB (aA _) rfl hm rfl ?_;simp only [go_sem,undef]
     ·simp only [go_sem,gx,gy,gIx,gIy,gxy,gyx,exy,c0,k1,k2,undef]
   ·simp only [go_sem,gx,gy,gIx,gIy,gxy,gyx,exy,c0,undef]
  ·simp only [go_sem,gx,gy,gIx,gIy,gxy,gyx,exy,c0,undef]
 ·simp only [go_sem,gx,gy,gIx,gIy,gxy,gyx,exy,c0,undef]
def H4 (g:GM) (x y:Id):Bool:=decide (0≤aM g.I x)&&(decide (0≤aM g.I y)&&VH g (aM g.I x).toNat (aM g.I y).toNat)
def XA (g:GM) (hg:g.ok) (x y:Id):aC PQ G Cg [.ag g.A,.ag x.A,.ag y.A] [] λr T=>r=.v (.bool (H4 g x y))∧T=[]:=by
 refine aD LY (by decide) ?_;have hx:=qR g.I x;have hy:=qR g.I y;have hi:=hg.i;have hpx:=vY (G:=G) g x hg;have hpy:=vY (G:=G) g y hg;unfold H4;generalize aM g.I x=p at *
 generalize aM g.I y=q at *
 simp only [go_sem];refine aB (aA _) rfl hpx rfl ?_;simp only [go_sem];refine aB (aA _) rfl hpy rfl ?_;by_cases h1:0≤p
 ·by_cases h2:0≤q
  ·obtain ⟨i,rfl⟩:=Int.eq_ofNat_of_zero_le h1;obtain ⟨k,rfl⟩:=Int.eq_ofNat_of_zero_le h2;have mi:max (i:Int) 0=i:=by omega
   have mk:max (k:Int) 0=k:=by omega
   have hk:=W9 (G:=G) g hg i k (by omega) (by omega);simp only [go_sem,ge_iff_le,h1,h2,decide_true,mi,mk,undef];refine aB (aA _) rfl hk rfl ?_;simp only [go_sem,h1,h2,decide_true,kN,Lp]
  ·simp only [go_sem,ge_iff_le,h1,h2,decide_true,decide_false,undef]
 ·simp only [go_sem,ge_iff_le,h1,decide_false,undef]
end
end
section
def Zo {cs cs':List CardM} (hc:∀ d,eK cs d=eK cs' d) {a b:OpM} (hm:a.Kind=3→a.Device=0→a.Member≠0):RL cs a b=VG cs' a b:=by
 unfold RL VG RK RR;rw [hc];generalize eK cs' b.By=c;obtain ⟨c,h⟩:=c;by_cases k3:a.Kind=3
 ·have k13:(a.Kind==13)=false:=by rw [k3];rfl
  by_cases hd:a.Device=0
  ·have:=hm k3 hd;cases h
   ·simp [k3,hd,Ne.symm this]
   ·simp [k3,hd]
  ·simp [k3,hd]
 ·by_cases k13:a.Kind=13
  ·have ho:decide (a.Of=b.Of)=decide (b.Of=a.Of):=by rw [decide_eq_decide];exact eq_comm
   simp only [k13,ho,bne];cases b.By==a.Old<;>cases b.Kind==12<;>cases decide (b.Of=a.Of)<;>simp
  ·by_cases k12:a.Kind=12
   ·simp [k12];grind
   ·simp [k3,k13,k12]
def aCh (L:List OpM):Prop:=∀ o∈L,o.Kind=3→o.Device=0→o.Member≠0
def TV {p:PGM} {g:GM} (s:Sim p g) {x:Id} {j:Nat} (h:p.I.findIdx? (λy=>decide (y=x))=some j) (hj:j<g.L.length):(p.nd x).o=g.L.getD j default∧∀ k,k<256→mT (p.nd x).W k=XR g j k:=by
 rw [RJ h];have hl:p.nodes.length=g.L.length:=by rw [←s.l,aL]
 refine ⟨?_,λk hk=>s.w j hj k hk⟩;rw [←s.l,uW,uW,lO,nQ (by omega)];rfl
def VI {p:PGM} {g:GM} (s:Sim p g) (hn:g.L.length≤200) {x y:Id} {j k:Nat} (hx:p.I.findIdx? (λz=>decide (z=x))=some j) (hy:p.I.findIdx? (λz=>decide (z=y))=some k) (hj:j<g.L.length) (hk:k<g.L.length) (mx:x∈p.I) (my:y∈p.I):ED p x y=XR g k j:=by
 unfold ED;rw [decide_eq_true mx,decide_eq_true my,show p.at x=j by simp [PGM.at,hx],(TV s hy hk).2 j (by omega)];rfl
def Zp {p:PGM} {g:GM} (s:Sim p g) (hn:g.L.length≤200) (hr:aCh g.L) (x y:Id):Ec p x y=H4 g x y:=by
 have hl:p.I.length=g.L.length:=by rw [PGM.I,←s.l,aL,aL]
 unfold Ec H4 aM zV;rw [←s.i];by_cases mx:x∈p.I
 ·by_cases my:y∈p.I
  ·obtain ⟨j,ej,lj,_,hj2⟩:=fN mx;obtain ⟨k,ek,lk,_,hk2⟩:=fN my;have hj:j<g.L.length:=by omega
   have hk:k<g.L.length:=by omega
   rw [ej,ek,decide_eq_true mx,decide_eq_true my,VI s hn ej ek hj hk mx my,VI s hn ek ej hk hj my mx,(TV s ej hj).1,(TV s ek hk).1];have hxy:decide (x=y)=decide (j=k):=by
    rw [decide_eq_decide];constructor
    ·rintro rfl;rw [ej] at ek;exact Option.some.inj ek
    ·rintro rfl;rw [←hj2,←hk2]
   rw [Zo s.c (λh3 hd=>hr _ (by rw [uW,nQ hj];exact iN hj) h3 hd)];simp only [hxy,VH,Lp,Xn,decide_true,kN];cases decide (j=k)<;>cases XR g k j<;>cases XR g j k<;>rfl
  ·have e:=kA my;rw [e,decide_eq_false my];simp
 ·have e:=kA mx;rw [e,decide_eq_false mx];simp
end
section
section
variable {G:Nat→Option (List AV)}
set_option maxHeartbeats 8000000
end
end
section
def Bt (n:Int) (m:Int) (hm:0<m):0≤zY n m∧zY n m<m:=by
 unfold zY;exact ⟨Int.emod_nonneg _ (by omega),Int.emod_lt_of_pos _ hm⟩
section
variable {G:Nat→Option (List AV)}
set_option maxHeartbeats 4000000
end
end
section
def XB {cs:List CardM} {d:Int} (h:(eK cs d).2=true):(eK cs d).1.Device=d:=by
 unfold eK at h ⊢;grind
def aBq (nodes:List ND) (o:OpM) (W:List Nat) (n:Nat) (hs:1≤o.Seq) (h:∀ j,j<n→(nodes.getD j TI).o.By=o.By→mT W j=true→(nodes.getD j TI).o.Seq<o.Seq):(xU nodes o W n).1<o.Seq:=by
 induction n with
 | zero=>simp only [xU];omega
 | succ n ih =>
  have i1:=ih λj hj=>h j (by omega);unfold xU;grind
def TW (nodes:List ND) (o:OpM) (W:List Nat) (n j:Nat) (hj:j<n) (h1:(nodes.getD j TI).o.By=o.By) (h2:mT W j=true) (h3:(nodes.getD j TI).o.Seq=o.Seq-1):(xU nodes o W n).2=true:=by
 induction n with
 | zero=>omega
 | succ n ih =>
  unfold xU;grind
def Zq {p:PGM} {g:GM} {o:OpM} (s:Sim p g) (hp:p.ok) (w:g.wf) (h:(cX g o).1=0):(oS p o).2=0∧Sim (oS p o).1 (addM g o).1:=by
 have a:=FQ h;have hn:p.nodes.length=g.L.length:=by rw [←s.l,aL]
 have hlt:=Zm w a;have k1:rK o=0:=(wW o).trans a.check;have hI:∀ x∈o.Past,x∈p.I:=λx hx=>by rw [s.i];exact (Du g.I x).1 (a.there x hx)
 have k2:Ao o∉p.I:=λhx=>a.twice ((Du g.I _).2 (s.i ▸ hx));have k4:=s.c o.By;have k5:((o.By==(eK p.cards o.By).1.Device)&&xT (eK p.cards o.By).1.Sign o.B o.SR o.SS)=true:=by
  rw [k4,a.sig,AI,XB a.card];simp
 have k7:AE p o=[]:=List.filter_eq_nil_iff.2 λx hx=>by simp [hI x hx]
 have hat:∀ x,p.at x=(aM g.I x).toNat:=λx=>by rw [Zl,s.i]
 have hmem:∀ x∈o.Past,p.at x∈uU g o:=λx hx=>by rw [hat];exact cZ.2 ⟨x,hx,rfl⟩
 have hback:∀ k∈uU g o,∃ x∈o.Past,p.at x=k:=λk hk=>by
  obtain ⟨x,hx,e⟩:=cZ.1 hk;grind
 have hpar:∀ k,(mT (FN p o.Past) k=true)↔k∈uU g o:=λk=>by
  rw [Zj p hp.n o.Past (λx hx=>by have:=hlt _ (hmem x hx);have:=hp.n;omega)];grind
 have habo:∀ k,k<256→((mT (FO p o.Past) k=true)↔∃ i∈uU g o,(g.In.getD i []).getD k false=true):=λk hk=>by
  rw [Zk hp];constructor
  ·rintro ⟨x,hx,hb⟩;refine ⟨p.at x,hmem x hx,?_⟩;rw [←s.w _ (hlt _ (hmem x hx)) k hk];exact hb
  ·rintro ⟨i,hi,hb⟩;obtain ⟨x,hx,rfl⟩:=hback i hi;refine ⟨x,hx,?_⟩;rw [←s.w _ (hlt _ hi) k hk] at hb;exact hb
 have hL:∀ i,i<g.L.length→(p.nodes.getD i TI).o=g.L.getD i default:=λi hi=>by
  have e1:p.nodes.getD i TI=p.nodes[i]:=by simp_all
  have e2:g.L.getD i default=g.L[i]:=by simp_all
  rw [e1,e2];have h1:(p.nodes.map (·.o))[i]?=g.L[i]?:=by rw [s.l]
  simp_all
 have hord:=a.order;unfold HQ at hord;rw [lF] at hord;have k8:Ai (FN p o.Past) (FO p o.Past)=z4:=by
  refine W8 (Ga p _) (Gb hp _) λk hk h1=>?_;grind
 have hseq:=Bm a.check;have k9:Eb p o.Past≤o.At:=by
  refine aBo p o.At o.Past hseq.2.2.2 λx hx=>?_;have hi:=hmem x hx;have h1:(p.nd x).o=g.L.getD (p.at x) default:=hL _ (hlt _ hi);grind
 have hlast:∀ k,k<256→((mT (xK p o) k=true)↔((lE g (uU g o)).getD k false=true)):=λk hk=>by
  rw [LT g _ hlt w.up,RU.head,xK,VE (Gb hp _) (Ga p _),Hj,hpar,habo k hk];constructor
  ·rintro (⟨i,hi,h1⟩ | h1)
   ·exact .inr ⟨i,hi,(w.past i (hlt i hi) k).1 h1⟩
   ·exact .inl h1
  ·rintro (h1 | ⟨i,hi,h1⟩)
   ·exact .inr h1
   ·exact .inl ⟨i,hi,(w.past i (hlt i hi) k).2 h1⟩
 have hpl:(lE g (uU g o)).length=g.L.length:=Ag g _;have hr:=a.right;unfold DJ at hr;rw [lN,lF] at hr;have hzl:(g.L.zip (lE g (uU g o))).length=g.L.length:=by simp [hpl]
 have hz:∀ j (hj:j<g.L.length),(g.L.zip (lE g (uU g o)))[j]'(by omega)=(g.L.getD j default,(lE g (uU g o)).getD j false):=λj hj=>by
  rw [List.getElem_zip,uW,uW,nQ hj,nQ (by omega)];rfl
 have k10:(xU p.nodes o (xK p o) p.nodes.length).1<o.Seq:=by
  refine aBq _ _ _ _ hseq.1 λj hj h1 h2=>?_;rw [hL j (by omega)] at h1 ⊢;have h3:=(hlast j (by have:=hp.n;omega)).1 h2;have h4:=hr.1 _ (iN (show j<(g.L.zip (lE g (uU g o))).length by omega));rw [hz j (by omega)] at h4;simp only [GQ,h3,h1] at h4;simpa using h4
 have k11:JN p o=false:=by
  unfold JN;rw [decide_eq_false (by omega),FY];rcases Hj _ _ ▸ hr.2 with h1 | h1
  ·have:o.Seq=1:=by simpa using h1
   rw [decide_eq_false (by omega)];rfl
  ·rw [T7] at h1;obtain ⟨e,he,h2⟩:=h1;obtain ⟨j,hj,rfl⟩:=AG he;rw [hz j (by omega)] at h2;simp only [GQ,lN,beq_iff_eq] at h2;rw [TW p.nodes o (xK p o) p.nodes.length j (by omega) (by rw [hL j (by omega)];exact h2.1.2) ((hlast j (by have:=hp.n;omega)).2 h2.1.1) (by rw [hL j (by omega)];exact h2.2)];simp
 have hadd:oS p o=(⟨p.cards,p.nodes++[⟨o,Ao o,xK p o,DO p o.Past⟩]⟩,0):=by
  rw [oS,if_neg (by simp [k1]),LP,if_neg k2,if_neg (by have:=a.full;omega),if_neg (by rw [k4,a.card];decide),if_neg (by rw [k5];decide),if_neg (by rw [hn,a.kind];decide),if_neg (by rw [k7];decide),Ni,if_neg (by rw [k8,decide_eq_false (by omega)];decide),if_neg (by rw [k11];decide)]
 rw [hadd,xM a h];refine ⟨rfl,s.c,by simp [s.l],by simp only [PGM.I,jA,fE,mE];rw [←s.i];rfl,?_⟩;intro i hi k hk;simp only [gK,Mc] at hi;rcases gM i g.L.length with h1 | h1
 ·rw [Zn w _ i h1 k,LU _ _ _ _ (by omega)];exact s.w i h1 k hk
 ·obtain rfl:i=g.L.length:=by omega
  have e1:((g.In.map λr=>r++[false])++[lE g (uU g o)++[false]]).getD g.L.length []=lE g (uU g o)++[false]:=by
   have h2:g.L.length=(g.In.map λr=>r++[false]).length:=by simp [w.inn]
   rw [h2];exact Br _ _ _
  have e2:(p.nodes++[(⟨o,Ao o,xK p o,DO p o.Past⟩:ND)]).getD g.L.length TI=⟨o,Ao o,xK p o,DO p o.Past⟩:=by rw [←hn];exact Br _ _ _
  rw [e1,e2,Nk,rX];exact hlast k hk
end
section
inductive Reach (cs:List CardM):GM→Prop
 | new:Reach cs ⟨cs,[],[],[],[]⟩
 | add {g:GM} {o:OpM}:Reach cs g→o.ok→(Ao o).ok→Reach cs (addM g o).1
structure Good (cs:List CardM) (g:GM):Prop where
 ok:g.ok
 wf:g.wf
 cards:g.Cards=cs
 n:g.L.length≤200
 ids:∀ o∈g.L,(Ao o).ok
 sim:Sim (Aj cs g.L) g
 all:∀ i (h:i<g.L.length),(oS (Aj cs (g.L.take i)) g.L[i]).2=0
def Reach.good {cs:List CardM} (hc:cardsOk cs) {g:GM} (h:Reach cs g):Good cs g:=by
 induction h with
 | new =>
  exact ⟨⟨by simp,hc.n,hc.cs,by simp,rfl,by simp,rfl,by simp,rfl,by simp⟩,aDu cs,rfl,by simp,by simp,aBp hc,by simp⟩
 | @add g o _ ho hid ih =>
  by_cases h:(cX g o).1=0
  ·have a:=FQ h;have e:=xM a h;have hpo:(Aj cs g.L).ok:=TS hc g.L λx hx=>⟨ih.ok.ops x hx,ih.ids x hx⟩
   have st:=Zq ih.sim hpo ih.wf h;have hL:(addM g o).1.L=g.L++[o]:=by rw [e]
   have hf:=a.full;refine ⟨aBd ih.ok ho (by omega) hid,aDv ih.wf h,by rw [e];exact ih.cards,by rw [hL];simp;omega,?_,?_,?_⟩
   ·intro x hx;rw [hL] at hx;rcases eM.1 hx with hx | hx
    ·exact ih.ids x hx
    ·simp_all
   ·grind [JO]
   ·intro i hi;simp only [hL,gK,Mc] at hi ⊢;rcases gM i g.L.length with h1 | h1
    ·rw [XW (by omega),List.getElem_append_left h1];exact ih.all i h1
    ·grind
  ·grind [addM]
section
variable {G:Nat→Option (List AV)}
end
end
section
def TX (out:List Id) (x:Id):(MK out x).Perm (out++[x]):=by
 unfold MK;have e:out=out.take (FC x out out.length)++out.drop (FC x out out.length):=(Lo _ _).symm;generalize FC x out out.length=p at *
 refine List.Perm.trans ?_ (List.Perm.append_right [x] (List.Perm.of_eq e.symm));rw [jI,jI];exact Ty _ List.perm_append_comm
def RS (l:List Id):∀ out,(l.foldl MK out).Perm (out++l):=by
 induction l with
 | nil=>intro out;simp
 | cons x l ih =>
  intro out;refine (ih (MK out x)).trans ?_;have:=List.Perm.append_right l (TX out x);simpa using this
def eU (l:List Id):(fR l).Perm l:=by
 have:=RS l [];simpa [fR] using this
def Zr {I:List Id} {p:Nat→Bool} {n:Nat} (hn:n≤I.length):∀ x∈MV I p n,x∈I:=by
 intro x hx;unfold MV at hx;obtain ⟨i,hi,rfl⟩:=cZ.1 hx;have:=sH.1 (uD.1 hi).1;rw [uW,nQ (by omega)];exact iN _
def Nl {I:List Id}:∀ (l out:List Id),(∀ x∈out,x∈I)→∀ x∈l.foldl (uT I) out,x∈I
 | [],_,h=>h
 | y::l,out,h=>Nl l _ (by
   intro x hx;unfold uT at hx;split at hx
   ·rename_i hc;simp only [lN,decide_eq_true_eq] at hc;rcases eM.1 hx with hx | hx
    ·exact h x hx
    ·rw [iU.1 hx];exact (Du I y).1 hc.1
   ·exact h x hx)
def Nm {I ab:List Id}:∀ (l out:List Id),(∀ x∈out,x∈I)→∀ x∈l.foldl (qG I ab) out,x∈I
 | [],_,h=>h
 | y::l,out,h=>Nm l _ (by
   intro x hx;unfold qG at hx;split at hx
   ·rename_i hc;simp only [lN,decide_eq_true_eq] at hc;rcases eM.1 hx with hx | hx
    ·exact h x hx
    ·rw [iU.1 hx];exact (Du I y).1 hc.1
   ·exact h x hx)
section
variable {g:GM}
def Zs (hi:g.I.length=g.L.length) (l:List Id):∀ x∈pP g l,x∈g.I:=λx hx=>Zr (by omega) x ((eU _).mem_iff.1 hx)
def Gd (hi:g.I.length=g.L.length) (l:List Id):∀ x∈H3 g l,x∈g.I:=λx hx=>Nl l _ (Zs hi l) x ((eU _).mem_iff.1 hx)
def Zt (l:List Id):(pP g l).length≤g.L.length:=by
 rw [pP,(eU _).length_eq];exact Gc _ _ _
def RT (l:List Id):(H3 g l).length≤g.L.length+l.length:=by
 have h1:=Zt (g:=g) l;have h2:=Ds g.I l (pP g l);rw [H3,(eU _).length_eq];omega
def Hb (l:List Id):∀ x∈uS g l,x∈g.I:=λx hx=>Nm l [] (by simp) x ((eU _).mem_iff.1 hx)
end
def Lb {o:OpM} (h:fS o=0):o.Seq≤2147483647∧o.At≤2147483647:=by
 unfold fS at h;split at h
 ·simp at h
 split at h
 ·simp at h
 split at h
 ·simp at h
 ·rename_i hn;have:dU o=true:=by cases e:dU o<;>simp_all
  unfold dU lD at this;simp only [lN,decide_eq_true_eq] at this;omega
def Reach.seqb {cs:List CardM} {g:GM} (h:Reach cs g):∀ x∈g.I,x.b≤2147483647:=by
 induction h with
 | new=>simp
 | @add g o hr ho hid ih =>
  by_cases h:(cX g o).1=0
  ·have a:=FQ h;rw [xM a h];intro x hx;rcases eM.1 hx with hx | hx
   ·exact ih x hx
   ·rw [iU.1 hx];exact (Lb a.check).1
  ·have e:(addM g o).1=g:=by rw [addM,if_pos h]
   rw [e];exact ih
end
section
def xN (d m:Nat):CardM:=⟨d,m,((37:Fq)^vV U4 d).val,((37:Fq)^vV U5 d).val,((37:Fq)^vV sF d).val⟩
def iY (lab:List Nat) (d:Nat):vV lab d<18446744073709551616:=HU _ _
def xO (ow:List Nat):List CardM:=ow.mapIdx λi m=>xN (i+1) m
def TY (ow:List Nat) (i:Nat) (h:i<ow.length):xO (ow.take (i+1))=xO (ow.take i)++[xN (i+1) ow[i]]:=by
 rw [←List.take_append_getElem h];grind [xO]
theorem FS (ow:List Nat):(xO ow).length=ow.length:=by simp [xO]
def aBr {o:OpM} (h:o.ok) (a b:Nat) (ha:a<18446744073709551616) (hb:b<18446744073709551616):OpM.ok { o with SR:=a,SS:=b }:=by
 refine ⟨h.ints,?_,h.epoch,h.of,h.past,h.path,h.body,h.refs,h.guards,h.boxes,h.hist⟩;intro n hn;simp only [jB,qS,or_false] at hn;rcases hn with rfl | rfl | rfl
 ·exact h.nums _ (by simp)
 ·exact ha
 ·exact hb
def Zu (s:Nat) (b:List Nat):GY s b<18446744073709551616:=Mr (vF _ (by decide)) (by decide:jK<18446744073709551616)
def xP {o:OpM} (h:o.ok):(bR o).ok:=by
 unfold bR;exact aBr h _ _ (Af _) (Zu _ _)
def Zv (ow:List Nat) (hl:ow.length≤1000) (h0:ow≠[]) (hm:∀ m∈ow,m≤1000):cardsOk (xO ow):=by
 have key:∀ c∈xO ow,∃ i,∃ h:i<ow.length,c=xN (i+1) ow[i]:=by
  intro c hc;obtain ⟨i,h,rfl⟩:=List.mem_mapIdx.1 hc;grind
 refine ⟨by rw [FS];exact hl,?_,?_,?_,?_⟩
 ·intro e;have:=FS ow;grind
 ·intro c hc;obtain ⟨i,h,rfl⟩:=key c hc;have:=hm _ (iN h);refine ⟨⟨?_,?_⟩,⟨?_,?_⟩,?_,?_,?_⟩<;>simp only [xN]
  ·omega
  ·omega
  ·omega
  ·omega
  ·exact Af _
  ·exact Af _
  ·exact Af _
 ·grind [xN]
 ·grind [xN]
section
variable {G:Nat→Option (List AV)}
set_option maxHeartbeats 4000000
def Zw (ow:List Nat) (hl:ow.length≤1000):aC PQ G tK [Ow ow] [] λr T=>r=.own 0∧T=[some (.arr 5 ((xO ow).map CardM.A))]:=by
 refine aD KL (by decide) ?_;simp only [go_sem];refine aJ ow.length (λi=>⟨0,[(0,Ow ow),(3,.own 0),(4,iv i)],[some (.arr 5 ((xO (ow.take i)).map CardM.A))]⟩) (λ_=>True) ?_ trivial ?_ ?_
 ·rfl
 ·intro i hi _;have hd:decide (((i:Nat):Int)<(ow.length:Int))=true:=decide_eq_true (by omega);have ws:=aF (show i<9223372036854775807 by omega);have g0:(ow.map λn:Nat=>[iv (n:Int)])[i]?=some [iv (ow[i]:Int)]:=by simp [hi]
  have hlen:(xO (ow.take i)).length=i:=by grind [FS]
  have e1:=TY ow i hi;have s1:=vX (G:=G) (bs [108,101,97,100]) U4 (i+1) (by rfl) (by rfl) (xE (by decide)) (by decide) (by omega);have s2:=vX (G:=G) (bs [107,101,101,112]) U5 (i+1) (by rfl) (by rfl) (xE (by decide)) (by decide) (by omega);have s3:=vX (G:=G) (bs [115,105,103,110]) sF (i+1) (by rfl) (by rfl) (xE (by decide)) (by decide) (by omega);have p1:=Dr (G:=G) (vV U4 (i+1)) (iY _ _);have p2:=Dr (G:=G) (vV U5 (i+1)) (iY _ _);have p3:=Dr (G:=G) (vV sF (i+1)) (iY _ _);simp only [go_sem,aL,hd,g0,ws];refine aB (aA _) rfl s1 rfl ?_;simp only [go_sem,g0];refine aB (aA _) rfl p1 rfl ?_;simp only [go_sem,g0];refine aB (aA _) rfl s2 rfl ?_;simp only [go_sem,g0];refine aB (aA _) rfl p2 rfl ?_;simp only [go_sem,g0];refine aB (aA _) rfl s3 rfl ?_;simp only [go_sem,g0];refine aB (aA _) rfl p3 rfl ?_;simp only [go_sem,aL,hlen,e1,jA,fE,mE,show i+1≤maxLen by unfold maxLen;omega,show (i+1)*40≤140737488355328 by omega];simp_all [CardM.A_def,xN,fu]
 ·intro _;have hd:decide (((ow.length:Nat):Int)<(ow.length:Int))=false:=decide_eq_false (by omega);simp only [go_sem,aL,hd,lP]
end
end
end Hud
