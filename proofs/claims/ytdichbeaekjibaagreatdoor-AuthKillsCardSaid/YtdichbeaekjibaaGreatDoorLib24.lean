import Derived.Test.YtdichbeaekjibaaGreatDoorLib23
set_option linter.all false
namespace Hud
open Go
section
def aC.lift {P:Program} {G:Nat→Option (List AV)} {f:FuncId} {args args2:List AV} {T T2:aH} {R:AV} (L:List Nat) (hn:L.Nodup) (hL:∀ i∈L,i<T.length) (ha:uF L args=args2) (hT:CP L T=T2) (hb:Fd L T.length T L T2=T) (hR:dZ R=[])
  (hc:aC P G f args2 T2 λr T'=>r=R∧T'=T2):aC P G f args T λr T'=>r=R∧T'=T:=by
 have hw:EI P G f args T λr T'=>r=R∧T'=T:=by
  refine ⟨args,aA _,.inl ⟨L,hn,hL,?_⟩⟩;subst ha hT;refine hc.mono ?_;rintro r T' ⟨rfl,rfl⟩;exact ⟨Ub hR,hb⟩
 exact λh φ w vals hG hI hA=>CT hw hG hI hA
structure GAt (T:aH) (p:Nat×Nat×Nat) (g:PGM):Prop where
 a:T[p.1]?=some (some (.box [.ls 5 (g.cards.map CardM.A),.mp p.2.1,.own p.2.2]))
 b:T[p.2.1]?=some (some (MG g.I))
 c:T[p.2.2]?=some (some (.arr 35 (g.nodes.map ND.A)))
 n1:p.1≠p.2.1
 n2:p.1≠p.2.2
 n3:p.2.1≠p.2.2
def GAt.app {T X:aH} {p:Nat×Nat×Nat} {g:PGM} (h:GAt T p g):GAt (T++X) p g:=⟨eI h.a,eI h.b,eI h.c,h.n1,h.n2,h.n3⟩
def GAt.mono {T T':aH} {p:Nat×Nat×Nat} {g:PGM} (h:GAt T p g) (hT:∀ i,i=p.1∨i=p.2.1∨i=p.2.2→T'[i]?=T[i]?):GAt T' p g :=
 ⟨by rw [hT _ (.inl rfl)];exact h.a,by rw [hT _ (.inr (.inl rfl))];exact h.b,by rw [hT _ (.inr (.inr rfl))];exact h.c,h.n1,h.n2,h.n3⟩
def gL (p:Nat×Nat×Nat):List Nat:=[p.1,p.2.1,p.2.2]
def Ld {T:aH} {i:Nat} {o:Option AObj} (h:T[i]?=some o):T.set i o=T:=by
 obtain ⟨hi,rfl⟩:=vE.1 h;exact List.set_getElem_self hi
def aCk {p:Nat×Nat×Nat} (n1:p.1≠p.2.1) (n2:p.1≠p.2.2) (n3:p.2.1≠p.2.2):Rr (gL p) p.1=some 0∧Rr (gL p) p.2.1=some 1∧Rr (gL p) p.2.2=some 2:=by
 refine ⟨?_,?_,?_⟩<;>simp [gL,Rr,List.idxOf?,List.findIdx?_cons,n1,n2,n3]
section
variable {P:Program} {G:Nat→Option (List AV)} {f:FuncId} {args args2:List AV} {T:aH} {p:Nat×Nat×Nat} {g:PGM} {R:AV}
def GAt.nd (h:GAt T p g):(gL p).Nodup:=by
 simp [gL,h.n1,h.n2,h.n3]
def GAt.lt (h:GAt T p g):∀ i∈gL p,i<T.length:=by
 intro i hi;simp only [gL,jB,qS,or_false] at hi;rcases hi with rfl | rfl | rfl
 ·exact (vE.1 h.a).1
 ·exact (vE.1 h.b).1
 ·exact (vE.1 h.c).1
def aDB (L:List Nat) (f:Nat→Int) (l:List Nat):uF L (l.map λi=>iv (f i))=l.map λi=>iv (f i):=uJ (Ce λ_=>rfl)
def aDC (L:List Nat) (n:Nat) (f:Nat→Int) (l:List Nat):B9 L n (l.map λi=>iv (f i))=l.map λi=>iv (f i):=Et (Ce λ_=>rfl)
def GAt.rn (h:GAt T p g):CP (gL p) T=TG 0 g:=by
 obtain ⟨i1,i2,i3⟩:=aCk h.n1 h.n2 h.n3;have g1:=Ge h.a;have g2:=Ge h.b;have g3:=Ge h.c;have e:CP (gL p) T=[p.1,p.2.1,p.2.2].map λi=>(bZ T i).bind (Va (gL p)):=rfl;rw [e];simp only [fE,mE,g1,g2,g3,Hh,Va,MG,uF,AF,i2,i3,TG,aDB,qT]
def GAt.bk (h:GAt T p g):Fd (gL p) T.length T (gL p) (TG 0 g)=T:=by
 have e:Fd (gL p) T.length T (gL p) (TG 0 g)=((T.set p.1 (CI (gL p) T.length (some (.box [.ls 5 (g.cards.map CardM.A),.mp (0+1),.own (0+2)])))).set p.2.1 (CI (gL p) T.length (some (MG g.I)))).set p.2.2 (CI (gL p) T.length (some (.arr 35 (g.nodes.map ND.A)))):=rfl;rw [e];have b1:CI (gL p) T.length (some (.box [.ls 5 (g.cards.map CardM.A),.mp (0+1),.own (0+2)]))=some (.box [.ls 5 (g.cards.map CardM.A),.mp p.2.1,.own p.2.2]):=by
  simp only [CI,B9,vG,qT];rfl
 have b2:CI (gL p) T.length (some (MG g.I))=some (MG g.I):=by
  simp only [CI,MG,aDC]
 have b3:CI (gL p) T.length (some (.arr 35 (g.nodes.map ND.A)))=some (.arr 35 (g.nodes.map ND.A)):=rfl;rw [b1,b2,b3,Ld h.a,Ld h.b,Ld h.c]
def GAt.lift (h:GAt T p g) (ha:uF (gL p) args=args2) (hR:dZ R=[]) (hc:aC P G f args2 (TG 0 g) λr T'=>r=R∧T'=TG 0 g):aC P G f args T λr T'=>r=R∧T'=T :=
 aC.lift (gL p) h.nd h.lt ha h.rn h.bk hR hc
def gL0 (h:GAt T p g):Rr (gL p) p.1=some 0:=(aCk h.n1 h.n2 h.n3).1
end
section
variable {G:Nat→Option (List AV)} {T:aH} {p:Nat×Nat×Nat} {g:PGM}
def Z4 (h:GAt T p g) (hg:g.ok) (x y:Id):aC PQ G cL [.ptr p.1 0,.ag x.A,.ag y.A] T λr T'=>r=.v (.bool (ED g x y))∧T'=T :=
 h.lift (by simp only [uF,AF,gL0 h,Id.A_def]) rfl (Zc g hg x y)
def aBv (h:GAt T p g) (hg:g.ok) (x:Id) (hx:x∈g.I):aC PQ G bE [.ptr p.1 0,.ag x.A] T λr T'=>r=.tup [.ag (g.nd x).o.A,.v (.bool true)]∧T'=T :=
 h.lift (by simp only [uF,AF,gL0 h,Id.A_def]) (by simp only [dZ,fU,OpM.ids0,nR]) (Zb g hg x hx)
def PM (h:GAt T p g) (x:Id) (hx:x∉g.I):aC PQ G bE [.ptr p.1 0,.ag x.A] T λr T'=>r=.tup [.ag Nj,.v (.bool false)]∧T'=T :=
 h.lift (by simp only [uF,AF,gL0 h,Id.A_def]) rfl (W4 g x hx)
def aDD (h:GAt T p g) (hg:g.ok) (o:OpM) (d:Int):aC PQ G tL [.ptr p.1 0,.ag o.A,iv d] T λr T'=>r=.v (.bool (RK g.cards o d))∧T'=T :=
 h.lift (by simp only [uF,AF,gL0 h,uJ o.ids0]) rfl (aBi g hg o d)
end
end
section
section
variable {G:Nat→Option (List AV)} {T:aH} {p:Nat×Nat×Nat} {g:PGM}
set_option maxHeartbeats 4000000
def VJ (h:GAt T p g) (hg:g.ok) (x y:Id):aC PQ G gH [.ptr p.1 0,.ag x.A,.ag y.A] T λr T'=>r=.v (.bool (Ec g x y))∧T'=T:=by
 refine aBs B5 ?_;unfold Bb;have hB:=λX x y=>Z4 (G:=G) (h.app (X:=X)) hg x y;have hid:=Id.beq x y;have g4:∀ {X:aH} {a b c d:Option AObj},(T++a::b::c::d::X)[T.length+3]?=some d:=by intros;simp
 have s3:∀ {X:aH} {a b c d e:Option AObj},(T++a::b::c::d::X).set (T.length+3) e=T++a::b::c::e::X:=by intros;simp
 by_cases h1:x∈g.I
 ·have ha:=λX=>aBv (G:=G) (h.app (X:=X)) hg x h1;by_cases h2:y∈g.I
  ·have hb:=λX=>aBv (G:=G) (h.app (X:=X)) hg y h2;have hgo:=λX=>aDD (G:=G) (h.app (X:=X)) hg (g.nd x).o (g.nd y).o.By;have hk:Ec g x y=(!decide (x=y)&&(!ED g y x&&(!ED g x y&&RL g.cards (g.nd x).o (g.nd y).o))):=by
    rw [Ec,decide_eq_true h1,decide_eq_true h2];rfl
   rw [hk];clear hk;generalize (g.nd x).o=a at *
   generalize (g.nd y).o=b at *
   simp only [go_sem,bS,bY,jI,fX,gW,Id.A_def];refine jU (aA _) (ha _) ?_;rintro r T' ⟨rfl,eT⟩;obtain rfl:=eT.symm;simp only [go_sem,bS,bY,eY,cY,jI,fX,gW,Id.A_def];refine jU (aA _) (hb _) ?_;rintro r T' ⟨rfl,eT⟩;obtain rfl:=eT.symm;cases c1:decide (x=y);rotate_left
   ·simp only [go_sem,bS,bY,eY,cY,g4,s3,jI,fX,gW,Id.A_def,hid,c1,undef,fW]
   simp only [go_sem,bS,bY,eY,cY,g4,s3,jI,fX,gW,Id.A_def,hid,c1];refine jU (aA _) (hB _ y x) ?_;rintro r T' ⟨rfl,eT⟩;obtain rfl:=eT.symm;cases c2:ED g y x;rotate_left
   ·simp only [go_sem,bS,bY,eY,cY,g4,s3,jI,fX,gW,Id.A_def,hid,c1,c2,undef,fW]
   simp only [go_sem,bS,bY,eY,cY,g4,s3,jI,fX,gW,Id.A_def,hid,c1,c2];refine jU (aA _) (hB _ x y) ?_;rintro r T' ⟨rfl,eT⟩;obtain rfl:=eT.symm;cases c3:ED g x y;rotate_left
   ·simp only [go_sem,bS,bY,eY,cY,g4,s3,jI,fX,gW,Id.A_def,hid,c1,c2,c3,undef,fW]
   simp only [go_sem,bS,bY,eY,cY,g4,s3,jI,fX,gW,Id.A_def,hid,c1,c2,c3];unfold RL;have hobj:=Id.beq a.Of b.Of;have hobj2:=Id.beq b.Of a.Of;cases k3:(a.Kind==3)
   ·cases k13:(a.Kind==13)
    ·cases k12:(a.Kind==12)
     ·simp only [go_sem,bS,bY,eY,cY,g4,s3,jI,fX,gW,Id.A_def,hid,c1,c2,c3,k3,k13,k12,fW]
     ·cases q1:(b.Kind==13)
      ·simp only [go_sem,bS,bY,eY,cY,g4,s3,jI,fX,gW,Id.A_def,hid,c1,c2,c3,k3,k13,k12,q1,undef,fW]
      ·cases q2:decide (b.Of=a.Of)
       ·simp only [go_sem,bS,bY,eY,cY,g4,s3,jI,fX,gW,Id.A_def,hid,c1,c2,c3,k3,k13,k12,q1,q2,hobj2,undef,fW]
       ·simp only [go_sem,bS,bY,eY,cY,g4,s3,jI,fX,gW,Id.A_def,hid,c1,c2,c3,k3,k13,k12,q1,q2,hobj2,undef,fW]
    ·cases q1:(b.Kind==12)
     ·simp only [go_sem,bS,bY,eY,cY,g4,s3,jI,fX,gW,Id.A_def,hid,c1,c2,c3,k3,k13,q1,undef];refine jU (aA _) (hgo _) ?_;rintro r T' ⟨rfl,eT⟩;obtain rfl:=eT.symm;simp only [go_sem,bS,bY,eY,cY,g4,s3,jI,fX,gW,Id.A_def,hid,c1,c2,c3,fW,lR,lG,kN,Dz,kC,FW,EG]
     ·cases q2:decide (a.Of=b.Of)
      ·simp only [go_sem,bS,bY,eY,cY,g4,s3,jI,fX,gW,Id.A_def,hid,c1,c2,c3,k3,k13,q1,q2,hobj,undef];refine jU (aA _) (hgo _) ?_;rintro r T' ⟨rfl,eT⟩;obtain rfl:=eT.symm;simp only [go_sem,bS,bY,eY,cY,g4,s3,jI,fX,gW,Id.A_def,hid,c1,c2,c3,fW,lR,lG,kN,Dz,kC,FW,EG]
      ·simp only [go_sem,bS,bY,eY,cY,g4,s3,jI,fX,gW,Id.A_def,hid,c1,c2,c3,k3,k13,q1,q2,hobj,undef,fW]
   ·have k13:(a.Kind==13)=false:=by
     have:a.Kind=3:=by simpa using k3
     rw [this];rfl
    simp only [go_sem,bS,bY,eY,cY,g4,s3,jI,fX,gW,Id.A_def,hid,c1,c2,c3,k3,k13,undef];refine jU (aA _) (hgo _) ?_;rintro r T' ⟨rfl,eT⟩;obtain rfl:=eT.symm;simp only [go_sem,bS,bY,eY,cY,g4,s3,jI,fX,gW,Id.A_def,hid,c1,c2,c3,fW,lR,lG,kN,Dz,kC,FW,EG];rw [k13];rfl
  ·have hb:=λX=>PM (G:=G) (h.app (X:=X)) y h2;have hk:Ec g x y=false:=by
    rw [Ec,decide_eq_true h1,decide_eq_false h2];rfl
   rw [hk];generalize (g.nd x).o=a at *
   simp only [go_sem,bS,bY,jI,fX,gW,Id.A_def];refine jU (aA _) (ha _) ?_;rintro r T' ⟨rfl,eT⟩;obtain rfl:=eT.symm;simp only [go_sem,bS,bY,eY,cY,g4,s3,jI,fX,gW,Id.A_def,undef,fW];refine jU (aA _) (hb _) ?_;rintro r T' ⟨rfl,eT⟩;obtain rfl:=eT.symm;simp only [go_sem,bS,bY,eY,cY,g4,s3,jI,fX,gW,Id.A_def,undef,fW,Nj]
 ·have ha:=λX=>PM (G:=G) (h.app (X:=X)) x h1;have hk:Ec g x y=false:=by
   rw [Ec,decide_eq_false h1];rfl
  rw [hk];by_cases h2:y∈g.I
  ·have hb:=λX=>aBv (G:=G) (h.app (X:=X)) hg y h2;generalize (g.nd y).o=b at *
   simp only [go_sem,bS,bY,jI,fX,gW,Id.A_def];refine jU (aA _) (ha _) ?_;rintro r T' ⟨rfl,eT⟩;obtain rfl:=eT.symm;simp only [go_sem,bS,bY,eY,cY,g4,s3,jI,fX,gW,Id.A_def,undef,fW,Nj];refine jU (aA _) (hb _) ?_;rintro r T' ⟨rfl,eT⟩;obtain rfl:=eT.symm;simp only [go_sem,bS,bY,eY,cY,g4,s3,jI,fX,gW,Id.A_def,undef,fW,Nj]
  ·have hb:=λX=>PM (G:=G) (h.app (X:=X)) y h2;simp only [go_sem,bS,bY,jI,fX,gW,Id.A_def];refine jU (aA _) (ha _) ?_;rintro r T' ⟨rfl,eT⟩;obtain rfl:=eT.symm;simp only [go_sem,bS,bY,eY,cY,g4,s3,jI,fX,gW,Id.A_def,undef,fW,Nj];refine jU (aA _) (hb _) ?_;rintro r T' ⟨rfl,eT⟩;obtain rfl:=eT.symm;simp only [go_sem,bS,bY,eY,cY,g4,s3,jI,fX,gW,Id.A_def,undef,fW,Nj]
end
end
section
structure GGood (g:PGM):Prop where
 ok:g.ok
 chk:∀ n∈g.nodes,rK n.o=0
 cards:CardsG g.cards
 idb:∀ n∈g.nodes,n.id.b≤4611686018427387904
def Z5 {g:PGM} {x:Id} (hx:x∈g.I):g.nd x∈g.nodes:=by
 obtain ⟨j,e,l,_⟩:=fN hx;have hj:j<g.nodes.length:=by simpa [PGM.I] using l
 rw [RJ e,uW,nQ hj];exact iN _
def GGood.op {g:PGM} (h:GGood g) {x:Id} (hx:x∈g.I):OpGood (g.nd x).o∧(g.nd x).o.ok:=⟨aDy (h.chk _ (Z5 hx)),h.ok.ops _ (Z5 hx)⟩
structure Above (T T':aH) (s:RP) (r:RM):Prop where
 at':RollAt T' s r
 ext:∃ X,T'=T++X
 fp:∀ i,Zz s r i→T.length≤i
def aDE {T T':aH} (hl:T.length≤T'.length) (h:∀ i,i<T.length→T'[i]?=T[i]?):∃ X,T'=T++X:=by
 refine ⟨T'.drop T.length,?_⟩;have:T=T'.take T.length:=by
  refine Dy λi=>?_;rw [zD];split
  ·rename_i hi;exact (h i hi).symm
  ·rename_i hi;exact oW (by omega)
 conv=>lhs;rw [←Lo T.length T']
 rw [←this]
def Above.wr {T T1 T2 X:aH} {s s1:RP} {r r1:RM} (h:Above T T1 s r) (w:Wr (T1++X) s r T2 s1 r1):Above T T2 s1 r1:=by
 obtain ⟨Y,rfl⟩:=h.ext;refine ⟨w.at',aDE ?_ λi hi=>?_,λi hi=>?_⟩
 ·have:=w.len;simp only [gK] at this;omega
 ·rw [w.same i (by simp only [gK];omega) λhf=>absurd (h.fp i hf) (by omega),jI,JQ hi]
 ·rcases w.fp i hi with h1 | h1
  ·exact h.fp i h1
  ·simp only [gK] at h1;omega
def Above.app {T T1 X:aH} {s:RP} {r:RM} (h:Above T T1 s r):Above T (T1++X) s r:=h.wr (Wr.refl h.at'.app)
section
variable {G:Nat→Option (List AV)} {T:aH} {p:Nat×Nat×Nat} {g:PGM} {l:Nat} {row v f:AV}
set_option maxHeartbeats 4000000
end
end
section
def Tb {o:OpM} (h:fS o=0) (hk:o.Kind=3) (hd:o.Device=0):o.Member≠0:=by
 unfold fS at h;split at h
 ·simp at h
 split at h
 ·simp at h
 split at h
 ·simp at h
 ·rename_i hn;have hb:dU o=true:=by cases e:dU o<;>simp_all
  intro hm;unfold dU lD at hb;simp [hk,hd,hm] at hb
def Reach.checked {cs:List CardM} {g:GM} (h:Reach cs g):∀ o∈g.L,fS o=0:=by
 induction h with
 | new=>simp
 | @add g o hr ho hid ih =>
  by_cases h:(cX g o).1=0
  ·have a:=FQ h;rw [xM a h];intro x hx;rcases eM.1 hx with hx | hx
   ·exact ih x hx
   ·rw [iU.1 hx];exact a.check
  ·have e:(addM g o).1=g:=by rw [addM,if_pos h]
   rw [e];exact ih
def Reach.rem {cs:List CardM} {g:GM} (h:Reach cs g):aCh g.L:=λ_ ho hk hd=>Tb (h.checked _ ho) hk hd
def ggood {p:PGM} {g:GM} {cs:List CardM} (s:Sim p g) (hp:p.ok) (hr:Reach cs g) (hc:CardsG p.cards):GGood p where
 ok:=hp
 chk:=λn hn=>by
  rw [wW];refine hr.checked n.o ?_;rw [←s.l];exact List.mem_map_of_mem (f:=(·.o)) hn
 cards:=hc
 idb:=λn hn=>by
  have:=hr.seqb n.id (by rw [←s.i];exact List.mem_map_of_mem (f:=(·.id)) hn);omega
def CardsG.perm {cs cs':List CardM} (h:CardsG cs) (p:cs'.Perm cs):CardsG cs' :=
 ⟨by rw [p.length_eq];exact h.len,(p.map _).nodup_iff.2 h.nd,λc hc=>h.mem c (p.mem_iff.1 hc),λc hc=>h.dev c (p.mem_iff.1 hc)⟩
def Tc (p:PGM) (o:OpM):(oS p o).1.cards=p.cards:=by
 unfold oS;split
 ·rfl
 ·unfold LP
  repeat' split
  all_goals first | rfl | (unfold Ni;repeat' split)<;>rfl
def Nq (cs:List CardM):∀ (n:Nat) (l:List OpM),l.length=n→(Aj cs l).cards=qH cs
 | 0,l,h=>by
  obtain rfl:=H7 h;rfl
 | n+1,l,h=>by
  obtain ⟨l0,x,rfl⟩:∃ l0 x,l=l0++[x]:=⟨l.dropLast,l.getLast (by rintro rfl;simp at h),(List.dropLast_concat_getLast _).symm⟩
  rw [JO,Tc];exact Nq cs n l0 (by simpa using h)
def Reach.ggood {cs:List CardM} (hc:cardsOk cs) (hg:CardsG cs) {g:GM} (h:Reach cs g):GGood (Aj cs g.L):=by
 have gd:=h.good hc;refine Hud.ggood gd.sim (TS hc _ λo ho=>⟨gd.ok.ops o ho,gd.ids o ho⟩) h ?_;rw [Nq cs _ _ rfl];exact hg.perm (T4 _ _)
def Reach.kill {cs:List CardM} (hc:cardsOk cs) {g:GM} (h:Reach cs g) (x y:Id):Ec (Aj cs g.L) x y=H4 g x y :=
 Zp (h.good hc).sim (h.good hc).n h.rem x y
def bN:List CardM:=xO [1,2,3,1,2,3]
def oF:cardsOk bN:=Zv _ (by decide) (by decide) (by decide)
def Gf:CardsG bN where
 len:=by decide
 nd:=by
  have:bN.map (·.Device)=[1,2,3,4,5,6]:=rfl;rw [this];decide
 mem:=λc hc=>by
  have h1:c.Member∈bN.map (·.Member):=List.mem_map_of_mem (f:=(·.Member)) hc;have:bN.map (·.Member)=[1,2,3,1,2,3]:=rfl;rw [this] at h1;simp at h1;omega
 dev:=λc hc=>by
  have h1:c.Device∈bN.map (·.Device):=List.mem_map_of_mem (f:=(·.Device)) hc;have:bN.map (·.Device)=[1,2,3,4,5,6]:=rfl;rw [this] at h1;simp at h1;omega
end
section

end
section
section
variable {P:Program} {G:Nat→Option (List AV)} {f:Nat} {args:List AV} {T:aH} {p q:AV→aH→Prop}
def aC.dsub (hc:aC P G f args T p) (hk:∀ r T',p r T'→∃ r',dN r r'=true∧q r' T'):aC P G f args T q:=by
 have key:∀ {h:GH} {φ:Nat→Value} {w w':World} {v:Value},Bv h φ T w p v w'→Bv h φ T w q v w':=by
  rintro h φ w w' v ⟨r,T',h',φ',e1,e2,e3,e4⟩;obtain ⟨r',hd,hq⟩:=hk r T' e1;exact ⟨r',T',h',φ',hq,e2,e3,Uw hd e4⟩
 intro h φ w vals hG hI hA;rcases hc h φ w vals hG hI hA with ⟨a,b⟩ | ⟨v,w',a,b⟩
 ·exact .inl ⟨a,b.mono λe w' ⟨v,e1,e2⟩=>⟨v,e1,key e2⟩⟩
 ·exact .inr ⟨v,w',a,key b⟩
end
def aC.asub {P:Program} {G:Nat→Option (List AV)} {f:Nat} {args args':List AV} {T:aH} {p:AV→aH→Prop} (hc:aC P G f args' T p) (hd:mB args args'=true):aC P G f args T p :=
 λh φ w vals hG hI hA=>hc h φ w vals hG hI (JI hd hA)
def iZ (z:Int):kZ (IntKind.i64.wrap z):=by
 unfold kZ;simp only [IntKind.wrap,IntKind.bits,IntKind.signed];simp;omega
def aCl (z:Int):∃ k:Nat,k<18446744073709551616∧IntKind.u64.wrap z=(k:Int):=by
 refine ⟨(IntKind.u64.wrap z).toNat,?_,?_⟩<;>simp only [IntKind.wrap,IntKind.bits,IntKind.signed]<;>simp<;>omega
def aFl (z:Int):∃ k:Nat,k<256∧IntKind.u8.wrap z=(k:Int):=by
 refine ⟨(IntKind.u8.wrap z).toNat,?_,?_⟩<;>simp only [IntKind.wrap,IntKind.bits,IntKind.signed]<;>simp<;>omega
def Ak (by0:Int):List AV:=[iv by0,iv 0,iv 0,iv 0,.v (.slice none 0 0),iv 0,iv 0,iv 0,iv 0,.v (.slice none 0 0),iv 0,iv 0,.v (.int .u64 0),iv 0,.v (.slice none 0 0),.v (.slice none 0 0),iv 0,iv 0,.v (.int .u64 0),.v (.slice none 0 0),iv 0,iv 0,.v (.slice none 0 0),.v (.int .u64 0),.v (.slice none 0 0),.v (.int .u64 0),.v (.int .u64 0)]
@[go_sem] def aHt (b:Int):fU (Ak b)=[]:=bJ rfl rfl
@[go_sem] def aIo (L:List Nat) (b:Int):uF L (Ak b)=Ak b:=bJ rfl rfl
@[go_sem] def aIp (L:List Nat) (n:Nat) (b:Int):B9 L n (Ak b)=Ak b:=bJ rfl rfl
@[go_sem] def aHu (b:Int):(Ak b).length=27:=bJ rfl rfl
@[go_sem] def aHv (b:Int):(Ak b).drop 27=[]:=bJ rfl rfl
@[go_sem] def aIq (i k:Nat) (es:List (List AV)) (b:Int):Fb i k es (Ak b)=Ak b:=bJ rfl rfl
@[go_sem] def OpM.d27 (o:OpM):o.A.drop 27=[]:=bJ rfl rfl
@[go_sem] def OpM.up1 (o:OpM) (x:Int):o.A.take 1++[iv x]++o.A.drop 2=OpM.A { o with Seq:=x }:=bJ rfl rfl
@[go_sem] def OpM.up3 (o:OpM) (x:Int):o.A.take 3++[iv x]++o.A.drop 4=OpM.A { o with At:=x }:=bJ rfl rfl
@[go_sem] def OpM.up4 (o:OpM) (l:List Id):o.A.take 4++[ids l]++o.A.drop 5=OpM.A { o with Past:=l }:=bJ rfl rfl
def id0:(⟨0,0,0⟩:Id).ok:=⟨⟨by decide,by decide⟩,⟨by decide,by decide⟩,by decide,by decide⟩
def aBw:([]:List NodeM).length≤10∧∀ x∈([]:List NodeM),x.ok:=⟨by simp,by simp⟩
def tC:([]:List Nat).length≤1000∧tI []:=⟨by simp,λx hx=>by simp at hx⟩
def aBx {k:Nat} (h:k<256):[k].length≤1000∧tI [k]:=⟨by simp,λx hx=>by rw [iU.1 hx];exact h⟩
section
variable {G:Nat→Option (List AV)}
set_option maxHeartbeats 1000000
end
end
section
section
variable {G:Nat→Option (List AV)}
set_option maxHeartbeats 1000000
end
end
section
section
variable {G:Nat→Option (List AV)}
set_option maxHeartbeats 1000000
def Le:∀ l:List CardM,uZ (l.map CardM.A) (l.map CardM.A)=true
 | []=>rfl
 | c::l=>by
  simp only [fE,uZ,CardM.A_def,mB,dN,IU,beq_self_eq_true,AI,Le l]
def XD (cs:List CardM):aC PQ G AT [.ls 5 (cs.map CardM.A)] [] λr T=>r=.ag (⟨cs,[],[],[],[]⟩:GM).A∧T=[]:=by
 refine aC.dsub (p:=λr T=>r=.ag [.ls 5 (cs.map CardM.A),.v (.slice none 0 0),.v (.slice none 0 0),.v (.slice none 0 0),.v (.slice none 0 0)]∧T=[]) (aD OP (by decide) ?_) ?_
 ·simp only [go_sem]
 ·rintro r T' ⟨rfl,rfl⟩;refine ⟨_,?_,rfl,rfl⟩;simp only [dN,mB,GM.A,ids,mE,Le,Nat.beq_refl,AI]
def RY:∀ l:List Id,uZ (l.map Id.A) (l.map Id.A)=true
 | []=>rfl
 | c::l=>by
  simp only [fE,uZ,Id.A_def,mB,dN,IU,beq_self_eq_true,AI,RY l]
def z5:List AV:=[.v (.slice none 0 0),.v (.slice none 0 0),.v (.slice none 0 0),.v (.slice none 0 0),.v (.slice none 0 0)]
end
end
end Hud
