import Derived.Test.YthlndebkfkanbaaGreatDoorLib31
set_option linter.all false
namespace Hud
open Go
section
def ndT (n:ND):n.A.take 27=n.o.A:=by
 simp only [ND.A];rw [QY (by rw [OpM.len];exact fW _)];exact OpM.t27 _
def aE2 (o:OpM):o.A.drop 27=[]:=cH rfl rfl
section
variable {G:Nat→Option (List AV)}
set_option maxHeartbeats 4000000
def aDd {g:PGM} (hg:g.ok) {x:Id} (hx:x∈g.I):(g.nd x).o.ok:=by
 obtain ⟨j,h1,h2,_⟩:=pL hx;have hj:j<g.nodes.length:=by simpa [PGM.I] using h2
 rw [aBx h1,fG,fV hj];exact hg.ops _ (jY hj)
def aBz (g:PGM) (hg:g.ok) (x:Id) (hx:x∈g.I):aC PQ G tV [.ptr 0 0,.ag x.A] (TG 0 g) λr T=>r=.tup [.ag (g.nd x).o.A,.v (.bool true)]∧T=TG 0 g:=by
 refine aF Em (by decide) ?_;have hk:=HG x;have hf:=EX x g.I 0;obtain ⟨j,h1,h2,_⟩:=pL hx;have hnd:=aBx h1;rw [h1] at hf;have gv:=Dx g.I.length j h2;have hj:j<g.nodes.length:=by simpa [PGM.I] using h2
 have gn:(g.nodes.map ND.A)[j]?=some (g.nd x).A:=by
  rw [eD,fV hj,hnd,fG,fV hj];rfl
 have hW:=(SQ hg x).1;have gA:=ND.Alen (g.nd x) hW;have gT:=ndT (g.nd x);have ho:=aDd hg hx;simp only [kZ,yN] at hf;generalize (g.nd x)=n at *
 simp only [go_sem,TG,MG,hf,gv,aL,hj,gn,gA,gT];refine aB (aA _) rfl (WH n.o ho) rfl ?_;simp only [go_sem,TG,MG,aE2]
end
section
variable {G:Nat→Option (List AV)}
set_option maxHeartbeats 4000000
def aBA (g:PGM) (hg:g.ok) (l:List Id) (hn:l.Nodup) (hm:∀ x∈l,x∈g.I) (hl:l.length≤1000):aC PQ G wD [.ptr 0 0,ids l] (TG 0 g) λr T=>r=.ls 27 ((vV g l).map λx=>(g.nd x).o.A)∧T=TG 0 g:=by
 refine aC.fin (p:=λr T=>r=.own 3∧T=TG 0 g++[some (.arr 27 ((vV g l).map λx=>(g.nd x).o.A))]) (aF JK (by decide) ?_) [3] ?_;rotate_left
 ·rintro r T' ⟨rfl,rfl⟩;simp only [go_sem,TG,MG]
 simp only [go_sem,TG,MG];refine aI [0,1,2] (aA _) (by decide) (by simp) (by simp only [go_sem]) (by simp only [go_sem,TG,MG]) (aDc g hg l hn (by omega)) ?_;rintro r T' ⟨rfl,rfl⟩;have hlen:=Mm g l;have hmem:∀ x∈vV g l,x∈g.I:=λx hx=>hm x ((uI g l).mem_iff.1 hx);generalize vV g l=L at *
 simp only [go_sem,TG,MG];refine aO L.length (λi=>⟨3,[(0,.ptr 0 0),(5,.own 3),(12,ids L),(13,iv L.length),(14,iv i)],TG 0 g++[some (.arr 27 ((L.take i).map λx=>(g.nd x).o.A))]⟩) (λ_=>True) ?_ trivial ?_ ?_
 ·simp only [go_sem,TG,MG,mL,eQ]
 ·intro i hi _;have ws:=aG (show i<9223372036854775807 by omega);have g0:(L.map Id.A)[i]?=some L[i].A:=aP _ L i hi;have hx:=hmem L[i] (jY hi);have hz:L.take (i+1)=L.take i++[L[i]]:=(Yd hi).symm;have htl:(L.take i).length=i:=by rw [hZ];omega
  rw [hz];generalize L[i]=x at *
  generalize L.take i=O at *
  have m3:(i+1)*328≤140737488355328:=nX (Mr 328 (show i+1≤1001 by omega)) (by decide);have m4:i+1≤maxLen:=by unfold maxLen;omega
  simp only [go_sem,TG,MG,aL,aT hi,hi,g0];refine aI [0,1,2] (aA _) (by decide) (by simp) (by simp only [go_sem]) (by simp only [go_sem,TG,MG]) (aBz g hg x hx) ?_;rintro r T' ⟨rfl,rfl⟩;simp only [go_sem,TG,MG,aL,htl,m3,m4,ws,aE2,gQ,cN,eQ]
 ·intro _;rw [kH];simp only [go_sem,TG,MG,aL,aX (cZ _)]
end
end
section
section
variable {G:Nat→Option (List AV)}
set_option maxHeartbeats 1000000
def YR (l:List Nat):aC PQ G AO [.ls 1 (bl l),.ls 1 (bl l)] [] λr T=>r=.v (.bool true)∧T=[]:=by
 refine aF Hs (by decide) ?_;simp only [go_sem,bT,beq_self_eq_true]
def aFn (o:OpM) (ho:o.ok):aC PQ G Hn [.ag o.A,.ag o.A] [] λr T=>r=.v (.bool true)∧T=[]:=by
 refine aF PD (by decide) ?_;simp only [go_sem];refine aS (aA _) rfl (aDT o ho) ?_;simp only [go_sem];refine aS (aA _) rfl (aDT o ho) ?_;simp only [go_sem];refine lN (aA _) rfl rfl (YR o.P) ?_;simp only [go_sem]
end
end
section
section
variable {G:Nat→Option (List AV)}
set_option maxHeartbeats 4000000
def aDe (hK:GK G) (hlv:aC PQ G yV [] [] λr T=>r=.v (.bool true)∧T=[]) (l m:List Int) (hl:l.length≤9223372036854775807) (hi:∀ n∈l,tK n) (hm:m.length≤9223372036854775807) (him:∀ n∈m,tK n) :
  aC PQ G Ax [AM l,AM m] [] λr T=>r=.v (.bool true)∧T=[]:=by
 refine aF El (by decide) ?_;simp only [go_sem];refine lM (aA _) rfl (aD4 l hl hi) ?_;rintro r T' ⟨⟨g,hr,rfl⟩,rfl⟩;have gd:=hr.good pM;have rw0:=hr.row pM;obtain ⟨hg,hs,hcs,h200⟩:=hr.hyps pM;have hp:(rN iP g.L).ok:=P9 pM g.L λx hx=>⟨gd.ok.ops x hx,gd.ids x hx⟩
 simp only [go_sem];refine aS (aA _) rfl (aJk hK pM hr) ?_;simp only [go_sem,TG,MG];refine aB (aA _) rfl (aB0 g hg m hm him) rfl ?_;have hX:=Me (g:=g) hg.i m;have hXn:=QM (g:=g) hg.i rw0.nd m;have hXl:=Mf hg m;generalize lL g m=X at *
 have hXp:∀ x∈X,x∈(rN iP g.L).I:=λx hx=>by rw [gd.sim.i];exact hX x hx
 have hord:=aFl pM hr hX;have hor:=UT (G:=G) g X hg gd.wf.up (by omega) (λx hx=>(nF _ _).2 (hX x hx));rw [←hord] at hor;simp only [go_sem,TG,MG];refine aI [1,2,3] (aA _) (by decide) (by simp) (by simp only [go_sem]) (by simp only [go_sem,TG,MG]) (aBA (rN iP g.L) hp X hXn hXp (by omega)) ?_;rintro r T' ⟨rfl,rfl⟩;simp only [go_sem,TG,MG];refine aB (aA _) rfl hor rfl ?_;have hRl:=Mm (rN iP g.L) X;have hRm:∀ x∈vV (rN iP g.L) X,x∈g.I:=λx hx=>hX x ((uI _ X).mem_iff.1 hx);have hRs:=I5 (g:=rN iP g.L) hXn;generalize vV (rN iP g.L) X=R at *
 simp only [go_sem,TG,MG,aL,bne_self_eq_false];have bK:∀ x∈R,∃ a:Nat,a<g.L.length∧aR g.I x=(a:Int)∧(g.L.map OpM.A)[a]?=some ((rN iP g.L).nd x).o.A∧Af ((rN iP g.L).nd x).o=x∧((rN iP g.L).nd x).o.ok:=by
  intro x hx;have h0:=(nF g.I x).2 (hRm x hx);have h1:=BT h0;have h2:(aR g.I x).toNat<g.L.length:=by
   rcases bY (aR g.I x).toNat g.L.length with hh | hh
   ·exact hh
   ·rw [gV (by rw [gd.wf.i];exact hh)] at h1;simp at h1
  have h3:g.I.getD (aR g.I x).toNat default=x:=by rw [fG,h1];rfl
  have h4:=(Mo pM hr _ h2).2;rw [h3] at h4;refine ⟨(aR g.I x).toNat,h2,by omega,?_,?_,?_⟩
  ·rw [h4,eD,fG,fV h2];rfl
  ·rw [h4];generalize (aR g.I x).toNat=a at *
   have h6:(g.L.map Af)[a]?=some x:=rw0.ids ▸ h1;rw [eD,fV h2] at h6;rw [fG,fV h2];simpa using h6
  ·rw [h4,fG,fV h2];exact gd.ok.ops _ (jY h2)
 refine eF (λs=>s=⟨0,[(6,.ptr 1 0)],some (.box g.A)::TG 1 (rN iP g.L)⟩) ?_ ?_;rotate_left
 ·rintro s rfl;simp only [go_sem,TG,MG];refine aI [1,2,3] ⟨_,_,rfl,rfl,_,_,rfl,.inr (.inl ⟨rfl,3,rfl⟩),rfl⟩ (by decide) (by simp) (by simp only [go_sem,ids,eQ]) (by simp only [go_sem,TG,MG]) (aBA (rN iP g.L) hp [] Nd (by simp) (by simp)) ?_;rintro r T' ⟨rfl,rfl⟩;have e0:vV (rN iP g.L) []=[]:=CR (by rw [Mm];rfl);simp only [go_sem,TG,MG,e0,eQ,kI];refine aB (aA _) rfl hlv rfl ?_;simp only [go_sem,TG,MG]
 refine aO R.length (λi=>⟨0,[(5,.ptr 0 0),(6,.ptr 1 0),(8,.ls 27 (R.map λx=>((rN iP g.L).nd x).o.A)),(9,ids R),(10,iv i)],some (.box g.A)::TG 1 (rN iP g.L)⟩) (λ_=>True) ?_ trivial ?_ ?_
 ·simp only [go_sem,TG,MG]
 ·intro i hi _;have ws:=aG (show i<9223372036854775807 by omega);have g0:(R.map Id.A)[i]?=some R[i].A:=aP _ R i hi;have g1:(R.map λx=>((rN iP g.L).nd x).o.A)[i]?=some ((rN iP g.L).nd R[i]).o.A:=aP _ R i hi;obtain ⟨a,ha,hpl,gL,hid,ho⟩:=bK R[i] (jY hi);have hpl2:=wR (G:=G) g R[i] hg;rw [hpl] at hpl2;have hmx:(if (0:Int)<(a:Int) then (a:Int) else 0)=(a:Int):=by split<;>omega
  simp only [go_sem,TG,MG,aL,aT hi,hi,g0,g1];refine aB (aA _) rfl (WB _ ho) rfl ?_;simp only [go_sem,TG,MG,aL,hid,decide_true,hi,g0,g1,undef];refine aB (aA _) rfl hpl2 rfl ?_;simp only [go_sem,TG,MG,aL,hmx,mx,ha,gL,hi,g0,g1,undef];refine aB (aA _) rfl (aFn _ ho) rfl ?_;simp only [go_sem,TG,MG,aL,ws,undef];refine bU (λn s=>∃ k:Nat,n=R.length-k∧i<k∧k≤R.length∧s=⟨0,[(5,.ptr 0 0),(6,.ptr 1 0),(8,.ls 27 (R.map λx=>((rN iP g.L).nd x).o.A)),(9,ids R),(10,iv i),(11,iv k)],some (.box g.A)::TG 1 (rN iP g.L)⟩) (R.length-(i+1)) ⟨i+1,rfl,by omega,by omega,by simp only [go_sem,TG,MG]⟩ ?_;rintro n s ⟨k,hn,hik,hk,rfl⟩;by_cases hkl:k<R.length
  ·have gk:(R.map Id.A)[k]?=some R[k].A:=aP _ R k hkl;have wk:=aG (show k<9223372036854775807 by omega);have hnp:R[k]∉((rN iP g.L).nd R[i]).o.Past:=by
    intro hh;have h1:=aFm pM hr (hRm R[i] (jY hi)) hh;have h2:=Uv.1 hRs i k hi hkl hik;rw [Od h2] at h1;exact absurd h1 (by decide)
   have hh:=zT (G:=G) ((rN iP g.L).nd R[i]).o.Past R[k] (by have:=ho.past.1;unfold maxLen;omega);rw [decide_eq_false hnp] at hh;simp only [go_sem,TG,MG,aL,aT hkl,hkl,hi,gk,g1];refine aB (aA _) rfl hh rfl ?_;simp only [go_sem,TG,MG,wk];exact ⟨R.length-(k+1),by omega,k+1,rfl,by omega,by omega,rfl⟩
  ·simp only [go_sem,TG,MG,aL,aX hkl,ws]
 ·intro _;simp only [go_sem,TG,MG,aL,aX (cZ _)]
end
end
section
attribute [local irreducible] rT
section
variable {G:Nat→Option (List AV)}
set_option maxHeartbeats 2000000
def hA (n1 n2 n3:Nat):List Fq:=[eW,Fin.ofNat PP 3,Fin.ofNat PP n1,Fin.ofNat PP n2,Fin.ofNat PP n3,0]
def YS (n:Nat):1+n%1152921504606846976<PP:=by show _<2305843009213693951;omega
def CK (n:Int):Nat:=(n%18446744073709551616).toNat
def QQ (n:Int):CK n<18446744073709551616:=by unfold CK;omega
def YT (n:Int):IntKind.u64.wrap n=((CK n:Nat):Int):=by
 have:IntKind.u64.wrap n=n%18446744073709551616:=by simp [IntKind.wrap,IntKind.bits,IntKind.signed]
 rw [this];unfold CK;omega
def aBB (a b c:Int):Fq:=⟨1+(aAc [CK a,CK b,CK c]).val%1152921504606846976,YS _⟩
def YU (x:Nat) (h:1+x<18446744073709551616):aZ .add (.int .u64 1) (.int .u64 (x:Int))=some (.int .u64 ((1+x:Nat):Int)):=cW 1 x h
def aBC (a b c:Int) (hc:0≤c∧c<18446744073709551616):aC PQ G qF [.ag [.v (.int .i64 a),.v (.int .i64 b),.v (.int .u64 c)]] [] λr T'=>r=.v (fu (aBB a b c))∧T'=[]:=by
 refine aF Hz (by decide) ?_;have ec:(c:Int)=((CK c:Nat):Int):=by unfold CK;omega
 rw [ec];have r1:=YU ((aAc [CK a,CK b,CK (CK c:Nat)]).val%1152921504606846976) (by omega);have e2:CK ((CK c:Nat):Int)=CK c:=by rw [←ec]
 simp only [go_sem,YT,e2];refine lN (aA _) rfl rfl (aJ8 (CK a) (CK b) (CK c) (QQ _) (QQ _) (QQ _)) ?_;rw [e2] at r1;simp only [go_sem,↓T7,↓r1];rw [←ec];rfl
end
end
section
structure BX where
 To:Fq
 Eph:Fq
 Body:Fq
 Tag:Fq
def BX.A (b:BX):List AV:=[.v (fu b.To),.v (fu b.Eph),.v (fu b.Body),.v (fu b.Tag)]
section
variable {G:Nat→Option (List AV)}
set_option maxHeartbeats 4000000
end
end
end Hud
