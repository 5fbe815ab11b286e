import Derived.Test.YthlndebkfkanbaaGreatDoorLib25
set_option linter.all false
namespace Hud
open Go
section
abbrev nrs (l:List Nat):List (List AV):=l.map λn:Nat=>[iv (n:Int)]
def QD (lv:List Int) (I:List Id) (out:List Nat) (p:Nat):Nat:=(out.takeWhile λq=>SW lv I q p).length
def QE (lv:List Int) (I:List Id) (out:List Nat) (p:Nat):List Nat:=out.take (QD lv I out p)++([p]++out.drop (QD lv I out p))
def Eu (lv:List Int) (I:List Id) (ps:List Nat):List Nat:=ps.foldl (QE lv I) []
def tE (I l:List Id):List Nat:=l.map λx=>(aR I x).toNat
def US {f:Nat→Bool}:∀ {out:List Nat} {k:Nat},k≤out.length→(∀ j,j<k→f (out.getD j 0)=true)→(k=out.length∨f (out.getD k 0)=false)→(out.takeWhile f).length=k
 | [],k,hk,_,_=>by simp at hk;simp [hk]
 | x::out,0,_,_,h2=>by
  have:f x=false:=by simpa using h2
  simp [List.takeWhile,this]
 | x::out,k+1,hk,h1,h2=>by
  have h0:f x=true:=by simpa using h1 0 (by omega)
  rw [aDr h0,kS,US (out:=out) (k:=k) (by simpa using hk) (λj hj=>by simpa using h1 (j+1) (by omega)) (by simpa using h2)]
def WL (lv:List Int) (I:List Id) (out:List Nat) (p:Nat):QD lv I out p≤out.length:=(List.takeWhile_sublist _).length_le
def aAY (lv:List Int) (I:List Id) (out:List Nat) (p:Nat):(QE lv I out p).length=out.length+1:=by
 have:=WL lv I out p;simp only [QE,dU,hZ,tT,kS,kI];omega
def YA (lv:List Int) (I:List Id) (out:List Nat) (p:Nat):(QE lv I out p).Perm (p::out):=by
 show (out.take (QD lv I out p)++p::out.drop (QD lv I out p)).Perm (p::out);refine VE.trans ?_;rw [KO]
def IL (lv:List Int) (I:List Id):∀ (ps out:List Nat),(ps.foldl (QE lv I) out).Perm (ps++out)
 | [],out=>.refl _
 | p::ps,out=>by
  refine (IL lv I ps _).trans (((YA lv I out p).append_left ps).trans ?_);exact VE
section
variable {G:Nat→Option (List AV)}
set_option maxHeartbeats 8000000
def UT (g:GM) (l:List Id) (hg:g.ok) (hw:∀ i,∀ k∈g.Up.getD i [],k<i) (hl:l.length≤1000) (hm:∀ x∈l,0≤aR g.I x) :
  aC PQ G C1 [.ag g.A,ids l] [] λr T=>r=ids ((Eu (iR g.Up g.L.length) g.I (tE g.I l)).map λi=>g.I.getD i default)∧T=[]:=by
 refine aC.fin (p:=λr T=>r=.own 0∧T=[some (.arr 3 (((Eu (iR g.Up g.L.length) g.I (tE g.I l)).map λi=>g.I.getD i default).map Id.A))]) (aF LG (by decide) ?_) [0] ?_;rotate_left
 ·rintro r T' ⟨rfl,rfl⟩;simp only [go_sem,kI,ids,Ee]
 have hn:=hg.n;have hI:=hg.i;have hlv:=yK g.Up g.L.length;have hpl:∀ p∈tE g.I l,p<g.L.length:=λp hp=>by
  obtain ⟨x,hx,rfl⟩:=dE.1 hp;have:=rM g.I x;have:=hm x hx;omega
 have hps:(tE g.I l).length=l.length:=by simp [tE]
 simp only [go_sem];refine aB (aA _) rfl (aAX g hg hw) rfl ?_;generalize hlvs:iR g.Up g.L.length=lv at *
 have hout:∀ i,((tE g.I l).take i).foldl (QE lv g.I) []=Eu lv g.I ((tE g.I l).take i):=λi=>rfl;have hoP:∀ i,(Eu lv g.I ((tE g.I l).take i)).Perm ((tE g.I l).take i):=λi=>by
  have:=IL lv g.I ((tE g.I l).take i) [];rwa [kT] at this
 have hoL:∀ i,i≤l.length→(Eu lv g.I ((tE g.I l).take i)).length=i:=λi hi=>by
  rw [(hoP i).length_eq,hZ,hps];omega
 have hoM:∀ i,∀ p∈Eu lv g.I ((tE g.I l).take i),p<g.L.length:=λi p hp=>hpl p (CS ((hoP i).mem_iff.1 hp));simp only [go_sem];refine eF (λs=>s=⟨0,[(2,.ptr 0 0),(6,.own 1)],[some (.box g.A),some (.arr 1 (nrs (Eu lv g.I (tE g.I l))))]⟩) ?_ ?_
 ·refine aO l.length (λi=>⟨0,[(1,ids l),(2,.ptr 0 0),(5,.ls 1 (ivs lv)),(6,.own 1),(7,iv i)],[some (.box g.A),some (.arr 1 (nrs (Eu lv g.I ((tE g.I l).take i))))]⟩) (λ_=>True) ?_ trivial ?_ ?_
  ·simp only [go_sem,mL];rfl
  ·intro i hi _;have ws:=aG (show i<9223372036854775807 by omega);have g0:(l.map Id.A)[i]?=some l[i].A:=aP _ l i hi;have hp0:=hm l[i] (jY hi);have hpl0:=rM g.I l[i];have hnat:aR g.I l[i]=(((aR g.I l[i]).toNat:Nat):Int):=by omega
   have hstep:Eu lv g.I ((tE g.I l).take (i+1))=QE lv g.I (Eu lv g.I ((tE g.I l).take i)) (aR g.I l[i]).toNat:=by
    have hi2:i<(tE g.I l).length:=by omega
    unfold Eu;rw [xA _ _ (tE g.I l) i hi2];simp [tE]
   have hoL:=hoL i (by omega);have hoM:=hoM i;rw [hstep];generalize Eu lv g.I ((tE g.I l).take i)=out at *
   have hpc:=X9 (G:=G) g l[i] hg;rw [hnat] at hpc;generalize (aR g.I l[i]).toNat=p at *
   generalize l[i]=x at *
   simp only [go_sem,aL,aT hi,hi,g0];refine aB (aA _) rfl hpc rfl ?_;have hneg:decide ((p:Int)<0)=false:=decide_eq_false (by omega);simp only [go_sem,undef,hneg];have hple:=WL lv g.I out p;refine eF (λs=>s=⟨0,[(1,ids l),(2,.ptr 0 0),(5,.ls 1 (ivs lv)),(6,.own 1),(7,iv i),(8,iv p),(9,iv (QD lv g.I out p))],[some (.box g.A),some (.arr 1 (nrs out))]⟩) ?_ ?_
   ·refine bU (λn s=>∃ k:Nat,n=out.length-k∧k≤out.length∧(∀ j,j<k→SW lv g.I (out.getD j 0) p=true)∧s=⟨0,[(1,ids l),(2,.ptr 0 0),(5,.ls 1 (ivs lv)),(6,.own 1),(7,iv i),(8,iv p),(9,iv k)],[some (.box g.A),some (.arr 1 (nrs out))]⟩) out.length
     ⟨0,rfl,xC _,λj hj=>by omega,by simp only [go_sem]⟩ ?_
    rintro n s ⟨k,hn1,hk,hj,rfl⟩;by_cases hkl:k<out.length
    ·have gk:(nrs out)[k]?=some [iv (out.getD k 0:Nat)]:=by rw [eD,fG,fV hkl];rfl
     have hq:out.getD k 0<g.L.length:=by
      rw [fG,fV hkl];exact hoM _ (jY hkl)
     have hpg:p<g.L.length:=by omega
     have wk:=aG (show k<9223372036854775807 by omega);simp only [go_sem,aL,aT hkl,hkl,gk];refine aB (aA _) rfl (aCW g lv hg hlv _ p hq hpg) rfl ?_;simp only [go_sem,aL,aT hkl,hkl,gk];refine aM (λh=>?_) (λh=>?_)
     ·simp only [go_sem,wk]
      exact ⟨out.length-(k+1),by omega,k+1,rfl,by omega,λj hj2=>by
       rcases bY j k with h1 | h1
       ·exact hj j h1
       ·obtain rfl:j=k:=by omega
        exact h,rfl⟩
     ·simp only [go_sem];rw [show QD lv g.I out p=k from US hk hj (.inr h)]
    ·simp only [go_sem,aL,aX hkl];rw [show QD lv g.I out p=k from US hk hj (.inl (by omega))]
   ·rintro s rfl;have hlen:=aAY lv g.I out p;unfold QE;generalize QD lv g.I out p=q at *
    simp only [go_sem,aL,hZ,tT,dU,KN hple,hple,E4,rW,xC,show q*8≤140737488355328 by omega,show q≤maxLen by unfold maxLen;omega,show q+1≤maxLen by unfold maxLen;omega,show (q+1)*8≤140737488355328 by omega,
     show q+(out.length-q)=out.length by omega,ws,show (q+1+(out.length-q))*8≤140737488355328 by omega,show q+1+(out.length-q)≤maxLen by unfold maxLen;omega,fW,VN,eE,gQ,Qr,VK,cN,eQ]
  ·intro _;rw [pY (by omega)];simp only [go_sem,aL,aX (cZ _)]
 rintro s rfl;have hoL:=hoL l.length (fW _);have hoM:=hoM l.length;rw [pY (by omega)] at hoL hoM;generalize Eu lv g.I (tE g.I l)=out at *
 simp only [go_sem];refine aO out.length (λi=>⟨0,[(2,.ptr 0 0),(6,.own 1),(11,.own 2),(12,iv i)],[some (.box g.A),some (.arr 1 (nrs out)),some (.arr 3 (((out.take i).map λi=>g.I.getD i default).map Id.A))]⟩) (λ_=>True) ?_ trivial ?_ ?_
 ·simp only [go_sem,mL,eQ]
 ·intro i hi _;have ws:=aG (show i<9223372036854775807 by omega);have gk:(nrs out)[i]?=some [iv (out[i]:Nat)]:=aP _ out i hi;have hq:out[i]<g.L.length:=hoM _ (jY hi);have gI:(g.I.map Id.A)[out[i]]?=some (g.I.getD out[i] default).A:=by rw [eD,fG,fV (by omega)];rfl
  have hIl:out[i]<g.I.length:=by omega
  rw [oT hi,gQ,gQ];have htl:(out.take i).length=i:=by rw [hZ];omega
  obtain ⟨x,hx⟩:∃ x,x=g.I.getD out[i] default:=⟨_,rfl⟩
  rw [←hx] at gI;generalize out[i]=q at *
  generalize out.take i=O at *
  simp only [go_sem,aL,aT hi,hi,gk,gI,hIl,htl,ws,show i+1≤maxLen by unfold maxLen;omega,show (i+1)*24≤140737488355328 by omega];rw [hx]
 ·intro _;rw [kH];simp only [go_sem,aL,aX (cZ _)]
def Ev (I:List Id) (l:List Int):List Id:=(l.take 4).map λn=>I.getD (nM n I.length).toNat default
def lL (g:GM) (l:List Int):List Id:=if l=[]∨g.L=[] then iG g.I else Iv g (Ev g.I l)
end
end
section
def aAZ (I:List Id) (l:List Int) (i:Nat) (h:i<l.length) (h4:i<4):Ev I (l.take (i+1))=Ev I (l.take i)++[I.getD (nM l[i] I.length).toNat default]:=by
 unfold Ev;rw [Qp,Qp,show min 4 (i+1)=i+1 by omega,show min 4 i=i by omega,←Yd h,gQ];rfl
def MX (I:List Id) (l:List Int):(Ev I l).length≤4:=by
 unfold Ev;rw [aL,hZ];omega
def F4 (n:Int) (m:Int) (hm:0<m):0≤nM n m∧nM n m<m:=by
 unfold nM;exact ⟨Int.emod_nonneg _ (by omega),Int.emod_lt_of_pos _ hm⟩
section
variable {G:Nat→Option (List AV)}
set_option maxHeartbeats 4000000
def OS (g:GM) (hg:g.ok) (l:List Int) (hl:l.length≤9223372036854775807) (hi:∀ n∈l,tK n):aC PQ G oY [.ag g.A,AM l] [] λr T=>(r=ids (lL g l)∧T=[]∧(l=[]∨g.L=[]))∨(r=.own 0∧T=[some (.arr 3 ((lL g l).map Id.A))]):=by
 refine aF JB (by decide) ?_;have hI:=hg.i;by_cases h1:l=[]
 ·subst h1;simp only [go_sem,kI,aL,show (((0:Nat):Int)==0)=true by rfl,undef];refine aB (aA _) rfl (P2 g hg) rfl ?_;simp only [go_sem,lL,true_or,if_true,true_and]
 have hl0:0<l.length:=CT.2 h1;have e1:((l.length:Int)==0)=false:=by simpa using h1
 by_cases h2:g.L=[]
 ·have e2:((g.I.length:Int)==0)=true:=by rw [hI,h2];rfl
  have e3:((g.L.length:Int)==0)=true:=by rw [h2];rfl
  simp only [go_sem,aL,e1,e2,e3,undef];refine aB (aA _) rfl (P2 g hg) rfl ?_;simp only [go_sem,lL,h2,or_true,if_true]
  first | exact .inl trivial | exact .inl (.inr trivial) | skip
 have hL0:0<g.L.length:=CT.2 h2;have e2:((g.I.length:Int)==0)=false:=by rw [hI];simpa using h2
 have e3:((g.L.length:Int)==0)=false:=by simpa using h2
 have ec:lL g l=Iv g (Ev g.I l):=by unfold lL;rw [if_neg (by simp [h1,h2])]
 rw [ec];have hn:=hg.n;simp only [go_sem,aL,e1,e2,e3,undef];refine eF (λs=>s=⟨0,[(2,.ptr 0 0),(5,.own 1)],[some (.box g.A),some (.arr 3 ((Ev g.I l).map Id.A))]⟩) ?_ ?_
 ·refine aO (min l.length 4) (λi=>⟨0,[(1,AM l),(2,.ptr 0 0),(5,.own 1),(6,iv i)],[some (.box g.A),some (.arr 3 ((Ev g.I (l.take i)).map Id.A))]⟩) (λ_=>True) ?_ trivial ?_ ?_
  ·simp only [go_sem,Ev,List.take_nil,mL,eQ]
  ·intro i hi2 _;have hil:i<l.length:=by omega
   have hi4:i<4:=by omega
   have ws:=aG (show i<9223372036854775807 by omega);have g0:(l.map λn=>[iv n])[i]?=some [iv l[i]]:=aP _ l i hil;have hin:=hi l[i] (jY hil);have d4:decide ((i:Int)<4)=true:=decide_eq_true (by omega);have hlen:=MX g.I (l.take i);rw [aAZ g.I l i hil hi4];generalize l[i]=x at *
   generalize Ev g.I (l.take i)=O at *
   have ha:=F4 x g.I.length (by omega);have gI:(g.I.map Id.A)[(nM x g.I.length).toNat]?=some (g.I.getD (nM x g.I.length).toNat default).A:=by rw [eD,fG,fV (by omega)];rfl
   have hk:(nM x g.I.length).toNat<g.I.length:=by omega
   have hxk:((nM x g.I.length).toNat:Int)=nM x g.I.length:=by omega
   simp only [go_sem,aL,aT hil,d4,hil,g0,undef];refine aB (aA _) rfl (B7 x g.I.length hin.1 hin.2 (by omega) (by omega)) rfl ?_;rw [←hxk];generalize (nM x g.I.length).toNat=k at *
   obtain ⟨y,hy⟩:∃ y,y=g.I.getD k default:=⟨_,rfl⟩
   rw [←hy] at gI;simp only [go_sem,aL,hk,gI,g0,gQ,cN,eQ,ws,show O.length+1≤maxLen by unfold maxLen;omega,show (O.length+1)*24≤140737488355328 by omega];rw [hy]
  ·intro _;rcases bY 4 l.length with h4 | h4
   ·have e4:min l.length 4=4:=by omega
    have et:Ev g.I (l.take 4)=Ev g.I l:=by unfold Ev;rw [Qp];rfl
    rw [e4,et];simp only [go_sem,aL,show decide ((4:Int)<(l.length:Int))=true from decide_eq_true (by omega),show decide (((4:Nat):Int)<4)=false from rfl,undef]
   ·have e4:min l.length 4=l.length:=by omega
    rw [e4,kH];simp only [go_sem,aL,aX (cZ _),undef]
 rintro s rfl;have hlen:=MX g.I l;simp only [go_sem];refine bS (aA _) rfl rfl (aF3 g (Ev g.I l) hg (by omega)) ?_;rintro r T' ⟨rfl,rfl⟩;refine ⟨by simp only [eY],by simp only [gZ,forall_eq,tQ];exact J7 _,?_⟩;simp only [go_sem];exact .inr trivial
def aB0 (g:GM) (hg:g.ok) (l:List Int) (hl:l.length≤9223372036854775807) (hi:∀ n∈l,tK n):aC PQ G oY [.ag g.A,AM l] [] λr T=>r=ids (lL g l)∧T=[]:=by
 refine (OS g hg l hl hi).fin [0] ?_;rintro r T' (⟨rfl,rfl,_⟩ | ⟨rfl,rfl⟩)
 ·simp only [go_sem,kI,List.getElem?_nil]
 ·simp only [go_sem,kI]
def YB (g:GM) (hg:g.ok) (l:List Int) (hl:l.length≤9223372036854775807) (hi:∀ n∈l,tK n) (h1:l≠[]) (h2:g.L≠[]):aC PQ G oY [.ag g.A,AM l] [] λr T=>r=.own 0∧T=[some (.arr 3 ((lL g l).map Id.A))]:=by
 refine (OS g hg l hl hi).mono ?_;rintro r T' (⟨_,_,h | h⟩ | h)
 ·exact absurd h h1
 ·exact absurd h h2
 ·exact h
end
end
section
def MY (d m:Nat):CardM:=⟨d,m,((37:Fq)^Jb aAw d).val,((37:Fq)^Jb aAx d).val,((37:Fq)^Jb Iu d).val⟩
def IM (lab:List Nat) (d:Nat):Jb lab d<18446744073709551616:=OJ _ _
def yL (ow:List Nat):List CardM:=ow.mapIdx λi m=>MY (i+1) m
def UU (ow:List Nat) (i:Nat) (h:i<ow.length):yL (ow.take (i+1))=yL (ow.take i)++[MY (i+1) ow[i]]:=by
 rw [←Yd h];simp only [yL,List.mapIdx_append,List.mapIdx_cons,List.mapIdx_nil,hZ,rW];rw [show min i ow.length=i by omega]
def F5 (ow:List Nat):(yL ow).length=ow.length:=by simp [yL]
def aCX {o:OpM} (h:o.ok) (a b:Nat) (ha:a<18446744073709551616) (hb:b<18446744073709551616):OpM.ok { o with SR:=a,SS:=b }:=by
 refine ⟨h.ints,?_,h.epoch,h.of,h.past,h.path,h.body,h.refs,h.guards,h.boxes,h.hist⟩;intro n hn;simp only [gK,pQ,or_false] at hn;rcases hn with rfl | rfl | rfl
 ·exact h.nums _ (by simp)
 ·exact ha
 ·exact hb
def aB1 (s:Nat) (b:List Nat):aAy s b<18446744073709551616:=IX (Aj _ (by decide)) (by decide:mH<18446744073709551616)
def rA {o:OpM} (h:o.ok):(pK o).ok:=by
 unfold pK;exact aCX h _ _ (BO _) (aB1 _ _)
def aB2 (ow:List Nat) (hl:ow.length≤1000) (h0:ow≠[]) (hm:∀ m∈ow,m≤1000):cardsOk (yL ow):=by
 have key:∀ c∈yL ow,∃ i,∃ h:i<ow.length,c=MY (i+1) ow[i]:=by
  intro c hc;obtain ⟨i,h,rfl⟩:=List.mem_mapIdx.1 hc;exact ⟨i,h,rfl⟩
 refine ⟨by rw [F5];exact hl,?_,?_,?_,?_⟩
 ·intro e;have:=F5 ow;rw [e] at this;exact h0 (CR this.symm)
 ·intro c hc;obtain ⟨i,h,rfl⟩:=key c hc;have:=hm _ (jY h);refine ⟨⟨?_,?_⟩,⟨?_,?_⟩,?_,?_,?_⟩<;>simp only [MY]
  ·omega
  ·omega
  ·omega
  ·omega
  ·exact BO _
  ·exact BO _
  ·exact BO _
 ·intro c hc;obtain ⟨i,h,rfl⟩:=key c hc;simp only [MY];omega
 ·intro c hc d hd e;obtain ⟨i,h,rfl⟩:=key c hc;obtain ⟨k,h2,rfl⟩:=key d hd;simp only [MY] at e;obtain rfl:i=k:=by omega
  rfl
section
variable {G:Nat→Option (List AV)}
set_option maxHeartbeats 4000000
def aB3 (ow:List Nat) (hl:ow.length≤1000):aC PQ G C2 [OA ow] [] λr T=>r=.own 0∧T=[some (.arr 5 ((yL ow).map CardM.A))]:=by
 refine aF LI (by decide) ?_;simp only [go_sem];refine aO ow.length (λi=>⟨0,[(0,OA ow),(3,.own 0),(4,iv i)],[some (.arr 5 ((yL (ow.take i)).map CardM.A))]⟩) (λ_=>True) ?_ trivial ?_ ?_
 ·simp only [go_sem];rfl
 ·intro i hi _;have hd:decide (((i:Nat):Int)<(ow.length:Int))=true:=decide_eq_true (by omega);have ws:=aG (show i<9223372036854775807 by omega);have g0:(ow.map λn:Nat=>[iv (n:Int)])[i]?=some [iv (ow[i]:Int)]:=by simp [hi]
  have hlen:(yL (ow.take i)).length=i:=by rw [F5];simp;omega
  have e1:=UU ow i hi;have s1:=wQ (G:=G) (bs [108,101,97,100]) aAw (i+1) (by rfl) (by rfl) (yE (by decide)) (by decide) (by omega);have s2:=wQ (G:=G) (bs [107,101,101,112]) aAx (i+1) (by rfl) (by rfl) (yE (by decide)) (by decide) (by omega);have s3:=wQ (G:=G) (bs [115,105,103,110]) Iu (i+1) (by rfl) (by rfl) (yE (by decide)) (by decide) (by omega);have p1:=ES (G:=G) (Jb aAw (i+1)) (IM _ _);have p2:=ES (G:=G) (Jb aAx (i+1)) (IM _ _);have p3:=ES (G:=G) (Jb Iu (i+1)) (IM _ _);simp only [go_sem,aL,hd,g0,hi,ws];refine aB (aA _) rfl s1 rfl ?_;simp only [go_sem,g0];refine aB (aA _) rfl p1 rfl ?_;simp only [go_sem,g0];refine aB (aA _) rfl s2 rfl ?_;simp only [go_sem,g0];refine aB (aA _) rfl p2 rfl ?_;simp only [go_sem,g0];refine aB (aA _) rfl s3 rfl ?_;simp only [go_sem,g0];refine aB (aA _) rfl p3 rfl ?_;simp only [go_sem,aL,hlen,e1,gQ,cN,eQ,show i+1≤maxLen by unfold maxLen;omega,show (i+1)*40≤140737488355328 by omega];refine ⟨by simp only [g0],?_⟩;rw [ws];simp only [CardM.A_def,MY,fu]
 ·intro _;have hd:decide (((ow.length:Nat):Int)<(ow.length:Int))=false:=decide_eq_false (by omega);simp only [go_sem,aL,hd,kH]
end
end
section
open W
def gU:cF sH [(49,none,1000),(86,none,1000)]=some ⟨89,[(4,some (some 27))],S [R 2 0 [0] [b t0,J 4 (al zO)],R0 7 8 [q3 zI (ad w1 (rm v1 w3)) w1 (cw .u64 (rm (qu v1 w3) w3)),J 5 (s 3 (al zI) (t 14))],R0 15 6 [l (i 1 (x (.bsl 1 [z0,z0,z0,z0,z0,z0,z0,z0] [(0,(1,zw 8)),(1,(1,zw 2)),(2,(1,zw 3)),(3,(1,zw 4)),(4,(1,zw 2)),(5,(1,zw 6)),(6,(1,zw 7)),(7,(1,zw 13))] 8)) (rm v1 (w 8))),s 1 (f 2 t2) (t 19)],S [R0 21 1 [l (f 2 t2)],bw 0 (S [R0 24 1 [eq (t 22) w2,J 23 v24],Ie 23 [22,5] (S [R0 25 5 [ad w1 (rm (qu v1 (w 8)) (w 5)),s 1 (f 5 t2) (t 28)],R0 30 5 [ad w1 (rm (qu v1 (w 40)) w3),s 1 (f 8 t2) (t 33)]]) [] (S [R0 36 1 [eq (t 22) w3,J 35 v36],Ie 35 [22,5] (R0 37 5 [ad w1 (rm (qu v1 (w 8)) (w 5)),s 1 (f 5 t2) (t 40)]) [] (S [R0 43 1 [eq (t 22) (w 6),J 42 (v 43)],Ie 42 [22] (S [R 44 2 [5] [L 3 t5,s 3 (f 10 t2) (t 44)],S [S [E 47 [A 46 t1,ba 1 [.int .u8 0] (cw .u8 (qu (t 46) (w 8)))],.shut 49],E 50 [s 1 (f 14 t2) (t 49)]],.kill [50,49,48,47,46]]) [] (S [R0 52 1 [eq (t 22) (w 7),J 51 (v 52)],Ie 51 [22] (S [R 53 2 [5] [L 3 t5,s 3 (f 16 t2) (t 53)],R0 55 3 [ba 1 [.int .u8 0] (kc (.const (.int .u8 43))),x (.b2b (zt 55)),s 1 (f 14 t2) (t 56)]]) [] (S [R0 59 1 [eq (t 22) (w 13),J 58 (v 59)],Ie 58 [22] (S [R 60 2 [5] [L 3 t5,s 3 (f 16 t2) (t 60)],R0 62 5 [ad w1 (rm (qu v1 (w 8)) (w 5)),s 1 (f 5 t2) (t 65)],R0 67 5 [ad w1 (rm (qu v1 (w 40)) (w 5)),s 1 (f 6 t2) (t 70)]]) [] (S [R 73 1 [22] [eq (t 22) (w 8),J 72 (v 73)],Iz 72 [] (R 74 2 [5] [L 3 t5,s 3 (f 16 t2) (t 74)]) [5]])])])])])])],R0 76 3 [A 6 (c1 wI (l (f 2 t2)))],S [R 0 0 [6] [A 79 t6],Iz 79 [] (S [S [S [E 81 [A 80 t1,ba 2 zB (q1 zB (cw .u64 (ad w1 (rm (qu (t 80) (w 8)) (w 90)))))],.shut 86],E 87 [s 1 (f 9 t2) (t 86)]],.kill [1,87,86,85,84,83,82,81,80]]) [1]],R 88 1 [2] [s 27 t4 (L 27 t2)],.ret]⟩:=by kernel_rfl
def MZ:cF Fg [(5,none,1),(9,none,0),(57,none,1000)]=some ⟨98,[(4,some (some 27))],S [R 2 0 [0] [b t0,J 4 (al zO)],S [iz 5,ow 5 1],S [i0 6,fo 0 10 1 (ls v6 (w 4)) [1,6] 6 (S [i0 7,S [R0 14 3 [ls v6 (n v1)],If 17 [7] (R0 18 5 [A 7 (c2 sE (l (i 1 v1 v6)) (w 1000000))])],R 23 4 [7] [A 5 (a 1 8 v5 (ba 1 [z0] v7))],ow 5 1])],S [.regd (zq (zm 27 5) (zq (zo 28 (.iad (zt 27) (zw 0) 1)) (zq (zl 29 28) (zq (zf 30 2 0) (zq (zl 31 30) (zq (zo 32 (.lenL (zt 31))) (zq (zo 33 (.bin .rem (zt 29) (zt 32))) (zq (zo 34 (.bin .add (zw 1) (zt 33))) (zq (zo 35 (.bld zO [(0,(1,zt 34))])) (zq (zm 36 5) (zq (zo 37 (.iad (zt 36) (zw 3) 1)) (zq (zl 38 37) (zA (zo 39 (.call (.func sH) [zt 35,zt 38])) [] (zA (zo 8 (.alloc zO)) [] (zA (⟨none,.st 27 (zt 8) (zt 39),none⟩) [] (.done true) .no) .no) (zA (zo 8 (.alloc zO)) [zl 38 37,zo 37 (.iad (zt 36) (zw 3) 1),zm 36 5,zo 35 (.bld zO [(0,(1,zt 34))]),zo 34 (.bin .add (zw 1) (zt 33)),zo 33 (.bin .rem (zt 29) (zt 32)),zo 32 (.lenL (zt 31)),zl 31 30,zf 30 2 0,zl 29 28,zo 28 (.iad (zt 27) (zw 0) 1),zm 27 5] (zA (zo 39 (.call (.func sH) [zt 35,zt 38])) [] (zA (⟨none,.st 27 (zt 8) (zt 39),none⟩) [] (.done true) .no) .no) .no)))))))))))))),.kill [39,38,37,36,35,34,33,32,31,30,29,28,27]],S [R0 40 3 [eq (n (l (f 1 t2))) w0],If 43 [2] (S [D 44 13 [5] [l (f 0 t8),rm (l (i 1 v5 w2)) (w 5),rm (l (i 1 v5 w3)) (w 5),K [zo 53 (.bin .rem (zt 52) (zw 5)),zl 52 51,zo 51 (.iad (zt 50) (zw 3) 1),zm 50 5,zo 49 (.bin .rem (zt 48) (zw 5)),zl 48 47,zo 47 (.iad (zt 46) (zw 2) 1),zm 46 5,zl 45 44,zf 44 8 0] (ba 2 zB (q1 zB (u 5))),s 27 t8 (x (.bld zO [(0,(1,zt 45)),(2,(1,zw 1)),(1,(1,zw 1)),(3,(1,zt 49)),(20,(1,zt 53)),(9,(1,zt 55))]))],S [S [S [E 57 [L 27 t8],.shut 57],E 58 [s 27 t4 (c1 pA (t 57))]],.kill [8,58,57]],.ret])],S [R0 59 2 [A 9 (c1 EI (L 5 t2))],.shut 9],S [R0 61 4 [eq (rm (l (i 1 v5 w1)) w3) w1],If 65 [9] (S [D 66 11 [] [A 9 (c2 oY (L 5 t2) (K [zv 66 5 2] (j2 [z0,z0] (qu (l (i 1 v5 w1)) w3) (qu (l (i 1 v5 w1)) (w 100)))))],.shut 9])],R0 77 4 [c2 yX (L 5 t2) v9,s 1 (f 4 t8) (t 79)],R0 81 6 [c3 Hp (L 5 t2) v9 (l (f 0 t8)),s 1 (f 1 t8) (t 85)],D 87 9 [2,9,5] [L 5 t2,v9,J 90 (rm (l (i 1 v5 w2)) w3),J 89 (K [zo 93 (.bin .rem (zt 92) (zw 3)),zl 92 91,zo 91 (.iad (zt 90) (zw 2) 1),zm 90 5] (c2 Fi (t 87) (t 88))),J 94 (ad (t 89) (t 93)),s 1 (f 3 t8) (t 94)],R 96 2 [8] [s 27 t4 (c1 pA (L 27 t8))],.ret]⟩:=by kernel_rfl
def Ma:cF Fe [(11,none,1000)]=some ⟨108,[(2,some (some 5))],S [E 2 [al zS5],S [S [S [E 10 [c1 C2 (j4 [z0,z0,z0,z0] w1 w2 w3 w1)],.shut 11],E 12 [c1 Ho (t 11),J 3 (s 5 (al zS5) (t 12))]],.kill [12,11,10]],S [i0 4,fo 0 13 12 (N (ls v4 (w 14)) (O (eq v4 w0) (ls (mu (w 4) v4) (n v0)))) [0,4] 4 (S [R0 28 7 [v0,mm false (n v0) (mu (w 4) v4),A 5 (x (.slc (zt 28) (some (zt 33)) none 1))],R0 35 3 [c2 Fg (L 5 t3) v5,J 6 (s 27 (al zO) (t 37))],i0 7,S [R0 38 2 [gt (n v5) w3],Iz 40 [7] (R 41 4 [5] [A 7 (c2 sE (l (i 1 v5 w3)) (w 1000000))]) [5]],S [R0 45 7 [N (ne (l (f 2 t6)) w1) (eq (rm v7 w3) w1)],If 52 [] (R0 53 18 [l (f 0 t6),l (f 1 t6),l (f 3 t6),l (f 4 t6),ad w1 (rm (qu v7 w3) (w 5)),ad w1 (rm (qu v7 (w 15)) w3),s 27 t6 (c1 pA (x (.bld zO [(0,(1,zt 54)),(1,(1,zt 56)),(3,(1,zt 58)),(4,(1,zt 60)),(2,(1,zw 2)),(5,(1,zt 64)),(8,(1,zt 68))])))])],S [R0 71 7 [N (ne (l (f 2 t6)) w1) (eq (rm v7 (w 6)) w2)],Iz 78 [] (R 79 19 [7] [l (f 0 t6),l (f 1 t6),l (f 3 t6),l (f 4 t6),ad w1 (rm (qu v7 (w 6)) (w 5)),ad w1 (rm (qu v7 (w 30)) (w 4)),q2 zI w1 w1,s 27 t6 (c1 pA (x (.bld zO [(0,(1,zt 80)),(1,(1,zt 82)),(3,(1,zt 84)),(4,(1,zt 86)),(2,(1,zw 13)),(5,(1,zt 90)),(6,(1,zt 94)),(16,(3,zt 95))])))]) [7]],R 99 3 [6,103,102,98] [c2 EH (L 5 t3) (L 27 t6),J 98 (v 101),J 102 (e 0 (t 98)),e 1 (t 98),J 8 (s 5 (al zS5) (t 102)),A 9 (t 103)],R 104 1 [9] [eq v9 w0],Iz 105 [] (R 106 1 [8] [s 5 t3 (L 5 t8)]) [8]])],R 107 1 [3] [s 5 t2 (L 5 t3)],.ret]⟩:=by kernel_rfl
end
section
structure EvT where
 fn:Nat→Option HFun
 pr:Nat→List AV→aQ→Option (AV×aQ)
inductive ER where
 | bad
 | ok (e:Ex) (st:St)
def Dz:Value→Value→Bool
 | .int k a,.int k' b=>k==k'&&a==b
 | .bool a,.bool b=>a==b
 | .slice none a b,.slice none c d=>Nat.beq a c&&Nat.beq b d
 | .pointer none,.pointer none=>true
 | _,_=>false
mutual
def Cd:AV→AV→Bool
 | .v x,.v y=>Dz x y
 | .ls k l,.ls k' m=>Nat.beq k k'&&UV l m
 | .ag l,.ag m=>NT l m
 | .tup l,.tup m=>NT l m
 | .rp l,.rp m=>NT l m
 | .own i,.own j=>Nat.beq i j
 | .mp i,.mp j=>Nat.beq i j
 | .ptr i a,.ptr j b=>Nat.beq i j&&Nat.beq a b
 | .elt i a b c,.elt j d e f=>Nat.beq i j&&(Nat.beq a d&&(Nat.beq b e&&Nat.beq c f))
 | .vw i a b c,.vw j d e f=>Nat.beq i j&&(Nat.beq a d&&(Nat.beq b e&&Nat.beq c f))
 | _,_=>false
def NT:List AV→List AV→Bool
 | [],[]=>true
 | x::l,y::m=>Cd x y&&NT l m
 | _,_=>false
def UV:List (List AV)→List (List AV)→Bool
 | [],[]=>true
 | x::l,y::m=>NT x y&&UV l m
 | _,_=>false
end
def aFb:Option AObj→Option AObj→Bool
 | none,none=>true
 | some (.box l),some (.box m)=>NT l m
 | some (.arr k l),some (.arr k' m)=>Nat.beq k k'&&UV l m
 | some (.arf k l),some (.arf k' m)=>Nat.beq k k'&&UV l m
 | _,_=>false
def OT:aQ→aQ→Bool
 | [],[]=>true
 | x::l,y::m=>aFb x y&&OT l m
 | _,_=>false
def YC:List (Nat×AV)→List (Nat×AV)→Bool
 | [],[]=>true
 | x::l,y::m=>Nat.beq x.1 y.1&&(Cd x.2 y.2&&YC l m)
 | _,_=>false
def aB4 (a b:St):Bool:=Nat.beq a.r b.r&&(YC a.s b.s&&OT a.T b.T)
def UW:List (Nat×AV)→Nat→AV
 | [],_=>.any
 | p::r,j=>match Nat.beq p.1 j with | true=>p.2 | false=>UW r j
def aB5:List (Nat×AV)→Nat→List (Nat×AV)
 | [],_=>[]
 | p::r,j=>match Nat.beq p.1 j with | true=>aB5 r j | false=>p::aB5 r j
def HJ (l:List (Nat×AV)) (d:Option Nat) (x:AV):List (Nat×AV):=match d with | some j=>(j,x)::aB5 l j | none=>l
def aCY (i:Nat):List Nat→Bool
 | []=>false
 | j::r=>match Nat.beq i j with | true=>true | false=>aCY i r
def SX (d:List Nat):List (Nat×AV)→List (Nat×AV)
 | []=>[]
 | p::r=>match aCY p.1 d with | true=>SX d r | false=>p::SX d r
def aB6 {i j:Nat} (h:i≠j):Nat.beq i j=false:=by
 cases e:Nat.beq i j with
 | false=>rfl
 | true=>exact absurd (KP e) h
def tF:∀ (l:List (Nat×AV)) (j:Nat),UW l j=aU l j
 | [],_=>rfl
 | (i,x)::r,j=>by
  simp only [UW,aU];by_cases h:i=j
  ·subst h;rw [FR];simp
  ·rw [if_neg h,aB6 h];exact tF r j
def QF:∀ (l:List (Nat×AV)) (j:Nat),aB5 l j=GL l j
 | [],_=>rfl
 | (i,x)::r,j=>by
  simp only [aB5,GL];by_cases h:i=j
  ·subst h;rw [FR,if_pos rfl];exact QF r i
  ·rw [if_neg h,aB6 h];simp only [QF r j]
def AB (l:List (Nat×AV)) (d:Option Nat) (x:AV):HJ l d x=dT l d x:=by
 cases d with
 | none=>rfl
 | some j=>simp only [HJ,dT,Cm,QF]
def WM (i:Nat):∀ d:List Nat,aCY i d=d.contains i
 | []=>rfl
 | j::r=>by
  simp only [aCY,Yz];by_cases h:i=j
  ·subst h;rw [FR];simp
  ·rw [aB6 h,WM i r];simp [h]
def tG (d:List Nat):∀ l:List (Nat×AV),SX d l=kK d l
 | []=>rfl
 | (i,x)::r=>by
  simp only [SX,kK,WM,tG d r];cases d.contains i<;>simp
def Jd (G:Nat→Option (List AV)) (s:List (Nat×AV)):Operand→AV
 | .tmp t=>UW s t
 | .const x=>.v x
 | .global g=>match G g with | some cs=>.rp cs | none=>.any
 | .func f=>.cl f []
def AC (G:Nat→Option (List AV)) (s:List (Nat×AV)):Jd G s=bX G s:=by
 funext x
 cases x with
 | tmp t=>simp [Jd,bX,tF]
 | const c=>rfl
 | global g=>simp only [Jd,bX];cases G g<;>rfl
 | func f=>rfl
def F6 (s:List (Nat×AV)):Option (Nat×Bool)→Option Bool
 | none=>some true
 | some (j,b)=>match UW s j with
  | .v (.bool t)=>some (t==b)
  | .v (.tuple _)=>some false
  | _=>none
def rO (s:List (Nat×AV)) (g:Option (Nat×Bool)):F6 s g=eC s g:=by
 cases g with
 | none=>rfl
 | some p=>obtain ⟨j,b⟩:=p;simp only [F6,eC,tF];cases aU s j with
  | v x=>cases x<;>rfl
  | _=>rfl
def aGK:HD→Bool
 | .no=>true
 | _=>false
def aB7 (r1:Option St) (n:Bool) (r2:Option St):Option St:=match n with
 | true=>r1
 | false=>match r1,r2 with
  | some s1,some s2=>if aB4 s1 s2 then some s1 else none
  | _,_=>none
section
variable (G:Nat→Option (List AV)) (tb:EvT)
def SY (h:HFun):ER→Option (AV×aQ)
 | .ok .normal st=>match Hj st h.res with
  | some l=>let r:=FZ l;let L:=tN st.T (List.range st.r++iB r);some (F9 L r,Ef L st.T)
  | none=>none
 | .ok .ret st=>match Hj st h.res with
  | some l=>let r:=FZ l;let L:=tN st.T (List.range st.r++iB r);some (F9 L r,Ef L st.T)
  | none=>none
 | _=>none
def evB (ev:HC→St→ER) (f:Nat) (args:List AV) (T:aQ):Option (AV×aQ) :=
 match tb.pr f args T with
 | some x=>some x
 | none=>match tb.fn f with
  | some h=>SY h (ev h.code ⟨T.length,nP 0 args,T⟩)
  | none=>none
def QG (ev:HC→St→ER) (f:Nat) (args:List AV) (T:aQ):Option (AV×aQ) :=
 match iI args with
 | []=>match evB tb ev f args [] with
  | some (r,T')=>some (Ae [] T.length r,T++T'.map (HL [] T.length))
  | none=>none
 | ids=>let L:=(tN T ids).filter (· < T.length)
  match evB tb ev f (Al L args) (Ef L T) with
  | some (r,T')=>some (Ae L T.length r,Ic L T.length T L T')
  | none=>none
def aB8 (ev:HC→St→ER) (st:St):HOp→Option (AV×aQ)
 | .call f args=>match Jd G st.s f with
  | .cl g caps=>QG tb ev g (args.map (Jd G st.s)++caps) st.T
  | .bm g k cs=>QG tb ev g (cs.take k++args.map (Jd G st.s)++cs.drop k) st.T
  | _=>none
 | .nxt _=>none
 | .nilS neg kd x=>if Oj kd (Jd G st.s x) then none else bK st.T (Jd G st.s) (.nilS neg kd x)
 | o=>bK st.T (Jd G st.s) o
def OU (ev:HC→St→ER):List HOper→St→Option St
 | [],st=>some st
 | o::os,st=>match F6 st.s o.guard with
  | some true=>match aB8 G tb ev st o.op with
   | some (x,T)=>OU ev os ⟨st.r,HJ st.s o.dst x,T⟩
   | none=>none
  | some false=>OU ev os ⟨st.r,HJ st.s o.dst (.v undef),st.T⟩
  | none=>none
def Mb (st:St):List HOper→Bool
 | []=>true
 | o::os=>(match F6 st.s o.guard,o.dst with
  | some true,some d=>match bK st.T (Jd G st.s) o.op with
   | some (x,_)=>Cd (UW st.s d) x
   | none=>false
  | some false,some d=>(match UW st.s d with | .v (.tuple a)=>a.size==0 | _=>false)
  | _,_=>false)&&Mb st os
def F7 (ev:HC→St→ER):HD→St→Option St
 | .done b,st=>some (if b then yR [] st else st)
 | .q o next,st=>match F6 st.s o.guard with
  | some true=>match bK st.T (Jd G st.s) o.op with
   | some (x,_)=>F7 ev next ⟨st.r,HJ st.s o.dst x,st.T⟩
   | none=>none
  | some false=>F7 ev next ⟨st.r,HJ st.s o.dst (.v undef),st.T⟩
  | none=>none
 | .alt o chk next other,st=>aB7 (match F6 st.s o.guard with
  | some true=>match aB8 G tb ev st o.op with
   | some (x,T)=>if Mb G ⟨st.r,HJ st.s o.dst x,T⟩ chk then F7 ev next ⟨st.r,HJ st.s o.dst x,T⟩ else none
   | none=>none
  | some false=>if Mb G ⟨st.r,HJ st.s o.dst (.v undef),st.T⟩ chk then F7 ev next ⟨st.r,HJ st.s o.dst (.v undef),st.T⟩ else none
  | none=>none) (aGK other) (F7 ev other st)
 | _,_=>none
def OV:Nat→HC→St→ER
 | 0,_,_=>.bad
 | n+1,hc,st=>match hc with
  | .skip=>.ok .normal st
  | .reg ops=>match OU G tb (OV n) ops st with
   | some s=>.ok .normal s
   | none=>.bad
  | .regd d=>match F7 G tb (OV n) d st with
   | some s=>.ok .normal s
   | none=>.bad
  | .seq a b=>match OV n a st with
   | .ok .normal s=>OV n b s
   | r=>r
  | .cond c a b=>match Jd G st.s c with
   | .v (.bool true)=>OV n a st
   | .v (.bool false)=>OV n b st
   | _=>.bad
  | .block id a=>match OV n a st with
   | .ok (.exit j) s=>if j=id then .ok .normal s else .ok (.exit j) s
   | r=>r
  | .loop d a=>match OV n a st with
   | .ok .normal s=>OV n (.loop d a) (yR d s)
   | r=>r
  | .exit id=>.ok (.exit id) st
  | .ret=>.ok .ret st
  | .kill d=>.ok .normal ⟨st.r,SX d st.s,st.T⟩
  | .own j c k=>.ok .normal (Ka st j c k)
  | .shut j=>.ok .normal (yR [] (Kb st j))
  | .rng _ _ _ _ _=>.bad
def QH (n:Nat) (f:Nat) (args:List AV) (T:aQ):Option (AV×aQ):=evB tb (OV G tb n) f args T
end
structure EvT.Ok (P:Program) (G:Nat→Option (List AV)) (tb:EvT):Prop where
 fn:∀ f h,tb.fn f=some h→∃ H,sA P f H=some h
 pr:∀ f args T r T',tb.pr f args T=some (r,T')→aC P G f args T λr' T''=>r'=r∧T''=T'
section
variable {P:Program} {G:Nat→Option (List AV)} {tb:EvT}
def QI (P:Program) (G:Nat→Option (List AV)) (ev:HC→St→ER):Prop:=∀ hc st e st',ev hc st=.ok e st'→∀ Q:Ex→St→Prop,Q e st'→dS P G hc Q st
def UX (ht:tb.Ok P G) {ev:HC→St→ER} (he:QI P G ev) {f:Nat} {args:List AV} {T:aQ} {r:AV} {T':aQ} (h:evB tb ev f args T=some (r,T')):aC P G f args T λr' T''=>r'=r∧T''=T':=by
 unfold evB at h;split at h
 ·rename_i x hx;injection h with h;subst h;exact ht.pr _ _ _ _ _ hx
 ·split at h
  ·rename_i hf hh;obtain ⟨H,hc⟩:=ht.fn _ _ hh;refine Vm hc trivial ?_;unfold aEb
   cases hev:ev hf.code ⟨T.length,nP 0 args,T⟩ with
   | bad=>rw [hev] at h;simp [SY] at h
   | ok e st =>
    rw [hev] at h;refine he _ _ _ _ hev _ ?_
    cases e with
    | normal =>
     simp only [SY] at h;simp only [Vl,RS]
     cases hr:Hj st hf.res with
     | none=>rw [hr] at h;simp at h
     | some l=>rw [hr] at h;simp only [Option.some.injEq,Prod.mk.injEq] at h;exact .inl ⟨h.1,h.2⟩
    | ret =>
     simp only [SY] at h;simp only [Vl,RS]
     cases hr:Hj st hf.res with
     | none=>rw [hr] at h;simp at h
     | some l=>rw [hr] at h;simp only [Option.some.injEq,Prod.mk.injEq] at h;exact .inl ⟨h.1,h.2⟩
    | exit i=>simp [SY] at h
  ·simp at h
def OW (ht:tb.Ok P G) {ev:HC→St→ER} (he:QI P G ev) {f:Nat} {args:List AV} {T:aQ} {r:AV} {T':aQ} {K:AV→aQ→Prop} (h:QG tb ev f args T=some (r,T')) (hk:K r T'):GO P G f args T K:=by
 unfold QG at h;split at h
 ·rename_i hi;split at h
  ·rename_i r0 T0 h0;simp only [Option.some.injEq,Prod.mk.injEq] at h;exact lM (K:=K) (aA args) hi (UX ht he h0) λr1 T1 ⟨e1,e2⟩=>by rw [e1,e2,h.1,h.2];exact hk
  ·simp at h
 ·simp only at h;split at h
  ·rename_i r0 T0 h0;simp only [Option.some.injEq,Prod.mk.injEq] at h;exact aCa (K:=K) (aA args) rfl rfl rfl (UX ht he h0) λr1 T1 ⟨e1,e2⟩=>by rw [e1,e2,h.1,h.2];exact hk
  ·simp at h
def WN (ht:tb.Ok P G) {ev:HC→St→ER} (he:QI P G ev) {st:St} {o:HOp} {r:AV} {T':aQ} {K:AV→aQ→Prop} (h:aB8 G tb ev st o=some (r,T')) (hk:K r T'):tI P G st o K:=by
 unfold aB8 at h;simp only [AC,AB,rO,tG,tF] at h;split at h
 ·rename_i f args;simp only [tI];split at h
  ·rename_i g caps e;simp only [e];exact OW ht he h hk
  ·rename_i g k cs e;simp only [e];exact OW ht he h hk
  ·simp at h
 ·simp at h
 ·simp only [tI];split at h
  ·simp at h
  ·rename_i hn;rw [if_neg hn,h];exact hk
 ·rename_i h1 h2 h3;unfold tI;split
  ·exact absurd rfl (h1 _ _)
  ·exact absurd rfl (h2 _)
  ·exact absurd rfl (h3 _ _ _)
  ·rw [h];exact hk
def Mc (ht:tb.Ok P G) {ev:HC→St→ER} (he:QI P G ev) {K:St→Prop}:∀ {os:List HOper} {st s:St},OU G tb ev os st=some s→K s→HV P G os st K
 | [],st,s,h,hk=>by simp only [OU,Option.some.injEq] at h;subst h;exact hk
 | o::os,st,s,h,hk=>by
  simp only [OU,AC,AB,rO,tG,tF] at h;simp only [HV];split at h
  ·rename_i hw;simp only [hw];split at h
   ·rename_i x T hx;exact WN ht he hx (Mc ht he h hk)
   ·simp at h
  ·rename_i hw;simp only [hw];exact Mc ht he h hk
  ·simp at h
def J9 {x y:Value} (h:Dz x y=true):x=y:=by
 unfold Dz at h;split at h<;>simp_all
mutual
def QJ:∀ (x y:AV),Cd x y=true→x=y
 | .v x,y,h=>by
  cases y<;>simp only [Cd,jZ] at h;rw [J9 h]
 | .ls k l,y,h=>by
  cases y<;>simp only [Cd,jZ,eM,Cl] at h;rw [h.1,KA l _ h.2]
 | .ag l,y,h=>by
  cases y<;>simp only [Cd,jZ] at h;rw [CI l _ h]
 | .tup l,y,h=>by
  cases y<;>simp only [Cd,jZ] at h;rw [CI l _ h]
 | .rp l,y,h=>by
  cases y<;>simp only [Cd,jZ] at h;rw [CI l _ h]
 | .own i,y,h=>by
  cases y<;>simp only [Cd,jZ,Cl] at h;rw [h]
 | .mp i,y,h=>by
  cases y<;>simp only [Cd,jZ,Cl] at h;rw [h]
 | .ptr i a,y,h=>by
  cases y<;>simp only [Cd,jZ,eM,Cl] at h;rw [h.1,h.2]
 | .elt i a b c,y,h=>by
  cases y<;>simp only [Cd,jZ,eM,Cl] at h;rw [h.1,h.2.1,h.2.2.1,h.2.2.2]
 | .vw i a b c,y,h=>by
  cases y<;>simp only [Cd,jZ,eM,Cl] at h;rw [h.1,h.2.1,h.2.2.1,h.2.2.2]
 | .yl i,y,h=>by cases y<;>simp only [Cd,jZ] at h
 | .bm f k cs,y,h=>by cases y<;>simp only [Cd,jZ] at h
 | .cl f cs,y,h=>by cases y<;>simp only [Cd,jZ] at h
 | .any,y,h=>by cases y<;>simp only [Cd,jZ] at h
def CI:∀ (x y:List AV),NT x y=true→x=y
 | [],y,h=>by cases y<;>simp only [NT,jZ] at h;rfl
 | x::l,y,h=>by
  cases y<;>simp only [NT,jZ,eM] at h;rw [QJ x _ h.1,CI l _ h.2]
def KA:∀ (x y:List (List AV)),UV x y=true→x=y
 | [],y,h=>by cases y<;>simp only [UV,jZ] at h;rfl
 | x::l,y,h=>by
  cases y<;>simp only [UV,jZ,eM] at h;rw [CI x _ h.1,KA l _ h.2]
end
def aCZ:∀ {x y:Option AObj},aFb x y=true→x=y:=by
 intro x y h;unfold aFb at h;split at h
 ·rfl
 ·rw [CI _ _ h]
 ·simp only [eM,Cl] at h;rw [h.1,KA _ _ h.2]
 ·simp only [eM,Cl] at h;rw [h.1,KA _ _ h.2]
 ·simp at h
def SZ:∀ {x y:aQ},OT x y=true→x=y
 | [],[],_=>rfl
 | x::l,y::m,h=>by
  simp only [OT,eM] at h;rw [aCZ h.1,SZ h.2]
 | [],_::_,h=>by simp [OT] at h
 | _::_,[],h=>by simp [OT] at h
def WO:∀ {x y:List (Nat×AV)},YC x y=true→x=y
 | [],[],_=>rfl
 | (i,x)::l,(j,y)::m,h=>by
  simp only [YC,eM,Cl] at h;rw [h.1,QJ _ _ h.2.1,WO h.2.2]
 | [],_::_,h=>by simp [YC] at h
 | _::_,[],h=>by simp [YC] at h
def aB9 {a b:St} (h:aB4 a b=true):a=b:=by
 obtain ⟨r,s,T⟩:=a;obtain ⟨r',s',T'⟩:=b;simp only [aB4,eM,Cl] at h;rw [h.1,WO h.2.1,SZ h.2.2]
def aBa {r1 r2:Option St} {n:Bool} {s:St} (h:aB7 r1 n r2=some s):r1=some s∧(n=true∨r2=some s):=by
 unfold aB7 at h;split at h
 ·exact ⟨h,.inl rfl⟩
 ·split at h
  ·split at h
   ·rename_i hb;have:=aB9 hb;subst this;exact ⟨h,.inr h⟩
   ·simp at h
  ·simp at h
def Md {st:St}:∀ {os:List HOper},Mb G st os=true→mT G st os
 | [],_=>trivial
 | o::os,h=>by
  simp only [Mb,AC,AB,rO,tG,tF,eM] at h;refine ⟨?_,Md h.2⟩;have h1:=h.1;split at h1
  ·rename_i d hw hd;simp only [hw,hd,kZ];split at h1
   ·rename_i x T hx;simp only [hx];rw [QJ _ _ h1]
   ·simp at h1
  ·rename_i d hw hd;simp only [hw,hd,kZ];split at h1
   ·rename_i a ha;rw [ha];have:a=#[]:=by simpa using h1
    subst this;rfl
   ·simp at h1
  ·simp at h1
def EY (ht:tb.Ok P G) {ev:HC→St→ER} (he:QI P G ev) {K:St→Prop}:∀ {d:HD} {st s:St},F7 G tb ev d st=some s→K s→D4 P G d st K
 | .done b,st,s,h,hk=>by simp only [F7,Option.some.injEq] at h;subst h;exact hk
 | .no,st,s,h,hk=>by simp [F7] at h
 | .q o next,st,s,h,hk=>by
  simp only [F7,AC,AB,rO,tG,tF] at h;simp only [D4];split at h
  ·rename_i hw;simp only [hw];split at h
   ·rename_i x T hx;simp only [hx];exact EY ht he h hk
   ·simp at h
  ·rename_i hw;simp only [hw];exact EY ht he h hk
  ·simp at h
 | .alt o chk next other,st,s,h,hk=>by
  have first:∀ {s:St},(match F6 st.s o.guard with
   | some true=>match aB8 G tb ev st o.op with
    | some (x,T)=>if Mb G ⟨st.r,HJ st.s o.dst x,T⟩ chk then F7 G tb ev next ⟨st.r,HJ st.s o.dst x,T⟩ else none
    | none=>none
   | some false=>if Mb G ⟨st.r,HJ st.s o.dst (.v undef),st.T⟩ chk then F7 G tb ev next ⟨st.r,HJ st.s o.dst (.v undef),st.T⟩ else none
   | none=>none)=some s→K s→(match eC st.s o.guard with
  | some true=>tI P G st o.op λx T=>mT G ⟨st.r,dT st.s o.dst x,T⟩ chk∧D4 P G next ⟨st.r,dT st.s o.dst x,T⟩ K
  | some false=>mT G ⟨st.r,dT st.s o.dst (.v undef),st.T⟩ chk∧D4 P G next ⟨st.r,dT st.s o.dst (.v undef),st.T⟩ K
  | none=>False):=by
   intro s h hk;simp only [AC,AB,rO,tG,tF] at h;split at h
   ·rename_i hw;split at h
    ·rename_i x T hx;split at h
     ·rename_i hc;exact WN ht he hx ⟨Md hc,EY ht he h hk⟩
     ·simp at h
    ·simp at h
   ·rename_i hw;split at h
    ·rename_i hc;exact ⟨Md hc,EY ht he h hk⟩
    ·simp at h
   ·simp at h
  simp only [F7] at h;obtain ⟨h1,h2⟩:=aBa h;simp only [D4];refine ⟨first h1 hk,?_⟩;rcases h2 with h2 | h2
  ·cases other<;>simp [aGK] at h2;simp only [D4]
  ·exact EY ht he h2 hk
 | .perm _ _ _,st,s,h,hk=>by simp [F7] at h
 | .plan _ _ _ _ _,st,s,h,hk=>by simp [F7] at h
def aBb (ht:tb.Ok P G) (n:Nat) (ihs:∀ m,m≤n→QI P G (OV G tb m)):QI P G (OV G tb (n+1)):=by
  intro hc st e st' h Q hq;have ih:=ihs n (fW n);simp only [OV,AC,AB,rO,tG,tF] at h
  cases hc with
  | skip=>simp only [ER.ok.injEq] at h;obtain ⟨rfl,rfl⟩:=h;exact hq
  | reg ops =>
   simp only at h;split at h
   ·rename_i s hs;simp only [ER.ok.injEq] at h;obtain ⟨rfl,rfl⟩:=h;exact Mc ht ih hs hq
   ·simp at h
  | regd d =>
   simp only at h;split at h
   ·rename_i s hs;simp only [ER.ok.injEq] at h;obtain ⟨rfl,rfl⟩:=h;exact EY ht ih hs hq
   ·simp at h
  | seq a b =>
   simp only at h;simp only [dS];split at h
   ·rename_i s hs;exact ih _ _ _ _ hs _ (ih _ _ _ _ h _ hq)
   ·rename_i hs;refine ih _ _ _ _ h _ ?_
    cases e with
    | normal=>exact absurd h (hs _)
    | exit i=>exact hq
    | ret=>exact hq
  | cond c a b =>
   simp only at h;simp only [dS];split at h
   ·rename_i hc;simp only [hc,if_true];exact ih _ _ _ _ h _ hq
   ·rename_i hc;simp only [hc,jZ,if_false];exact ih _ _ _ _ h _ hq
   ·simp at h
  | block id a =>
   simp only at h;simp only [dS];split at h
   ·rename_i j s hs;refine ih _ _ _ _ hs _ ?_;split at h
    ·rename_i hj;simp only [ER.ok.injEq] at h;obtain ⟨rfl,rfl⟩:=h;simp only [hj,if_true];exact hq
    ·rename_i hj;simp only [ER.ok.injEq] at h;obtain ⟨rfl,rfl⟩:=h;simp only [hj,if_false];exact hq
   ·rename_i hs;refine ih _ _ _ _ h _ ?_
    cases e with
    | normal=>exact hq
    | exit i=>exact absurd h (hs _ _)
    | ret=>exact hq
  | loop d a =>
   simp only at h;simp only [dS];refine ⟨λm s=>m≤n+1∧OV G tb m (.loop d a) s=.ok e st',⟨n+1,.inr ⟨fW _,by simp only [OV,AC,AB,rO,tG,tF];exact h⟩⟩,λm s ⟨hm,hs⟩=>?_⟩
   cases m with
   | zero=>simp [OV] at hs
   | succ m =>
    simp only [OV,AC,AB,rO,tG,tF] at hs;have ih2:=ihs m (by omega);split at hs
    ·rename_i s1 h1;exact ih2 _ _ _ _ h1 _ ⟨m,Qk _,.inl ⟨by omega,hs⟩⟩
    ·rename_i hn;refine ih2 _ _ _ _ hs _ ?_
     cases e with
     | normal=>exact absurd hs (hn _)
     | exit i=>exact hq
     | ret=>exact hq
  | exit id=>simp only [ER.ok.injEq] at h;obtain ⟨rfl,rfl⟩:=h;exact hq
  | ret=>simp only [ER.ok.injEq] at h;obtain ⟨rfl,rfl⟩:=h;exact hq
  | kill d=>simp only [ER.ok.injEq] at h;obtain ⟨rfl,rfl⟩:=h;exact hq
  | own j c k=>simp only [ER.ok.injEq] at h;obtain ⟨rfl,rfl⟩:=h;exact hq
  | shut j=>simp only [ER.ok.injEq] at h;obtain ⟨rfl,rfl⟩:=h;exact hq
  | rng g ps d a b=>simp at h
def aD0 (ht:tb.Ok P G) (n:Nat):∀ m,m≤n→QI P G (OV G tb m):=by
 induction n with
 | zero =>
  intro m hm;obtain rfl:m=0:=by omega
  intro hc st e st' h;simp [OV] at h
 | succ n ih =>
  intro m hm;rcases bY m (n+1) with h | h
  ·exact ih m (by omega)
  ·obtain rfl:m=n+1:=by omega
   exact aBb ht n ih
def aFc (ht:tb.Ok P G) (n:Nat):QI P G (OV G tb n):=aD0 ht n n (fW n)
def aFd (ht:tb.Ok P G) {n:Nat} {f:Nat} {args:List AV} {T:aQ} {r:AV} {T':aQ} (h:QH G tb n f args T=some (r,T')):aC P G f args T λr' T''=>r'=r∧T''=T':=UX ht (aFc ht n) h
end
def lkF:List (Nat×HFun)→Nat→Option HFun
 | [],_=>none
 | p::r,f=>match Nat.beq p.1 f with | true=>some p.2 | false=>lkF r f
def TOk (P:Program):List (Nat×HFun)→Prop
 | []=>True
 | p::r=>(∃ H,sA P p.1 H=some p.2)∧TOk P r
def aBc {P:Program}:∀ {l:List (Nat×HFun)},TOk P l→∀ f h,lkF l f=some h→∃ H,sA P f H=some h
 | [],_,f,h,e=>by simp [lkF] at e
 | p::r,ht,f,h,e=>by
  simp only [lkF] at e;split at e
  ·rename_i hb;injection e with e;rw [←KP hb,←e];exact ht.1
  ·exact aBc ht.2 f h e
end
end Hud
