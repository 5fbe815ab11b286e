import Derived.Test.YthlndebkfkanbaaGreatDoorLib22
set_option linter.all false
section
namespace Hud
open Go Go.Proofs Go.Sort Go.Shelf
section
variable {P:Program} {α:Type} [Inhabited α] {enc:α→List Value} {k:Nat}
end
end Hud
end
namespace Hud
open Go
section
section
variable {G:Nat→Option (List AV)}
set_option maxHeartbeats 2000000
def Id.A_zero:[AV.v (.int .i64 0),AV.v (.int .i64 0),AV.v (.int .u64 0)]=Id.A ⟨0,0,0⟩:=rfl
def P4 (a:List Id) (ha:a.length≤1000000):aC PQ G aV [ids a] [] λr T=>r=.own 0∧T=[some (.arr 3 (a.map Id.A))]:=by
 refine aF iN (by decide) ?_;unfold fE
 cases a with
 | nil=>simp only [go_sem,ids,show 0≤maxLen by decide]
 | cons x a =>
  have e1:(a.length+1)*24≤140737488355328:=by simp at ha;omega
  have e2:a.length+1≤maxLen:=by simp at ha;unfold maxLen;omega
  simp only [go_sem,ids,aL,e1,e2]
end
end
section
section
variable {G:Nat→Option (List AV)}
set_option maxHeartbeats 2000000
def yG (es:List (List AV)) (h:es.length≤1000000):aC PQ G fP [.ls 5 es] [] λr T=>r=.own 0∧T=[some (.arr 5 es)]:=by
 refine aF pV (by decide) ?_
 cases es with
 | nil=>simp only [go_sem,show 0≤maxLen by decide]
 | cons x a =>
  have e1:(a.length+1)*40≤140737488355328:=by simp at h;omega
  have e2:a.length+1≤maxLen:=by simp at h;unfold maxLen;omega
  simp only [go_sem,e1,e2]
def F2 (es:List (List AV)) (h:es.length≤1000000):aC PQ G eN [.ls 1 es] [] λr T=>r=.own 0∧T=[some (.arr 1 es)]:=by
 refine aF vP (by decide) ?_
 cases es with
 | nil=>simp only [go_sem,show 0≤maxLen by decide]
 | cons x a =>
  have e1:(a.length+1)*1≤140737488355328:=by simp at h;omega
  have e2:a.length+1≤maxLen:=by simp at h;unfold maxLen;omega
  simp only [go_sem,e1,e2]
def yH (es:List (List AV)) (h:es.length≤1000000):aC PQ G eN [.ls 1 es] [] λr T=>r=.ls 1 es∧T=[]:=by
 refine (F2 es h).fin [0] ?_;rintro r T' ⟨rfl,rfl⟩;simp only [go_sem,kI]
def II (es:List (List AV)) (h:es.length≤1000000):aC PQ G iS [.ls 1 es] [] λr T=>r=.own 0∧T=[some (.arr 1 es)]:=by
 refine aF xV (by decide) ?_
 cases es with
 | nil=>simp only [go_sem,show 0≤maxLen by decide]
 | cons x a =>
  have e1:(a.length+1)*8≤140737488355328:=by simp at h;omega
  have e2:a.length+1≤maxLen:=by simp at h;unfold maxLen;omega
  simp only [go_sem,e1,e2]
def IJ (es:List (List AV)) (h:es.length≤1000000):aC PQ G iS [.ls 1 es] [] λr T=>r=.ls 1 es∧T=[]:=by
 refine (II es h).fin [0] ?_;rintro r T' ⟨rfl,rfl⟩;simp only [go_sem,kI]
def AZ (es:List (List AV)) (h:es.length≤1000000):aC PQ G cQ [.ls 4 es] [] λr T=>r=.own 0∧T=[some (.arr 4 es)]:=by
 refine aF qW (by decide) ?_
 cases es with
 | nil=>simp only [go_sem,show 0≤maxLen by decide]
 | cons x a =>
  have e1:(a.length+1)*32≤140737488355328:=by simp at h;omega
  have e2:a.length+1≤maxLen:=by simp at h;unfold maxLen;omega
  simp only [go_sem,e1,e2]
def qK (es:List (List AV)) (h:es.length≤1000000):aC PQ G cQ [.ls 4 es] [] λr T=>r=.ls 4 es∧T=[]:=by
 refine (AZ es h).fin [0] ?_;rintro r T' ⟨rfl,rfl⟩;simp only [go_sem,kI]
def tD (es:List (List AV)) (h:es.length≤1000000):aC PQ G aK [.ls 1 es] [] λr T=>r=.own 0∧T=[some (.arr 1 es)]:=by
 refine aF sS (by decide) ?_
 cases es with
 | nil=>simp only [go_sem,show 0≤maxLen by decide]
 | cons x a =>
  have e1:(a.length+1)*8≤140737488355328:=by simp at h;omega
  have e2:a.length+1≤maxLen:=by simp at h;unfold maxLen;omega
  simp only [go_sem,e1,e2]
def CG (es:List (List AV)) (h:es.length≤1000000):aC PQ G aK [.ls 1 es] [] λr T=>r=.ls 1 es∧T=[]:=by
 refine (tD es h).fin [0] ?_;rintro r T' ⟨rfl,rfl⟩;simp only [go_sem,kI]
def yI (es:List (List AV)) (h:es.length≤1000000):aC PQ G fQ [.ls 2 es] [] λr T=>r=.own 0∧T=[some (.arr 2 es)]:=by
 refine aF pW (by decide) ?_
 cases es with
 | nil=>simp only [go_sem,show 0≤maxLen by decide]
 | cons x a =>
  have e1:(a.length+1)*32≤140737488355328:=by simp at h;omega
  have e2:a.length+1≤maxLen:=by simp at h;unfold maxLen;omega
  simp only [go_sem,e1,e2]
def uH (es:List (List AV)) (h:es.length≤1000000):aC PQ G eH [.ls 4 es] [] λr T=>r=.own 0∧T=[some (.arr 4 es)]:=by
 refine aF nJ (by decide) ?_
 cases es with
 | nil=>simp only [go_sem,show 0≤maxLen by decide]
 | cons x a =>
  have e1:(a.length+1)*48≤140737488355328:=by simp at h;omega
  have e2:a.length+1≤maxLen:=by simp at h;unfold maxLen;omega
  simp only [go_sem,e1,e2]
def aAG (a:List Id) (ha:a.length≤1000000):aC PQ G aV [ids a] [] λr T=>r=ids a∧T=[]:=by
 refine (P4 a ha).fin [0] ?_;rintro r T' ⟨rfl,rfl⟩;simp only [go_sem,kI]
end
end
section
def Aa (o:OpM):aQ:=[some (.box [iv o.By,iv o.Seq,iv o.Kind,iv o.At,ids o.Past,iv o.Device,iv o.Old,iv o.Member,iv o.Role,.own 2,
 .v (.int .i64 o.Epoch.a),.v (.int .i64 o.Epoch.b),.v (.int .u64 o.Epoch.c),iv o.N,.ls 1 (bl o.Body),.ls 1 (ul o.Refs),.v (.int .i64 o.Of.a),.v (.int .i64 o.Of.b),.v (.int .u64 o.Of.c),AM o.Guards,
 iv o.Need,iv o.Wait,C0 o.Boxes,uv o.Pub,.own 3,uv o.SR,uv o.SS]),some (.box [AV.v (Value.int IntKind.i64 0),AV.v (Value.int IntKind.i64 0),AV.v (Value.int IntKind.i64 0),
        AV.v (Value.int IntKind.i64 0),AV.v (Value.slice none 0 0),AV.v (Value.int IntKind.i64 0),
        AV.v (Value.int IntKind.i64 0),AV.v (Value.int IntKind.i64 0),AV.v (Value.int IntKind.i64 0),
        AV.v (Value.slice none 0 0),AV.v (Value.int IntKind.i64 0),AV.v (Value.int IntKind.i64 0),
        AV.v (Value.int IntKind.u64 0),AV.v (Value.int IntKind.i64 0),AV.v (Value.slice none 0 0),
        AV.v (Value.slice none 0 0),AV.v (Value.int IntKind.i64 0),AV.v (Value.int IntKind.i64 0),
        AV.v (Value.int IntKind.u64 0),AV.v (Value.slice none 0 0),AV.v (Value.int IntKind.i64 0),
        AV.v (Value.int IntKind.i64 0),AV.v (Value.slice none 0 0),AV.v (Value.int IntKind.u64 0),
        AV.v (Value.slice none 0 0),AV.v (Value.int IntKind.u64 0),AV.v (Value.int IntKind.u64 0)]),some (.arr 2 (o.Path.map NodeM.A)),some (.arr 4 (o.Hist.map SealM.A))]
def SO {α β:Type} (f:α→β) (l:List α) (i:Nat) (h:i<l.length):(l.map f).set i (f l[i])=l.map f:=by
 rw [←GI,List.set_getElem_self]
section
variable {G:Nat→Option (List AV)}
set_option maxHeartbeats 4000000
def aAH (o:OpM) (ho:o.ok):aC PQ G nE [.ag o.A] [] λr T=>r=.ag [iv o.By,iv o.Seq,iv o.Kind,iv o.At,ids o.Past,iv o.Device,iv o.Old,iv o.Member,iv o.Role,.own 0,
 .v (.int .i64 o.Epoch.a),.v (.int .i64 o.Epoch.b),.v (.int .u64 o.Epoch.c),iv o.N,.ls 1 (bl o.Body),.ls 1 (ul o.Refs),.v (.int .i64 o.Of.a),.v (.int .i64 o.Of.b),.v (.int .u64 o.Of.c),AM o.Guards,
 iv o.Need,iv o.Wait,C0 o.Boxes,uv o.Pub,.own 1,uv o.SR,uv o.SS]∧T=[some (.arr 2 (o.Path.map NodeM.A)),some (.arr 4 (o.Hist.map SealM.A))]:=by
 refine aF Hx (by decide) ?_
 have y1:=ho.past.1
 have y2:=ho.path.1
 have y3:=ho.refs.1
 have y4:=ho.guards.1
 have y5:=ho.boxes.1
 have y6:=ho.hist.1
 have y7:=ho.body.1
 simp only [go_sem,OpM.A_def]
 refine aB (aA _) rfl (aAG o.Past (by omega)) rfl ?_
 simp only [go_sem]
 refine aB (aA _) rfl (yH (bl o.Body) (by rw [aL];omega)) rfl ?_
 simp only [go_sem]
 refine aB (aA _) rfl (CG (ul o.Refs) (by rw [aL];omega)) rfl ?_
 simp only [go_sem]
 refine aB (aA _) rfl (IJ (o.Guards.map λn=>[iv n]) (by rw [aL];omega)) rfl ?_
 simp only [go_sem]
 refine aB (aA _) rfl (qK (o.Boxes.map BoxM.A) (by rw [aL];omega)) rfl ?_
 simp only [go_sem]
 refine aS (aA _) rfl (yI (o.Path.map NodeM.A) (by rw [aL];omega)) ?_
 simp only [go_sem]
 refine aS (aA _) rfl (uH (o.Hist.map SealM.A) (by rw [aL];omega)) ?_
 simp only [go_sem,aL]
 refine aO o.Path.length (λi=>⟨0,[(1,.ptr 0 0),(2,.ptr 1 0),(35,iv o.Path.length),(36,iv i)],Aa o⟩) (λ_=>True) ?_ trivial ?_ ?_
 ·simp only [go_sem,Aa]
 ·intro i hi _
  have ws:=aG (show i<9223372036854775807 by omega)
  have g0:(o.Path.map NodeM.A)[i]?=some [uv o.Path[i].Pub,C0 o.Path[i].Boxes]:=aP _ o.Path i hi
  have es:(o.Path.map NodeM.A).set i [uv o.Path[i].Pub,C0 o.Path[i].Boxes]=o.Path.map NodeM.A:=SO NodeM.A o.Path i hi
  have hb:=(ho.path.2 _ (jY hi)).2.1
  generalize o.Path[i]=x at *
  simp only [go_sem,Aa,aL,aT hi,hi,g0]
  refine aB (aA _) rfl (qK (x.Boxes.map BoxM.A) (by rw [aL];omega)) rfl ?_
  simp only [go_sem,Aa,aL,hi,g0,es,ws]
 intro _
 simp only [go_sem,Aa,aL,aX (cZ _)]
 refine aO o.Hist.length (λi=>⟨0,[(1,.ptr 0 0),(2,.ptr 1 0),(54,iv o.Hist.length),(55,iv i)],Aa o⟩) (λ_=>True) ?_ trivial ?_ ?_
 ·simp only [go_sem,Aa]
 ·intro i hi _
  have ws:=aG (show i<9223372036854775807 by omega)
  have g0:(o.Hist.map SealM.A)[i]?=some [.v (.int .i64 o.Hist[i].Of.a),.v (.int .i64 o.Hist[i].Of.b),.v (.int .u64 o.Hist[i].Of.c),.ls 1 (bl o.Hist[i].Body)]:=aP _ o.Hist i hi
  have es:(o.Hist.map SealM.A).set i [.v (.int .i64 o.Hist[i].Of.a),.v (.int .i64 o.Hist[i].Of.b),.v (.int .u64 o.Hist[i].Of.c),.ls 1 (bl o.Hist[i].Body)]=o.Hist.map SealM.A:=SO SealM.A o.Hist i hi
  have hb:=(ho.hist.2 _ (jY hi)).2.1
  generalize o.Hist[i]=x at *
  simp only [go_sem,Aa,aL,aT hi,hi,g0]
  refine aB (aA _) rfl (yH (bl x.Body) (by rw [aL];omega)) rfl ?_
  simp only [go_sem,Aa,aL,hi,g0,es,ws]
 intro _
 simp only [go_sem,Aa,aL,aX (cZ _)]
def WH (o:OpM) (ho:o.ok):aC PQ G nE [.ag o.A] [] λr T=>r=.ag o.A∧T=[]:=by
 refine (aAH o ho).fin [0,1] ?_;rintro r T' ⟨rfl,rfl⟩;simp only [go_sem,kI,OpM.A_def]
end
end
section
structure ND where
 o:OpM
 id:Id
 W:List Nat
 lv:Int
def ND.A (n:ND):List AV:=n.o.A++(n.id.A++(mK n.W++[iv n.lv]))
structure PGM where
 cards:List CardM
 nodes:List ND
def PGM.I (g:PGM):List Id:=g.nodes.map (·.id)
def MG (I:List Id):AObj:=.map true (I.map Id.K) ((List.range I.length).map λi:Nat=>iv (i:Int)) (List.range I.length) I.length
def TG (k:Nat) (g:PGM):aQ:=[some (.box [.ls 5 (g.cards.map CardM.A),.mp (k+1),.own (k+2)]),some (MG g.I),some (.arr 35 (g.nodes.map ND.A))]
def HG (x:Id):KZ true [.int .i64,.int .i64,.int .u64] (.ag x.A)=some x.K:=by
 simp [KZ,Qx,Id.A,BY,Id.K,pZ]
@[go_sem] def aFE (x:Id):BY x.A=some x.K:=by simp [Id.A,BY,Id.K]
@[go_sem] def aJ9 (x:Id):pZ [.int .i64,.int .i64,.int .u64] x.K x.K=some true:=by simp [Id.K,pZ]
def EX (x:Id):∀ (I:List Id) (i:Nat),nN [.int .i64,.int .i64,.int .u64] x.K (I.map Id.K) i=some ((I.findIdx? λy=>decide (y=x)).map (· + i))
 | [],_=>rfl
 | y::I,i=>by
  simp only [cN,nN,Id.K,pZ,and_self,if_true,uO,List.findIdx?_cons];have:=EX x I (i+1);simp only [Id.K] at this;have e:(x.a==y.a&&(x.b==y.b&&x.c==y.c))=decide (y=x):=by rw [Id.beq];rw [oU];simp [eq_comm]
  by_cases h:y=x
  ·subst h;simp
  ·have h2:decide (y=x)=false:=decide_eq_false h;rw [h2] at e ⊢;simp only [e,this,jZ,if_false]
   cases I.findIdx? (λy=>decide (y=x)) with
   | none=>rfl
   | some j=>simp;omega
def Dx (n j:Nat) (h:j<n):((List.range n).map λi:Nat=>iv (i:Int))[j]?=some (iv (j:Int)):=by simp [h]
def CH {I:List Id} {x:Id} (h:x∉I):I.findIdx? (λy=>decide (y=x))=none:=by
 rw [Uu];intro y hy;exact decide_eq_false λe=>h (e ▸ hy)
def pL {I:List Id} {x:Id} (h:x∈I):∃ j,I.findIdx? (λy=>decide (y=x))=some j∧j<I.length∧∃ hj:j<I.length,I[j]=x:=by
 cases e:I.findIdx? (λy=>decide (y=x)) with
 | none=>exact absurd (Uu.1 e x h) (by simp)
 | some j =>
  obtain ⟨h1,h2,_⟩:=WY.1 e;exact ⟨j,rfl,h1,h1,of_decide_eq_true h2⟩
section
variable {G:Nat→Option (List AV)}
set_option maxHeartbeats 4000000
def aCO (g:PGM) (d:Int) (hn:g.cards.length≤1000):aC PQ G qT [.ptr 0 0,iv d] (TG 0 g) λr T=>r=.tup [.ag (jT g.cards d).1.A,.v (.bool (jT g.cards d).2)]∧T=TG 0 g:=by
 refine aF Cb (by decide) ?_;simp only [go_sem,TG,MG,aL,NY];refine aO g.cards.length (λi=>⟨3,[(1,iv d),(4,.ptr 3 0),(11,.ls 5 (g.cards.map CardM.A)),(12,iv g.cards.length),(13,iv i)],[some (.box [.ls 5 (g.cards.map CardM.A),.mp 1,.own 2]),some (MG g.I),some (.arr 35 (g.nodes.map ND.A)),some (.box [iv 0,iv 0,AV.v (.int .u64 0),AV.v (.int .u64 0),AV.v (.int .u64 0)])]⟩) (λi=>∀ j (hj:j<g.cards.length),j<i→(g.cards[j].Device==d)=false) ?_ (by intro j hj h;omega) ?_ ?_
 ·simp only [go_sem,MG]
 ·intro i hi hJ;have g0:(g.cards.map CardM.A)[i]?=some [iv g.cards[i].Device,iv g.cards[i].Member,uv g.cards[i].Lead,uv g.cards[i].Keep,uv g.cards[i].Sign]:=aP _ g.cards i hi;simp only [go_sem,MG,aL,aT hi,hi,g0];refine aM (λh=>?_) (λh=>?_)<;>simp only [go_sem,MG,aL,hi,g0,aG (show i<9223372036854775807 by omega)]
  ·have e:g.cards.find? (λc=>c.Device==d)=some g.cards[i]:=aDj.2 ⟨h,i,hi,rfl,λj hj=>by simp [hJ j (by omega) hj]⟩;simp only [jT,e,CardM.A_def]
  ·intro j hj hji;rcases bY j i with h1 | h1
   ·exact hJ j hj h1
   ·obtain rfl:j=i:=by omega
    exact h
 ·intro hJ;have e:g.cards.find? (λc=>c.Device==d)=none:=Mu.2 λx hx=>by
   obtain ⟨j,hj,rfl⟩:=AH hx;simp [hJ j hj hj]
  simp only [go_sem,MG,aL,aX (cZ _),jT,e,CardM.A_def];rfl
def OQ (g:PGM) (x:Id):aC PQ G dL [.ag x.A,.ptr 0 0] (some (.box [.ptr 1 0])::TG 1 g) λr T=>r=.v (.bool (decide (x∈g.I)))∧T=some (.box [.ptr 1 0])::TG 1 g:=by
 refine aF AT (by decide) ?_;have hk:=HG x;have hf:=EX x g.I 0;by_cases hx:x∈g.I
 ·obtain ⟨j,h1,h2,_⟩:=pL hx;rw [h1] at hf;have gv:=Dx g.I.length j h2;simp only [kZ,yN] at hf;simp only [go_sem,TG,MG,hf,gv,decide_eq_true hx]
 ·rw [CH hx] at hf;simp only [VF] at hf;simp only [go_sem,TG,MG,hf,decide_eq_false hx]
end
end
end Hud
