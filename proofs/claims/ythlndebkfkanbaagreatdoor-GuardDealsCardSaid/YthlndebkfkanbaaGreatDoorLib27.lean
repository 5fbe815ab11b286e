import Derived.Test.YthlndebkfkanbaaGreatDoorLib26
set_option linter.all false
namespace Hud
open Go Go.Proofs.Tryz
section
def eQ:HFun:=⟨42,[(4,none)],zQ (zr [zN 4] [4]) (zQ (zr [zm 8 0,zm 9 1,zc 10 aY [zt 8,zt 9],zm 5 10] [10,9,8]) (zQ (zQ (zr [zm 11 5,zj 12 .eql 11 (-1)] [11]) (zC 12 (zK [5,1,12] (zQ (zQ (zr [zm 13 0,zm 4 13] [0,13]) (.own 4 none 3)) .ret)) (zK [12] .skip))) (zQ (zQ (zr [zm 14 5,zj 15 .add 14 1,zm 6 15] [15,14]) (zP 0 (zQ (zQ (zr [zm 16 6,zm 17 0,zn 18 17,zb 19 .lss 16 18] [18,17,16]) (zC 19 (zK [19] .skip) (zK [6,1,19] (.exit 0)))) (zQ (.block 1 (zQ (zr [zm 22 0,zm 23 6,zi 24 22 23 3,zv 25 3 24,zo 7 (.alloc [z0,z0,zU]),zs (.st 3 (zt 7) (zt 25))] [25,24,23,22]) (zQ (zr [zm 26 1,zv 27 3 7,zo 28 (.call (zt 26) [zt 27]),zo 29 (.un .not (zt 28))] [28,27,26]) (zC 29 (zK [29] (zQ (zr [zm 30 0,zm 31 5,zv 32 3 7,zi 33 30 31 3,zs (.st 3 (zt 33) (zt 32))] [7,33,32,31,30]) (zr [zm 34 5,zj 35 .add 34 1,zm 5 35] [35,34]))) (zK [7,29] .skip))))) (zr [zm 20 6,zj 21 .add 20 1,zm 6 21] [21,20]))))) (zQ (zr [zm 36 0,zm 37 5,zo 38 (.slc (zt 36) (some (zt 37)) none 3),zs (.clr (zt 38) 3 [z0,z0,zU])] [38,37,36]) (zQ (zQ (zr [zm 39 0,zm 40 5,zo 41 (.slc (zt 39) none (some (zt 40)) 3),zm 4 41] [0,5,41,40,39]) (.own 4 none 3)) .ret)))))⟩
theorem jU:aB prog bW [(4,none,3)]=some eQ:=by kernel_rfl
def gK:HFun:=⟨8,[(2,none)],zQ (zr [zN 2] [2]) (zQ (zQ (zr [zm 3 0,zo 4 (.nilS false 1 (zt 3))] [3]) (zC 4 (zK [0,4] (zQ (zE [zN 2] (.own 2 none 3)) .ret)) (zK [4] .skip))) (zQ (zQ (zr [zo 5 (.bsl 3 [] [] 0),zm 6 0,zo 7 (.app (zt 5) (zt 6) 3 24),zm 2 7] [0,7,6,5]) (.own 2 none 3)) .ret))⟩
theorem lV:aB prog bB [(2,none,3)]=some gK:=by kernel_rfl
def jY:HFun:=⟨8,[(2,none)],zQ (zr [zN 2] [2]) (zQ (zQ (zr [zm 3 0,zo 4 (.nilS false 1 (zt 3))] [3]) (zC 4 (zK [0,4] (zQ (zE [zN 2] (.own 2 none 1)) .ret)) (zK [4] .skip))) (zQ (zQ (zr [zo 5 (.bsl 1 [] [] 0),zm 6 0,zo 7 (.app (zt 5) (zt 6) 1 8),zm 2 7] [0,7,6,5]) (.own 2 none 1)) .ret))⟩
theorem pM:aB prog cW [(2,none,1)]=some jY:=by kernel_rfl
def cD:HFun:=⟨19,[(4,none)],zQ (zr [zk 4 0] [4]) (zQ (zQ (zr [zm 6 0,zn 7 6,zk 8 0] [6]) (zP 0 (zE [zb 9 .lss 8 7] (zQ (zC 9 (zK [9] .skip) (zK [8,7,0,1,9] (.exit 0))) (zQ (.block 1 (zQ (zr [zm 10 8,zm 5 10] [10]) (zQ (zr [zm 11 1,zm 12 0,zm 13 5,zi 14 12 13 3,zv 15 3 14,zo 16 (.call (zt 11) [zt 15])] [15,14,13,12,11]) (zC 16 (zK [8,1,0,7,16] (zQ (zr [zm 17 5,zm 4 17] [5,17]) .ret)) (zK [5,16] .skip))))) (zr [zj 18 .add 8 1,zm 8 18] [18])))))) (zE [zk 4 (-1)] .ret))⟩
theorem eD:aB prog aY []=some cD:=by kernel_rfl
def fX:HFun:=⟨9,[(4,none)],zQ (zr [zo 4 (.mov zF)] [4]) (zQ (zr [zm 5 0,zm 6 1,zc 7 dQ [zt 5,zt 6],zj 8 .geq 7 0,zm 4 8] [0,1,8,7,6,5]) .ret)⟩
theorem lI:aB prog cV []=some fX:=by kernel_rfl
def iE:HFun:=⟨19,[(4,none)],zQ (zr [zk 4 0] [4]) (zQ (zQ (zr [zm 6 0,zn 7 6,zk 8 0] [6]) (zP 0 (zE [zb 9 .lss 8 7] (zQ (zC 9 (zK [9] .skip) (zK [8,7,0,1,9] (.exit 0))) (zQ (.block 1 (zQ (zr [zm 10 8,zm 5 10] [10]) (zQ (zr [zm 11 1,zm 12 0,zm 13 5,zi 14 12 13 1,zl 15 14,zo 16 (.call (zt 11) [zt 15])] [15,14,13,12,11]) (zC 16 (zK [8,1,0,7,16] (zQ (zr [zm 17 5,zm 4 17] [5,17]) .ret)) (zK [5,16] .skip))))) (zr [zj 18 .add 8 1,zm 8 18] [18])))))) (zE [zk 4 (-1)] .ret))⟩
theorem mU:aB prog dQ []=some iE:=by kernel_rfl
end
section
section
variable {G:Nat->Option (List AV)}
set_option maxHeartbeats 2000000
theorem Id.A_zero:[AV.v (.int .i64 0),AV.v (.int .i64 0),AV.v (.int .u64 0)]=Id.A ⟨0,0,0⟩:=rfl
theorem aU0 (a:List Id) (ha:a.length<=1000000):aD prog G bB [ids a] [] fun r T=>r=.own 0/\T=[some (.arr 3 (a.map Id.A))]:=by
 refine aF lV (by decide) ?_
 unfold gK
 dsimp only [zj,zT,zF,zC,zE,zP,zQ,zq,zA,zm,zo,zs,zg,zh,zl,zv,zf,zi,zn,zb,zc,ze,zk,zw,zu,zt,zr,zR,zK,zN,zS,z0,zU]
 cases a with
 | nil=>simp only [go_sem,↓reduceIte,ids,show 0<=maxLen by decide]
 | cons x a =>
  have e1:(a.length+1)*24<=140737488355328:=by simp at ha;omega
  have e2:a.length+1<=maxLen:=by simp at ha;unfold maxLen;omega
  simp only [go_sem,↓reduceIte,ids,List.length_map,e1,e2]
end
end
section
section
variable {G:Nat->Option (List AV)}
set_option maxHeartbeats 2000000
theorem uT (es:List (List AV)) (h:es.length<=1000000):aD prog G dM [.ls 5 es] [] fun r T=>r=.own 0/\T=[some (.arr 5 es)]:=by
 refine aF mP (by decide) ?_
 unfold iA
 dsimp only [zj,zT,zF,zC,zE,zP,zQ,zq,zA,zm,zo,zs,zg,zh,zl,zv,zf,zi,zn,zb,zc,ze,zk,zw,zu,zt,zr,zR,zK,zN,zS,z0,zU]
 cases es with
 | nil=>simp only [go_sem,↓reduceIte,show 0<=maxLen by decide]
 | cons x a =>
  have e1:(a.length+1)*40<=140737488355328:=by simp at h;omega
  have e2:a.length+1<=maxLen:=by simp at h;unfold maxLen;omega
  simp only [go_sem,↓reduceIte,e1,e2]
theorem aDN (es:List (List AV)) (h:es.length<=1000000):aD prog G cT [.ls 1 es] [] fun r T=>r=.own 0/\T=[some (.arr 1 es)]:=by
 refine aF sA (by decide) ?_
 unfold mM
 dsimp only [zj,zT,zF,zC,zE,zP,zQ,zq,zA,zm,zo,zs,zg,zh,zl,zv,zf,zi,zn,zb,zc,ze,zk,zw,zu,zt,zr,zR,zK,zN,zS,z0,zU]
 cases es with
 | nil=>simp only [go_sem,↓reduceIte,show 0<=maxLen by decide]
 | cons x a =>
  have e1:(a.length+1)*1<=140737488355328:=by simp at h;omega
  have e2:a.length+1<=maxLen:=by simp at h;unfold maxLen;omega
  simp only [go_sem,↓reduceIte,e1,e2]
theorem uU (es:List (List AV)) (h:es.length<=1000000):aD prog G cT [.ls 1 es] [] fun r T=>r=.ls 1 es/\T=[]:=by
 refine (aDN es h).fin [0] ?_
 rintro r T' ⟨rfl,rfl⟩
 simp only [go_sem,↓reduceIte,List.length_nil]
theorem aGd (es:List (List AV)) (h:es.length<=1000000):aD prog G fL [.ls 1 es] [] fun r T=>r=.own 0/\T=[some (.arr 1 es)]:=by
 refine aF uK (by decide) ?_
 unfold oI
 dsimp only [zj,zT,zF,zC,zE,zP,zQ,zq,zA,zm,zo,zs,zg,zh,zl,zv,zf,zi,zn,zb,zc,ze,zk,zw,zu,zt,zr,zR,zK,zN,zS,z0,zU]
 cases es with
 | nil=>simp only [go_sem,↓reduceIte,show 0<=maxLen by decide]
 | cons x a =>
  have e1:(a.length+1)*8<=140737488355328:=by simp at h;omega
  have e2:a.length+1<=maxLen:=by simp at h;unfold maxLen;omega
  simp only [go_sem,↓reduceIte,e1,e2]
theorem aGe (es:List (List AV)) (h:es.length<=1000000):aD prog G fL [.ls 1 es] [] fun r T=>r=.ls 1 es/\T=[]:=by
 refine (aGd es h).fin [0] ?_
 rintro r T' ⟨rfl,rfl⟩
 simp only [go_sem,↓reduceIte,List.length_nil]
theorem xF (es:List (List AV)) (h:es.length<=1000000):aD prog G bG [.ls 4 es] [] fun r T=>r=.own 0/\T=[some (.arr 4 es)]:=by
 refine aF nT (by decide) ?_
 unfold jA
 dsimp only [zj,zT,zF,zC,zE,zP,zQ,zq,zA,zm,zo,zs,zg,zh,zl,zv,zf,zi,zn,zb,zc,ze,zk,zw,zu,zt,zr,zR,zK,zN,zS,z0,zU]
 cases es with
 | nil=>simp only [go_sem,↓reduceIte,show 0<=maxLen by decide]
 | cons x a =>
  have e1:(a.length+1)*32<=140737488355328:=by simp at h;omega
  have e2:a.length+1<=maxLen:=by simp at h;unfold maxLen;omega
  simp only [go_sem,↓reduceIte,e1,e2]
theorem nH (es:List (List AV)) (h:es.length<=1000000):aD prog G bG [.ls 4 es] [] fun r T=>r=.ls 4 es/\T=[]:=by
 refine (xF es h).fin [0] ?_
 rintro r T' ⟨rfl,rfl⟩
 simp only [go_sem,↓reduceIte,List.length_nil]
theorem aAo (es:List (List AV)) (h:es.length<=1000000):aD prog G cW [.ls 1 es] [] fun r T=>r=.own 0/\T=[some (.arr 1 es)]:=by
 refine aF pM (by decide) ?_
 unfold jY
 dsimp only [zj,zT,zF,zC,zE,zP,zQ,zq,zA,zm,zo,zs,zg,zh,zl,zv,zf,zi,zn,zb,zc,ze,zk,zw,zu,zt,zr,zR,zK,zN,zS,z0,zU]
 cases es with
 | nil=>simp only [go_sem,↓reduceIte,show 0<=maxLen by decide]
 | cons x a =>
  have e1:(a.length+1)*8<=140737488355328:=by simp at h;omega
  have e2:a.length+1<=maxLen:=by simp at h;unfold maxLen;omega
  simp only [go_sem,↓reduceIte,e1,e2]
theorem aAp (es:List (List AV)) (h:es.length<=1000000):aD prog G cW [.ls 1 es] [] fun r T=>r=.ls 1 es/\T=[]:=by
 refine (aAo es h).fin [0] ?_
 rintro r T' ⟨rfl,rfl⟩
 simp only [go_sem,↓reduceIte,List.length_nil]
theorem uV (es:List (List AV)) (h:es.length<=1000000):aD prog G dN [.ls 2 es] [] fun r T=>r=.own 0/\T=[some (.arr 2 es)]:=by
 refine aF mQ (by decide) ?_
 unfold iB
 dsimp only [zj,zT,zF,zC,zE,zP,zQ,zq,zA,zm,zo,zs,zg,zh,zl,zv,zf,zi,zn,zb,zc,ze,zk,zw,zu,zt,zr,zR,zK,zN,zS,z0,zU]
 cases es with
 | nil=>simp only [go_sem,↓reduceIte,show 0<=maxLen by decide]
 | cons x a =>
  have e1:(a.length+1)*32<=140737488355328:=by simp at h;omega
  have e2:a.length+1<=maxLen:=by simp at h;unfold maxLen;omega
  simp only [go_sem,↓reduceIte,e1,e2]
theorem qH (es:List (List AV)) (h:es.length<=1000000):aD prog G cP [.ls 4 es] [] fun r T=>r=.own 0/\T=[some (.arr 4 es)]:=by
 refine aF kU (by decide) ?_
 unfold fP
 dsimp only [zj,zT,zF,zC,zE,zP,zQ,zq,zA,zm,zo,zs,zg,zh,zl,zv,zf,zi,zn,zb,zc,ze,zk,zw,zu,zt,zr,zR,zK,zN,zS,z0,zU]
 cases es with
 | nil=>simp only [go_sem,↓reduceIte,show 0<=maxLen by decide]
 | cons x a =>
  have e1:(a.length+1)*48<=140737488355328:=by simp at h;omega
  have e2:a.length+1<=maxLen:=by simp at h;unfold maxLen;omega
  simp only [go_sem,↓reduceIte,e1,e2]
theorem aXK (a:List Id) (ha:a.length<=1000000):aD prog G bB [ids a] [] fun r T=>r=ids a/\T=[]:=by
 refine (aU0 a ha).fin [0] ?_
 rintro r T' ⟨rfl,rfl⟩
 simp only [go_sem,↓reduceIte,List.length_nil]
end
end
section
def xG (o:OpM):Tab:=[some (.box [iv o.By,iv o.Seq,iv o.Kind,iv o.At,ids o.Past,iv o.Device,iv o.Old,iv o.Member,iv o.Role,.own 2,
 .v (.int .i64 o.Epoch.a),.v (.int .i64 o.Epoch.b),.v (.int .u64 o.Epoch.c),iv o.N,.ls 1 (bl o.Body),.ls 1 (ul o.Refs),.v (.int .i64 o.Of.a),.v (.int .i64 o.Of.b),.v (.int .u64 o.Of.c),nts o.Guards,
 iv o.Need,iv o.Wait,bxs o.Boxes,uv o.Pub,.own 3,uv o.SR,uv o.SS]),some (.box [AV.v (Value.int IntKind.i64 0),AV.v (Value.int IntKind.i64 0),AV.v (Value.int IntKind.i64 0),
        AV.v (Value.int IntKind.i64 0),AV.v (Value.slice none 0 0),AV.v (Value.int IntKind.i64 0),
        AV.v (Value.int IntKind.i64 0),AV.v (Value.int IntKind.i64 0),AV.v (Value.int IntKind.i64 0),
        AV.v (Value.slice none 0 0),AV.v (Value.int IntKind.i64 0),AV.v (Value.int IntKind.i64 0),
        AV.v (Value.int IntKind.u64 0),AV.v (Value.int IntKind.i64 0),AV.v (Value.slice none 0 0),
        AV.v (Value.slice none 0 0),AV.v (Value.int IntKind.i64 0),AV.v (Value.int IntKind.i64 0),
        AV.v (Value.int IntKind.u64 0),AV.v (Value.slice none 0 0),AV.v (Value.int IntKind.i64 0),
        AV.v (Value.int IntKind.i64 0),AV.v (Value.slice none 0 0),AV.v (Value.int IntKind.u64 0),
        AV.v (Value.slice none 0 0),AV.v (Value.int IntKind.u64 0),AV.v (Value.int IntKind.u64 0)]),some (.arr 2 (o.Path.map NodeM.A)),some (.arr 4 (o.Hist.map SealM.A))]
theorem aQE {α β:Type} (f:α->β) (l:List α) (i:Nat) (h:i<l.length):(l.map f).set i (f l[i])=l.map f:=by
 rw [<-List.map_set,List.set_getElem_self]
section
variable {G:Nat->Option (List AV)}
set_option maxHeartbeats 4000000
theorem aXL (o:OpM) (ho:o.ok):aD prog G nC [.ag o.A] [] fun r T=>r=.ag [iv o.By,iv o.Seq,iv o.Kind,iv o.At,ids o.Past,iv o.Device,iv o.Old,iv o.Member,iv o.Role,.own 0,
 .v (.int .i64 o.Epoch.a),.v (.int .i64 o.Epoch.b),.v (.int .u64 o.Epoch.c),iv o.N,.ls 1 (bl o.Body),.ls 1 (ul o.Refs),.v (.int .i64 o.Of.a),.v (.int .i64 o.Of.b),.v (.int .u64 o.Of.c),nts o.Guards,
 iv o.Need,iv o.Wait,bxs o.Boxes,uv o.Pub,.own 1,uv o.SR,uv o.SS]/\T=[some (.arr 2 (o.Path.map NodeM.A)),some (.arr 4 (o.Hist.map SealM.A))]:=by
 refine aF aG4 (by decide) ?_
 unfold aCQ
 dsimp only [zj,zT,zF,zC,zE,zP,zQ,zq,zA,zm,zo,zs,zg,zh,zl,zv,zf,zi,zn,zb,zc,ze,zk,zw,zu,zt,zr,zR,zK,zN,zS,z0,zU]
 have y1:=ho.past.1
 have y2:=ho.path.1
 have y3:=ho.refs.1
 have y4:=ho.guards.1
 have y5:=ho.boxes.1
 have y6:=ho.hist.1
 have y7:=ho.body.1
 simp only [go_sem,↓reduceIte,OpM.A_def]
 refine aC (aA _) rfl (aXK o.Past (by omega)) rfl ?_
 simp only [go_sem,↓reduceIte]
 refine aC (aA _) rfl (uU (bl o.Body) (by rw [List.length_map];omega)) rfl ?_
 simp only [go_sem,↓reduceIte]
 refine aC (aA _) rfl (aAp (ul o.Refs) (by rw [List.length_map];omega)) rfl ?_
 simp only [go_sem,↓reduceIte]
 refine aC (aA _) rfl (aGe (o.Guards.map fun n=>[iv n]) (by rw [List.length_map];omega)) rfl ?_
 simp only [go_sem,↓reduceIte]
 refine aC (aA _) rfl (nH (o.Boxes.map BoxM.A) (by rw [List.length_map];omega)) rfl ?_
 simp only [go_sem,↓reduceIte]
 refine bU (aA _) rfl (uV (o.Path.map NodeM.A) (by rw [List.length_map];omega)) ?_
 simp only [go_sem,↓reduceIte]
 refine bU (aA _) rfl (qH (o.Hist.map SealM.A) (by rw [List.length_map];omega)) ?_
 simp only [go_sem,↓reduceIte,List.length_map]
 refine aL o.Path.length (fun i=>⟨0,[(1,.ptr 0 0),(2,.ptr 1 0),(35,iv o.Path.length),(36,iv i)],xG o⟩) (fun _=>True) ?_ trivial ?_ ?_
 ·simp only [go_sem,↓reduceIte,xG]
 ·intro i hi _
  have ws:=aH (show i<9223372036854775807 by omega)
  have g0:(o.Path.map NodeM.A)[i]?=some [uv o.Path[i].Pub,bxs o.Path[i].Boxes]:=aX _ o.Path i hi
  have es:(o.Path.map NodeM.A).set i [uv o.Path[i].Pub,bxs o.Path[i].Boxes]=o.Path.map NodeM.A:=aQE NodeM.A o.Path i hi
  have hb:=(ho.path.2 _ (List.getElem_mem hi)).2.1
  generalize o.Path[i]=x at *
  simp only [go_sem,↓reduceIte,xG,List.length_map,bQ hi,hi,g0]
  refine aC (aA _) rfl (nH (x.Boxes.map BoxM.A) (by rw [List.length_map];omega)) rfl ?_
  simp only [go_sem,↓reduceIte,xG,List.length_map,hi,g0,es,ws]
 intro _
 simp only [go_sem,↓reduceIte,xG,List.length_map,bV (Nat.lt_irrefl _)]
 refine aL o.Hist.length (fun i=>⟨0,[(1,.ptr 0 0),(2,.ptr 1 0),(54,iv o.Hist.length),(55,iv i)],xG o⟩) (fun _=>True) ?_ trivial ?_ ?_
 ·simp only [go_sem,↓reduceIte,xG]
 ·intro i hi _
  have ws:=aH (show i<9223372036854775807 by omega)
  have g0:(o.Hist.map SealM.A)[i]?=some [.v (.int .i64 o.Hist[i].Of.a),.v (.int .i64 o.Hist[i].Of.b),.v (.int .u64 o.Hist[i].Of.c),.ls 1 (bl o.Hist[i].Body)]:=aX _ o.Hist i hi
  have es:(o.Hist.map SealM.A).set i [.v (.int .i64 o.Hist[i].Of.a),.v (.int .i64 o.Hist[i].Of.b),.v (.int .u64 o.Hist[i].Of.c),.ls 1 (bl o.Hist[i].Body)]=o.Hist.map SealM.A:=aQE SealM.A o.Hist i hi
  have hb:=(ho.hist.2 _ (List.getElem_mem hi)).2.1
  generalize o.Hist[i]=x at *
  simp only [go_sem,↓reduceIte,xG,List.length_map,bQ hi,hi,g0]
  refine aC (aA _) rfl (uU (bl x.Body) (by rw [List.length_map];omega)) rfl ?_
  simp only [go_sem,↓reduceIte,xG,List.length_map,hi,g0,es,ws]
 intro _
 simp only [go_sem,↓reduceIte,xG,List.length_map,bV (Nat.lt_irrefl _)]
theorem aZJ (o:OpM) (ho:o.ok):aD prog G nC [.ag o.A] [] fun r T=>r=.ag o.A/\T=[]:=by
 refine (aXL o ho).fin [0,1] ?_
 rintro r T' ⟨rfl,rfl⟩
 simp only [go_sem,↓reduceIte,List.length_nil,OpM.A_def]
end
end
section
structure ND where
 o:OpM
 id:Id
 W:List Nat
 lv:Int
def ND.A (n:ND):List AV:=n.o.A++(n.id.A++(uvs n.W++[iv n.lv]))
structure PGM where
 cards:List CardM
 nodes:List ND
def PGM.I (g:PGM):List Id:=g.nodes.map (·.id)
def MG (I:List Id):AObj:=.map true (I.map Id.K) ((List.range I.length).map fun i:Nat=>iv (i:Int)) (List.range I.length) I.length
def TG (k:Nat) (g:PGM):Tab:=[some (.box [.ls 5 (g.cards.map CardM.A),.mp (k+1),.own (k+2)]),some (MG g.I),some (.arr 35 (g.nodes.map ND.A))]
theorem aOU (x:Id):aIq true [.int .i64,.int .i64,.int .u64] (.ag x.A)=some x.K:=by
 simp [aIq,aPb,Id.A,yS,Id.K,eqV]
@[go_sem] theorem bCg (x:Id):yS x.A=some x.K:=by simp [Id.A,yS,Id.K]
@[go_sem] theorem bFN (x:Id):eqV [.int .i64,.int .i64,.int .u64] x.K x.K=some true:=by simp [Id.K,eqV]
theorem aIj (x:Id):∀ (I:List Id) (i:Nat),jV [.int .i64,.int .i64,.int .u64] x.K (I.map Id.K) i=some ((I.findIdx? fun y=>decide (y=x)).map (· + i))
 | [],_=>rfl
 | y::I,i=>by
  simp only [List.map_cons,jV,Id.K,eqV,and_self,if_true,Bool.and_true,List.findIdx?_cons]
  have:=aIj x I (i+1)
  simp only [Id.K] at this
  have e:(x.a==y.a&&(x.b==y.b&&x.c==y.c))=decide (y=x):=by rw [Id.beq];rw [Bool.eq_iff_iff];simp [eq_comm]
  by_cases h:y=x
  ·subst h
   simp
  ·have h2:decide (y=x)=false:=decide_eq_false h
   rw [h2] at e ⊢
   simp only [e,this,Bool.false_eq_true,if_false]
   cases I.findIdx? (fun y=>decide (y=x)) with
   | none=>rfl
   | some j=>simp;omega
theorem aLi (n j:Nat) (h:j<n):((List.range n).map fun i:Nat=>iv (i:Int))[j]?=some (iv (j:Int)):=by simp [h]
theorem aF6 {I:List Id} {x:Id} (h:x∉I):I.findIdx? (fun y=>decide (y=x))=none:=by
 rw [List.findIdx?_eq_none_iff]
 intro y hy
 exact decide_eq_false fun e=>h (e ▸ hy)
theorem aAq {I:List Id} {x:Id} (h:x∈I):∃ j,I.findIdx? (fun y=>decide (y=x))=some j/\j<I.length/\∃ hj:j<I.length,I[j]=x:=by
 cases e:I.findIdx? (fun y=>decide (y=x)) with
 | none=>exact absurd (List.findIdx?_eq_none_iff.1 e x h) (by simp)
 | some j =>
  obtain ⟨h1,h2,_⟩:=List.findIdx?_eq_some_iff_getElem.1 e
  exact ⟨j,rfl,h1,h1,of_decide_eq_true h2⟩
section
variable {G:Nat->Option (List AV)}
set_option maxHeartbeats 4000000
theorem aU1 (g:PGM) (d:Int) (hn:g.cards.length<=1000):aD prog G kD [.ptr 0 0,iv d] (TG 0 g) fun r T=>r=.tup [.ag (aV g.cards d).1.A,.v (.bool (aV g.cards d).2)]/\T=TG 0 g:=by
 refine aF aAO (by decide) ?_
 unfold uI
 dsimp only [zj,zT,zF,zC,zE,zP,zQ,zq,zA,zm,zo,zs,zg,zh,zl,zv,zf,zi,zn,zb,zc,ze,zk,zw,zu,zt,zr,zR,zK,zN,zS,z0,zU]
 simp only [go_sem,↓reduceIte,TG,MG,List.length_map,List.length_range]
 refine aL g.cards.length (fun i=>⟨3,[(1,iv d),(4,.ptr 3 0),(11,.ls 5 (g.cards.map CardM.A)),(12,iv g.cards.length),(13,iv i)],[some (.box [.ls 5 (g.cards.map CardM.A),.mp 1,.own 2]),some (MG g.I),some (.arr 35 (g.nodes.map ND.A)),some (.box [iv 0,iv 0,AV.v (.int .u64 0),AV.v (.int .u64 0),AV.v (.int .u64 0)])]⟩) (fun i=>∀ j (hj:j<g.cards.length),j<i->(g.cards[j].Device==d)=false) ?_ (by intro j hj h;omega) ?_ ?_
 ·simp only [go_sem,↓reduceIte,MG]
 ·intro i hi hJ
  have g0:(g.cards.map CardM.A)[i]?=some [iv g.cards[i].Device,iv g.cards[i].Member,uv g.cards[i].Lead,uv g.cards[i].Keep,uv g.cards[i].Sign]:=aX _ g.cards i hi
  simp only [go_sem,↓reduceIte,MG,List.length_map,bQ hi,hi,g0]
  refine bM (fun h=>?_) (fun h=>?_)<;>simp only [go_sem,↓reduceIte,MG,List.length_map,hi,g0,aH (show i<9223372036854775807 by omega)]
  ·have e:g.cards.find? (fun c=>c.Device==d)=some g.cards[i]:=List.find?_eq_some_iff_getElem.2 ⟨h,i,hi,rfl,fun j hj=>by simp [hJ j (by omega) hj]⟩
   simp only [aV,e,CardM.A_def]
  ·intro j hj hji
   rcases Nat.lt_or_ge j i with h1 | h1
   ·exact hJ j hj h1
   ·obtain rfl:j=i:=by omega
    exact h
 ·intro hJ
  have e:g.cards.find? (fun c=>c.Device==d)=none:=List.find?_eq_none.2 fun x hx=>by
   obtain ⟨j,hj,rfl⟩:=List.getElem_of_mem hx
   simp [hJ j hj hj]
  simp only [go_sem,↓reduceIte,MG,List.length_map,bV (Nat.lt_irrefl _),aV,e,CardM.A_def]
  rfl
theorem aNB (g:PGM) (x:Id):aD prog G bX [.ag x.A,.ptr 0 0] (some (.box [.ptr 1 0])::TG 1 g) fun r T=>r=.v (.bool (decide (x∈g.I)))/\T=some (.box [.ptr 1 0])::TG 1 g:=by
 refine aF xA (by decide) ?_
 unfold pX
 dsimp only [zj,zT,zF,zC,zE,zP,zQ,zq,zA,zm,zo,zs,zg,zh,zl,zv,zf,zi,zn,zb,zc,ze,zk,zw,zu,zt,zr,zR,zK,zN,zS,z0,zU]
 have hk:=aOU x
 have hf:=aIj x g.I 0
 by_cases hx:x∈g.I
 ·obtain ⟨j,h1,h2,_⟩:=aAq hx
  rw [h1] at hf
  have gv:=aLi g.I.length j h2
  simp only [Option.map_some,Nat.add_zero] at hf
  simp only [go_sem,↓reduceIte,TG,MG,hf,gv,decide_eq_true hx]
 ·rw [aF6 hx] at hf
  simp only [Option.map_none] at hf
  simp only [go_sem,↓reduceIte,TG,MG,hf,decide_eq_false hx]
end
end
end Hud
