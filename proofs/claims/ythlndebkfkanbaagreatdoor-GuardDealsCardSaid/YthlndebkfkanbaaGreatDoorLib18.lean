import Derived.Test.YthlndebkfkanbaaGreatDoorLib17
set_option linter.all false
namespace Hud
open Go
section
structure GM where
 Cards:List CardM
 L:List OpM
 I:List Id
 Up:List (List Nat)
 In:List (List Bool)
 deriving DecidableEq,Inhabited
abbrev nns (l:List Nat):AV:=.ls 1 (l.map fun n:Nat=>[iv (n:Int)])
abbrev bls (l:List Bool):AV:=.ls 1 (l.map fun b=>[AV.v (.bool b)])
def GM.A (g:GM):List AV:=[.ls 5 (g.Cards.map CardM.A),.ls 27 (g.L.map OpM.A),ids g.I,.ls 1 (g.Up.map fun l=>[nns l]),.ls 1 (g.In.map fun l=>[bls l])]
theorem GM.A_def (g:GM):g.A=[.ls 5 (g.Cards.map CardM.A),.ls 27 (g.L.map OpM.A),ids g.I,.ls 1 (g.Up.map fun l=>[nns l]),.ls 1 (g.In.map fun l=>[bls l])]:=Eq.trans rfl rfl
@[go_sem] theorem GM.g0 (g:GM):g.A[0]?=some (.ls 5 (g.Cards.map CardM.A)):=Eq.trans rfl rfl
@[go_sem] theorem GM.g1 (g:GM):g.A[1]?=some (.ls 27 (g.L.map OpM.A)):=Eq.trans rfl rfl
@[go_sem] theorem GM.g2 (g:GM):g.A[2]?=some (ids g.I):=Eq.trans rfl rfl
@[go_sem] theorem GM.g3 (g:GM):g.A[3]?=some (.ls 1 (g.Up.map fun l=>[nns l])):=Eq.trans rfl rfl
@[go_sem] theorem GM.g4 (g:GM):g.A[4]?=some (.ls 1 (g.In.map fun l=>[bls l])):=Eq.trans rfl rfl
@[go_sem] theorem GM.len (g:GM):g.A.length=5:=Eq.trans rfl rfl
@[go_sem] theorem GM.t5 (g:GM):g.A.take 5=g.A:=Eq.trans rfl rfl
@[go_sem] theorem GM.ids0 (g:GM):fI g.A=[]:=Eq.trans rfl rfl
theorem GM.one0 (g:GM):g.A.all gM=true:=by simp [GM.A,gM]
@[go_sem] theorem GM.one (g:GM):g.A.all gM=true:=GM.one0 g
@[go_sem] theorem GM.rn (L:List Nat) (g:GM):rnL L g.A=g.A:=Eq.trans rfl rfl
@[go_sem] theorem GM.bk (L:List Nat) (n:Nat) (g:GM):bkL L n g.A=g.A:=Eq.trans rfl rfl
@[go_sem] theorem GM.sl (i k:Nat) (es:List (List AV)) (g:GM):slL i k es g.A=g.A:=Eq.trans rfl rfl
structure GM.ok (g:GM):Prop where
 n:g.L.length<=1000
 cn:g.Cards.length<=1000
 cs:∀ c∈g.Cards,c.ok
 ops:∀ o∈g.L,o.ok
 i:g.I.length=g.L.length
 is:∀ x∈g.I,x.ok
 un:g.Up.length=g.L.length
 up:∀ u∈g.Up,u.length<=1000/\∀ k∈u,k<g.L.length
 inn:g.In.length=g.L.length
 ins:∀ r∈g.In,r.length=g.L.length
def lU (I:List Id) (x:Id):Int:=aCr (fun y=>decide (y=x)) I
def aV (cs:List CardM) (d:Int):CardM×Bool:=match cs.find? (fun c=>c.Device==d) with | some c=>(c,true) | none=>(default,false)
def aNf (Up:List (List Nat)) (up:List Nat) (a:List Bool) (i:Nat):List Bool :=
 if (if decide (i∈up) then a.set i true else a).getD i false then (Up.getD i []).foldl (fun b k=>b.set k true) (if decide (i∈up) then a.set i true else a) else (if decide (i∈up) then a.set i true else a)
def aQm (Up:List (List Nat)) (up:List Nat):Nat->List Bool->List Bool
 | 0,a=>a
 | i+1,a=>aQm Up up i (aNf Up up a i)
def pY (g:GM) (up:List Nat):List Bool:=aQm g.Up up g.L.length (List.replicate g.L.length false)
def aZn (o:OpM) (e:OpM×Bool):Bool:=e.2&&e.1.By==o.By
def aSd (L:List OpM) (o:OpM) (inn:List Bool):Bool :=
 (L.zip inn).all (fun e=>!(aZn o e)||decide (e.1.Seq<o.Seq))&&((o.Seq==1)||(L.zip inn).any fun e=>aZn o e&&e.1.Seq==o.Seq-1)
def aVf (I:List Id) (l:List Id):Option (List Nat):=if l.all (fun x=>decide (0<=lU I x)) then some (l.map fun x=>(lU I x).toNat) else none
def aSe (g:GM) (o:OpM) (up:List Nat):Bool:=up.all fun i=>(up.all fun k=>!((g.In.getD i []).getD k false))&&!decide (o.At<(g.L.getD i default).At)
@[go_sem] theorem OpM.e1 (o:OpM):(o.A.drop 1)[0]?=some (iv o.Seq):=Eq.trans rfl rfl
@[go_sem] theorem OpM.e2 (o:OpM):(o.A.drop 2)[0]?=some (iv o.Kind):=Eq.trans rfl rfl
@[go_sem] theorem OpM.e3 (o:OpM):(o.A.drop 3)[0]?=some (iv o.At):=Eq.trans rfl rfl
@[go_sem] theorem OpM.e4 (o:OpM):(o.A.drop 4)[0]?=some (ids o.Past):=Eq.trans rfl rfl
@[go_sem] theorem OpM.e5 (o:OpM):(o.A.drop 5)[0]?=some (iv o.Device):=Eq.trans rfl rfl
@[go_sem] theorem OpM.e6 (o:OpM):(o.A.drop 6)[0]?=some (iv o.Old):=Eq.trans rfl rfl
@[go_sem] theorem OpM.e7 (o:OpM):(o.A.drop 7)[0]?=some (iv o.Member):=Eq.trans rfl rfl
@[go_sem] theorem OpM.e8 (o:OpM):(o.A.drop 8)[0]?=some (iv o.Role):=Eq.trans rfl rfl
@[go_sem] theorem OpM.e9 (o:OpM):(o.A.drop 9)[0]?=some (.ls 2 (o.Path.map NodeM.A)):=Eq.trans rfl rfl
@[go_sem] theorem OpM.e13 (o:OpM):(o.A.drop 13)[0]?=some (iv o.N):=Eq.trans rfl rfl
@[go_sem] theorem OpM.e14 (o:OpM):(o.A.drop 14)[0]?=some (.ls 1 (bl o.Body)):=Eq.trans rfl rfl
@[go_sem] theorem OpM.e15 (o:OpM):(o.A.drop 15)[0]?=some (.ls 1 (ul o.Refs)):=Eq.trans rfl rfl
@[go_sem] theorem OpM.e19 (o:OpM):(o.A.drop 19)[0]?=some (nts o.Guards):=Eq.trans rfl rfl
@[go_sem] theorem OpM.e20 (o:OpM):(o.A.drop 20)[0]?=some (iv o.Need):=Eq.trans rfl rfl
@[go_sem] theorem OpM.e21 (o:OpM):(o.A.drop 21)[0]?=some (iv o.Wait):=Eq.trans rfl rfl
@[go_sem] theorem OpM.e22 (o:OpM):(o.A.drop 22)[0]?=some (bxs o.Boxes):=Eq.trans rfl rfl
@[go_sem] theorem OpM.e23 (o:OpM):(o.A.drop 23)[0]?=some (uv o.Pub):=Eq.trans rfl rfl
@[go_sem] theorem OpM.e24 (o:OpM):(o.A.drop 24)[0]?=some (.ls 4 (o.Hist.map SealM.A)):=Eq.trans rfl rfl
@[go_sem] theorem OpM.e25 (o:OpM):(o.A.drop 25)[0]?=some (uv o.SR):=Eq.trans rfl rfl
@[go_sem] theorem OpM.e26 (o:OpM):(o.A.drop 26)[0]?=some (uv o.SS):=Eq.trans rfl rfl
end
section
open Go.Proofs.Tryz
section
variable {G:Nat->Option (List AV)}
set_option maxHeartbeats 2000000
theorem nM (n lo hi:Int):aD prog G aQ [iv n,iv lo,iv hi] [] fun r T=>r=.v (.bool (inM n lo hi))/\T=[]:=by
 refine aF aRW (by decide) ?_
 unfold aTA inM
 dsimp only [zj,zT,zF,zC,zE,zP,zQ,zq,zA,zm,zo,zs,zg,zh,zl,zv,zf,zi,zn,zb,zc,ze,zk,zw,zu,zt,zr,zR,zK,zN,zS,z0,zU]
 cases h:decide (lo<=n)<;>simp only [go_sem,↓reduceIte,ge_iff_le,h,Bool.true_and,Bool.false_and]
theorem wF (n:Nat):aD prog G fG [uv n] [] fun r T=>r=.v (.bool (aFU n))/\T=[]:=by
 refine aF aKo (by decide) ?_
 unfold aH9 aFU
 dsimp only [zj,zT,zF,zC,zE,zP,zQ,zq,zA,zm,zo,zs,zg,zh,zl,zv,zf,zi,zn,zb,zc,ze,zk,zw,zu,zt,zr,zR,zK,zN,zS,z0,zU]
 cases h:decide ((1:Int)<=(n:Int))<;>simp only [go_sem,↓reduceIte,ge_iff_le,h,Bool.true_and,Bool.false_and]
theorem aIf (n:Int):aD prog G aA2 [.v (.int .u64 n)] [] fun r T=>r=.v (.bool (okM n))/\T=[]:=by
 refine aF aRX (by decide) ?_
 unfold aTB okM
 dsimp only [zj,zT,zF,zC,zE,zP,zQ,zq,zA,zm,zo,zs,zg,zh,zl,zv,zf,zi,zn,zb,zc,ze,zk,zw,zu,zt,zr,zR,zK,zN,zS,z0,zU]
 simp only [go_sem,↓reduceIte]
theorem aAm (x:Id):aD prog G cI [.ag x.A] [] fun r T=>r=.v (.bool (jM x))/\T=[]:=by
 refine aF aM1 (by decide) ?_
 unfold aKn jM
 dsimp only [zj,zT,zF,zC,zE,zP,zQ,zq,zA,zm,zo,zs,zg,zh,zl,zv,zf,zi,zn,zb,zc,ze,zk,zw,zu,zt,zr,zR,zK,zN,zS,z0,zU]
 simp only [go_sem,↓reduceIte,Id.A_def]
 refine aC (aA _) rfl (nM x.a 1 12) rfl ?_
 cases h1:inM x.a 1 12
 ·simp only [go_sem,↓reduceIte,Bool.false_and]
 simp only [go_sem,↓reduceIte]
 refine aC (aA _) rfl (nM x.b 1 2147483647) rfl ?_
 cases h2:inM x.b 1 2147483647
 ·simp only [go_sem,↓reduceIte,Bool.false_and,Bool.true_and]
 simp only [go_sem,↓reduceIte]
 refine aC (aA _) rfl (aIf x.c) rfl ?_
 simp only [go_sem,↓reduceIte,Bool.true_and]
theorem aKL (b:BoxM):aD prog G qD [.ag b.A] [] fun r T=>r=.v (.bool (wY b))/\T=[]:=by
 refine aF aM2 (by decide) ?_
 unfold aKp wY BoxM.A
 dsimp only [zj,zT,zF,zC,zE,zP,zQ,zq,zA,zm,zo,zs,zg,zh,zl,zv,zf,zi,zn,zb,zc,ze,zk,zw,zu,zt,zr,zR,zK,zN,zS,z0,zU]
 simp only [go_sem,↓reduceIte]
 refine aC (aA _) rfl (wF b.To) rfl ?_
 cases h1:aFU b.To
 ·simp only [go_sem,↓reduceIte,Bool.false_and]
 simp only [go_sem,↓reduceIte]
 refine aC (aA _) rfl (wF b.Eph) rfl ?_
 cases h2:aFU b.Eph
 ·simp only [go_sem,↓reduceIte,Bool.false_and,Bool.true_and]
 simp only [go_sem,↓reduceIte]
 refine aC (aA _) rfl (aIf (b.Body:Int)) rfl ?_
 cases h3:okM (b.Body:Int)
 ·simp only [go_sem,↓reduceIte,Bool.false_and,Bool.true_and]
 simp only [go_sem,↓reduceIte]
 refine aC (aA _) rfl (aIf (b.Tag:Int)) rfl ?_
 simp only [go_sem,↓reduceIte,Bool.true_and]
end
end
section
section
variable {G:Nat->Option (List AV)}
set_option maxHeartbeats 4000000
def bDf (o:OpM):Bool:=o.Kind==7||o.Kind==8||o.Kind==12||o.Kind==10||o.Kind==11||o.Kind==13
end
end
section
open Go.Proofs.Tryz
def aHi:HFun:=⟨18,[(4,none)],zQ (zr [zo 3 (.box (zt 1)),zo 4 (.mov zF)] [1,4]) (zQ (zE [zk 5 0] (zP 0 (zQ (zQ (zr [zm 6 5,zm 7 0,zn 8 7,zb 9 .lss 6 8] [8,7,6]) (zC 9 (zK [9] .skip) (zK [0,5,3,9] (.exit 0)))) (zQ (.block 1 (zQ (zR (zq (zm 12 0) (zq (zm 13 5) (zq (zi 14 12 13 3) (zq (zv 15 3 14) (zq (zv 16 3 3) (zq (zo 17 (.eqa false [.int .i64,.int .i64,.int .u64] (zt 15) (zt 16))) (.done false))))))) [16,15,14,13,12]) (zC 17 (zK [5,3,0,17] (zE [zo 4 (.mov zT)] .ret)) (zK [17] .skip)))) (zr [zm 10 5,zj 11 .add 10 1,zm 5 11] [11,10]))))) (zE [zo 4 (.mov zF)] .ret))⟩
theorem aKM:aB prog rA []=some aHi:=by kernel_rfl
def aNg:HFun:=⟨23,[(4,none)],zQ (zr [zo 2 (.box (zt 0)),zo 3 (.box (zt 1)),zo 4 (.mov zF)] [0,1,4]) (zQ (zR (zq (zf 5 2 0) (zq (zl 6 5) (zq (zf 7 3 0) (zq (zl 8 7) (zq (zf 10 2 1) (zq (zl 11 10) (zq (zf 12 3 1) (zq (zl 13 12) (zq (zf 15 2 2) (zq (zl 16 15) (zq (zf 17 3 2) (zq (zl 18 17) (zA (zc 9 lB [zt 6,zt 8]) [zl 18 17,zf 17 3 2,zl 16 15,zf 15 2 2,zl 13 12,zf 12 3 1,zl 11 10,zf 10 2 1] (zA (zc 14 lB [zt 11,zt 13]) [zl 18 17,zf 17 3 2,zl 16 15,zf 15 2 2] (zA (zc 19 lQ [zt 16,zt 18]) [] (zA (zo 20 (.bsl 1 [z0,z0,z0] [(0,(1,zt 9)),(1,(1,zt 14)),(2,(1,zt 19))] 3)) [] (zA (zc 21 aA0 [zt 20]) [] (zq (zj 22 .lss 21 0) (zq (zm 4 22) (.done false))) .no) .no) .no) .no) .no))))))))))))) [2,3,22,21,20,19,18,17,16,15,14,13,12,11,10,9,8,7,6,5]) .ret)⟩
theorem aOC:aB prog aFB []=some aNg:=by kernel_rfl
def aEV:HFun:=⟨48,[(2,none)],zQ (zr [zN 2] [2]) (zQ (zE [zN 3] (.own 3 none 3)) (zQ (zE [zk 4 0] (zP 0 (zQ (zQ (zr [zm 7 4,zm 8 0,zn 9 8,zb 10 .lss 7 9] [9,8,7]) (zC 10 (zK [10] .skip) (zK [4,0,10] (.exit 0)))) (zQ (.block 1 (zQ (zr [zm 13 3,zn 14 13,zm 5 14] [14,13]) (zQ (zP 2 (zQ (zQ (zr [zm 15 5,zj 16 .gtr 15 0] [15]) (zC 16 (zK [16] .skip) (zK [16] (.exit 2)))) (.block 3 (zQ (zQ (zR (zq (zm 17 0) (zq (zm 18 4) (zq (zi 19 17 18 3) (zq (zv 20 3 19) (zq (zm 21 3) (zq (zm 22 5) (zq (zj 23 .sub 22 1) (zq (zi 24 21 23 3) (zq (zv 25 3 24) (zA (zc 26 tS [zt 20,zt 25]) [] (zq (zo 27 (.un .not (zt 26))) (.done false)) .no)))))))))) [26,25,24,23,22,21,20,19,18,17]) (zC 27 (zK [27] (.exit 2)) (zK [27] .skip))) (zr [zm 28 5,zj 29 .sub 28 1,zm 5 29] [29,28]))))) (zQ (zE [zN 6] (.own 6 none 3)) (zQ (zQ (zr [zm 30 6,zm 31 3,zm 32 5,zo 33 (.slc (zt 31) none (some (zt 32)) 3),zo 34 (.app (zt 30) (zt 33) 3 24),zm 6 34] [34,33,32,31,30]) (.own 6 none 3)) (zQ (zQ (zr [zm 35 6,zm 36 0,zm 37 4,zi 38 36 37 3,zv 39 3 38,zo 40 (.bsl 3 [z0,z0,zU] [(0,(3,zt 39))] 1),zo 41 (.app (zt 35) (zt 40) 3 24),zm 6 41] [41,40,39,38,37,36,35]) (.own 6 none 3)) (zQ (zr [zm 42 6,zm 43 3,zm 44 5,zo 45 (.slc (zt 43) (some (zt 44)) none 3),zo 46 (.app (zt 42) (zt 45) 3 24),zm 3 46] [6,5,46,45,44,43,42]) (.own 3 none 3)))))))) (zr [zm 11 4,zj 12 .add 11 1,zm 4 12] [12,11]))))) (zQ (zQ (zr [zm 47 3,zm 2 47] [3,47]) (.own 2 none 3)) .ret)))⟩
theorem aHK:aB prog kB [(2,none,3),(3,none,3),(6,none,3)]=some aEV:=by kernel_rfl
def aEW:HFun:=⟨18,[(2,none)],zQ (zr [zk 2 0] [2]) (zE [zk 3 0] (zQ (zQ (zr [zm 6 0,zn 7 6,zk 8 0] [0]) (zP 0 (zE [zb 9 .lss 8 7] (zQ (zC 9 (zK [9] .skip) (zK [6,8,7,9] (.exit 0))) (zQ (.block 1 (zQ (zr [zi 10 6 8 1,zl 11 10,zm 5 11] [11,10]) (zQ (zr [zm 12 5,zm 13 3,zb 14 .neq 12 13] [13,12]) (zC 14 (zK [8,3,6,7,14] (zQ (zr [zm 15 5,zm 2 15] [5,15]) .ret)) (zK [5,14] .skip))))) (zr [zj 16 .add 8 1,zm 8 16] [16])))))) (zQ (zr [zm 17 3,zm 2 17] [3,17]) .ret)))⟩
theorem aHL:aB prog aA0 []=some aEW:=by kernel_rfl
def wG:HFun:=⟨20,[(4,none)],zQ (zr [zk 4 0] [4]) (zQ (zr [zm 7 0,zc 8 fT [zt 7],zm 5 8] [8,7]) (zQ (zr [zm 9 1,zc 10 fT [zt 9],zm 6 10] [10,9]) (zQ (zQ (zr [zm 11 5] [5]) (zC 11 (zK [0,1,11] (zQ (zQ (zr [zm 12 6] [6]) (zC 12 (zK [12] (zE [zk 4 0] .ret)) (zK [12] .skip))) (zE [zk 4 (-1)] .ret))) (zK [11] .skip))) (zQ (zQ (zr [zm 13 6] [6]) (zC 13 (zK [0,1,13] (zE [zk 4 1] .ret)) (zK [13] .skip))) (zQ (zQ (zr [zm 14 0,zm 15 1,zb 16 .lss 14 15] [15,14]) (zC 16 (zK [0,1,16] (zE [zk 4 (-1)] .ret)) (zK [16] .skip))) (zQ (zQ (zr [zm 17 0,zm 18 1,zb 19 .gtr 17 18] [0,1,18,17]) (zC 19 (zK [19] (zE [zk 4 1] .ret)) (zK [19] .skip))) (zE [zk 4 0] .ret)))))))⟩
theorem aBJ:aB prog lB []=some wG:=by kernel_rfl
def rO:HFun:=⟨20,[(4,none)],zQ (zr [zk 4 0] [4]) (zQ (zr [zm 7 0,zc 8 kG [zt 7],zm 5 8] [8,7]) (zQ (zr [zm 9 1,zc 10 kG [zt 9],zm 6 10] [10,9]) (zQ (zQ (zr [zm 11 5] [5]) (zC 11 (zK [0,1,11] (zQ (zQ (zr [zm 12 6] [6]) (zC 12 (zK [12] (zE [zk 4 0] .ret)) (zK [12] .skip))) (zE [zk 4 (-1)] .ret))) (zK [11] .skip))) (zQ (zQ (zr [zm 13 6] [6]) (zC 13 (zK [0,1,13] (zE [zk 4 1] .ret)) (zK [13] .skip))) (zQ (zQ (zr [zm 14 0,zm 15 1,zb 16 .lss 14 15] [15,14]) (zC 16 (zK [0,1,16] (zE [zk 4 (-1)] .ret)) (zK [16] .skip))) (zQ (zQ (zr [zm 17 0,zm 18 1,zb 19 .gtr 17 18] [0,1,18,17]) (zC 19 (zK [19] (zE [zk 4 1] .ret)) (zK [19] .skip))) (zE [zk 4 0] .ret)))))))⟩
theorem yI:aB prog lQ []=some rO:=by kernel_rfl
def aKN:HFun:=⟨30,[(4,none)],zQ (zr [zo 2 (.box (zt 0)),zo 3 (.box (zt 1)),zo 4 (.mov zF)] [0,1,4]) (zQ (zQ (zr [zf 5 2 0,zl 6 5,zf 7 3 0,zl 8 7,zb 9 .neq 6 8] [8,7,6,5]) (zC 9 (zK [9] (zQ (zr [zf 10 2 0,zl 11 10,zf 12 3 0,zl 13 12,zb 14 .lss 11 13,zm 4 14] [2,3,14,13,12,11,10]) .ret)) (zK [9] .skip))) (zQ (zQ (zr [zf 15 2 1,zl 16 15,zf 17 3 1,zl 18 17,zb 19 .neq 16 18] [18,17,16,15]) (zC 19 (zK [19] (zQ (zr [zf 20 2 1,zl 21 20,zf 22 3 1,zl 23 22,zb 24 .lss 21 23,zm 4 24] [2,3,24,23,22,21,20]) .ret)) (zK [19] .skip))) (zQ (zr [zf 25 2 2,zl 26 25,zf 27 3 2,zl 28 27,zb 29 .lss 26 28,zm 4 29] [2,3,29,28,27,26,25]) .ret)))⟩
theorem aM6:aB prog tS []=some aKN:=by kernel_rfl
end
section
open Go.Proofs.Tryz
def sC:HFun:=⟨6,[(2,none)],zQ (zr [zo 2 (.mov zF)] [2]) (zQ (zr [zm 3 0,zm 4 0,zb 5 .neq 3 4,zm 2 5] [0,5,4,3]) .ret)⟩
theorem uO:aB prog fT []=some sC:=by kernel_rfl
end
end Hud
