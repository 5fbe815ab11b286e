import Derived.Test.YthlndebkfkanbaaGreatDoorLib12
set_option linter.all false
namespace Hud
open Go
section
open Go.Proofs.Tryz
def aJK:HFun:=⟨16,[(4,none)],zQ (zr [zo 2 (.box (zt 0)),zo 4 (.mov (.const (.pointer none)))] [0,4]) (zQ (zr [zm 7 1,zo 8 (.app (.const (zS)) (zt 7) 1 8),zo 5 (.alloc [zS]),zs (.st 1 (zt 5) (zt 8))] [1,8,7]) (zQ (zr [zo 9 (.bld [.nilFunc,z0] []),zo 10 (.box (zt 9)),zo 6 (.alloc [.pointer none]),zs (.st 1 (zt 6) (zt 10))] [10,9]) (zQ (zr [zl 11 6,zo 12 (.clo oU [zt 6,zt 5,zt 2]),zo 13 (.nilc (zt 11)),zf 14 13 0,zs (.st 1 (zt 14) (zt 12))] [5,2,14,13,12,11]) (zQ (zr [zl 15 6,zm 4 15] [6,15]) .ret))))⟩
theorem aLL:aB prog kA []=some aJK:=by kernel_rfl
def aGM:HFun:=⟨53,[(4,none)],zQ (zr [zN 4] [4]) (zQ (zQ (zr [zm 11 0,zn 12 11,zm 13 1,zn 14 13,zb 15 .neq 12 14] [14,13,12,11]) (zC 15 (zK [0,1,15] (zE [zN 4] .ret)) (zK [15] .skip))) (zE [zN 5] (zQ (zQ (zr [zo 16 (.bsl 1 [zU] [(0,(1,zu 1))] 1),zm 6 16] [16]) (.shut 6)) (zQ (zQ (zr [zm 17 0,zn 18 17,zk 19 0] [0]) (zP 0 (zE [zb 20 .lss 19 18] (zQ (zC 20 (zK [20] .skip) (zK [19,17,1,18,6,20] (.exit 0))) (zQ (.block 1 (zQ (zr [zm 21 19,zi 22 17 19 1,zl 23 22,zm 7 21,zm 8 23] [23,22,21]) (zQ (zr [zm 24 6,zm 25 8,zc 26 nX [zt 24,zt 25],zm 9 26] [26,25,24]) (zQ (zQ (zr [zm 27 9,zo 28 (.bin .eql (zt 27) (zu 0))] [27]) (zC 28 (zK [1,7,5,8,9,18,17,19,6,28] (zE [zN 4] .ret)) (zK [28] .skip))) (zQ (zR (zq (zm 29 1) (zq (zm 30 7) (zq (zi 31 29 30 1) (zq (zl 32 31) (zq (zm 33 5) (zq (zm 34 8) (zq (zm 37 9) (zA (zc 35 nX [zt 33,zt 34]) [zm 37 9,zl 32 31,zi 31 29 30 1,zm 30 7,zm 29 1] (zA (zc 36 rB [zt 32,zt 35]) [zm 37 9] (zA (zc 38 aB3 [zt 37]) [] (zA (zc 39 gG [zt 36,zt 38]) [] (zq (zm 10 39) (.done false)) .no) .no) .no) .no)))))))) [7,9,39,38,37,36,35,34,33,32,31,30,29]) (zQ (zQ (zQ (zE [zm 40 5,zm 41 6,zm 42 10,zo 43 (.bsl 1 [zU] [(0,(1,zt 42))] 1)] (.shut 43)) (.reg [zc 44 tQ [zt 41,zt 43],zc 45 zH [zt 40,zt 44],zm 5 45])) (.kill [10,45,44,43,42,41,40])) (zQ (zQ (zQ (zE [zm 46 6,zm 47 8,zc 48 aB4 [zt 47],zo 49 (.bsl 1 [zU,zU] [(0,(1,zt 48)),(1,(1,zu 1))] 2)] (.shut 49)) (.reg [zc 50 tQ [zt 46,zt 49],zm 6 50])) (.kill [8,50,49,48,47,46])) (.shut 6)))))))) (zr [zj 51 .add 19 1,zm 19 51] [51])))))) (zQ (zr [zm 52 5,zm 4 52] [5,52]) .ret)))))⟩
theorem aJL:aB prog vD [(6,none,0),(43,none,1000),(49,none,1000)]=some aGM:=by kernel_rfl
def aCD:HFun:=⟨33,[(6,none)],zQ (zr [zN 6] [6]) (zQ (zr [zm 10 0,zo 11 (.bsl 1 [zU] [(0,(1,zt 10))] 1),zm 12 1,zo 13 (.app (zt 11) (zt 12) 1 8),zm 7 13] [0,1,13,12,11,10]) (zQ (zE [zN 8] (.own 8 none 2)) (zQ (zE [zo 9 (.mov (zu 1))] (zP 0 (zQ (zQ (zr [zm 14 2,zj 15 .gtr 14 0,zm 16 15,zh 17 9 16 true,zh 18 2 16 true,zg 19 (.conv .u64 (zt 18)) 16 true,zg 20 (.bin .leq (zt 17) (zt 19)) 16 true,zo 21 (.pick (zt 16) (zt 20) zF)] [20,19,18,17,16,15,14]) (zC 21 (zK [21] .skip) (zK [9,7,2,21] (.exit 0)))) (zQ (.block 1 (zQ (zr [zm 24 8,zm 25 9,zm 26 7,zm 27 9,zc 28 nX [zt 26,zt 27],zo 29 (.bld [zU,zU] [(0,(1,zt 25)),(1,(1,zt 28))]),zo 30 (.bsl 2 [zU,zU] [(0,(2,zt 29))] 1),zo 31 (.app (zt 24) (zt 30) 2 16),zm 8 31] [31,30,29,28,27,26,25,24]) (.own 8 none 2))) (zr [zm 22 9,zo 23 (.bin .add (zt 22) (zu 1)),zm 9 23] [23,22]))))) (zQ (zQ (zr [zm 32 8,zm 6 32] [8,32]) (.own 6 none 2)) .ret))))⟩
theorem aFR:aB prog mY [(6,none,2),(8,none,2)]=some aCD:=by kernel_rfl
def vU:HFun:=⟨7,[(2,none)],zQ (zr [zk 2 0] [2]) (zQ (zr [zm 3 0,zo 4 (.nilc (zt 3)),zf 5 4 1,zl 6 5,zm 2 6] [0,6,5,4,3]) .ret)⟩
theorem aBs:aB prog kZ []=some vU:=by kernel_rfl
def aGN:HFun:=⟨23,[(4,some (some 2)),(5,none)],zQ (zr [zo 2 (.box (zt 0)),zo 3 (.box (zt 1)),zo 4 (.alloc [zU,zU]),zk 5 0] [0,1,5]) (zQ (zQ (zR (zq (zf 6 2 0) (zq (zl 7 6) (zq (zf 9 3 0) (zq (zl 10 9) (zA (zc 8 aZ [zt 7]) [zl 10 9,zf 9 3 0] (zA (zc 11 aZ [zt 10]) [] (zq (zb 12 .neq 8 11) (.done false)) .no) .no))))) [11,10,9,8,7,6]) (zC 12 (zK [2,3,12] (zQ (zr [zo 13 (.bld [zU,zU] []),zs (.st 2 (zt 4) (zt 13)),zk 5 29] [13]) .ret)) (zK [12] .skip))) (zQ (zR (zq (zf 14 2 0) (zq (zl 15 14) (zq (zf 17 2 1) (zq (zl 18 17) (zq (zf 19 3 1) (zq (zl 20 19) (zA (zc 16 aZ [zt 15]) [zl 20 19,zf 19 3 1,zl 18 17,zf 17 2 1] (zA (zc 21 iO [zt 18,zt 20]) [] (zq (zo 22 (.bld [zU,zU] [(0,(1,zt 16)),(1,(1,zt 21))])) (zA (zs (.st 2 (zt 4) (zt 22))) [] (zq (zk 5 0) (.done false)) .no)) .no) .no))))))) [2,3,22,21,20,19,18,17,16,15,14]) .ret))⟩
theorem aJM:aB prog vE []=some aGN:=by kernel_rfl
def aEA:HFun:=⟨8,[(2,none),(3,none)],zQ (zr [zo 2 (.mov (zu 0)),zk 3 0] [3,2]) (zQ (zr [zm 4 0,zc 5 aDb [zt 4,zu 0],ze 6 5 0,ze 7 5 1,zm 2 6,zm 3 7] [0,7,6,5,4]) .ret)⟩
theorem aHw:aB prog dW []=some aEA:=by kernel_rfl
def aEB:HFun:=⟨40,[(3,none)],zQ (zr [zo 3 (.mov (zu 0))] [3]) (zQ (zr [zl 4 0,zo 5 (.nilc (zt 4)),zf 6 5 1,zl 7 6,zj 8 .add 7 1,zo 9 (.nilc (zt 4)),zf 10 9 1,zs (.st 1 (zt 10) (zt 8))] [10,9,8,7,6,5,4]) (zQ (zQ (zR (zq (zl 11 0) (zq (zo 12 (.nilc (zt 11))) (zq (zf 13 12 1) (zq (zl 14 13) (zq (zl 15 1) (zq (zn 16 15) (zq (zb 17 .leq 14 16) (.done false)))))))) [16,15,14,13,12,11]) (zC 17 (zK [2,17] (zQ (zR (zq (zl 18 1) (zq (zl 19 0) (zq (zo 20 (.nilc (zt 19))) (zq (zf 21 20 1) (zq (zl 22 21) (zq (zj 23 .sub 22 1) (zq (zi 24 18 23 1) (zq (zl 25 24) (zq (zo 26 (.bin .rem (zt 25) (zu 2305843009213693949))) (zq (zo 27 (.bin .add (zu 1) (zt 26))) (zq (zm 3 27) (.done false)))))))))))) [1,0,27,26,25,24,23,22,21,20,19,18]) .ret)) (zK [17] .skip))) (zQ (zR (zq (zl 28 2) (zq (zo 29 (.bin .rem (zt 28) (zu 2305843009213693951))) (zq (zl 30 0) (zq (zo 31 (.nilc (zt 30))) (zq (zf 32 31 1) (zq (zl 33 32) (zq (zl 34 1) (zq (zn 35 34) (zq (zb 36 .sub 33 35) (zq (zo 37 (.conv .u64 (zt 36))) (zA (zo 38 (.bsl 1 [zU,zU] [(0,(1,zt 29)),(1,(1,zt 37))] 2)) [] (zA (zc 39 wR [.const (.string (Hud.bs [100,114,97,119])),zt 38]) [] (zq (zm 3 39) (.done false)) .no) .no))))))))))) [2,0,1,39,38,37,36,35,34,33,32,31,30,29,28]) .ret)))⟩
theorem aHx:aB prog oU []=some aEB:=by kernel_rfl
def aCE:HFun:=⟨10,[(4,none)],zQ (zr [zo 4 (.mov (zu 0))] [4]) (zQ (zr [zm 5 0,zm 6 1,zc 7 kQ [zt 5,zt 6],zo 8 (.bin .rem (zt 7) (zu 2305843009213693949)),zo 9 (.bin .add (zu 1) (zt 8)),zm 4 9] [0,1,9,8,7,6,5]) .ret)⟩
theorem aFS:aB prog wR []=some aCE:=by kernel_rfl
def aJN:HFun:=⟨28,[(4,none),(5,none)],zQ (zr [zo 3 (.box (zt 1)),zo 4 (.mov (zu 0)),zk 5 0] [1,5,4]) (zQ (zQ (zR (zq (zf 7 3 0) (zq (zl 8 7) (zq (zm 9 0) (zA (zc 10 aC4 [zt 9]) [zl 8 7,zf 7 3 0] (zq (zb 11 .neq 8 10) (.done false)) .no)))) [10,9,8,7]) (zC 11 (zK [3,0,11] (zE [zo 4 (.mov (zu 0)),zk 5 20] .ret)) (zK [11] .skip))) (zQ (zr [zf 12 3 1,zl 13 12,zm 14 0,zc 15 iP [zt 13,zt 14],zm 6 15] [0,15,14,13,12]) (zQ (zQ (zR (zq (zm 16 6) (zq (zv 18 4 3) (zq (zv 20 4 3) (zA (zc 17 zJ [zt 16]) [zv 20 4 3,zv 18 4 3] (zA (zo 19 (.call (zt 17) [zt 18])) [zv 20 4 3] (zq (zo 21 (.eqa true [.int .u64,.int .u64,.int .u64,.int .u64] (zt 19) (zt 20))) (.done false)) .no) .no)))) [20,19,18,17,16]) (zC 21 (zK [3,6,21] (zE [zo 4 (.mov (zu 0)),zk 5 21] .ret)) (zK [21] .skip))) (zQ (zR (zq (zf 22 3 2) (zq (zl 23 22) (zq (zm 24 6) (zA (zo 25 (.bsl 1 [zU] [(0,(1,zt 24))] 1)) [zl 23 22,zf 22 3 2] (zA (zc 26 kQ [.const (.string (Hud.bs [109,97,115,107])),zt 25]) [zl 23 22,zf 22 3 2] (zA (zc 27 rB [zt 23,zt 26]) [] (zq (zm 4 27) (zq (zk 5 0) (.done false))) .no) .no) .no)))) [3,6,27,26,25,24,23,22]) .ret))))⟩
theorem aLM:aB prog aD9 []=some aJN:=by kernel_rfl
def aGO:HFun:=⟨18,[(4,none)],zQ (zr [zo 3 (.box (zt 1)),zo 4 (.mov (zu 0))] [1]) (zE [zo 5 (.alloc [zU]),zs (.st 1 (zt 5) (zu 0))] (zQ (zQ (zr [zm 8 0,zc 9 dX [zt 8]] [0,8]) (.block 0 (.rng (zt 9) [10,11] [5,3] (zr [zm 7 11] [11]) (.block 1 (zr [zl 12 5,zl 13 3,zc 14 gG [zt 12,zt 13],zm 15 7,zc 16 iO [zt 14,zt 15],zs (.st 1 (zt 5) (zt 16))] [5,3,7,16,15,14,13,12]))))) (zQ (zr [zl 17 5,zm 4 17] [5,17]) .ret)))⟩
theorem aJO:aB prog nX []=some aGO:=by kernel_rfl
def aJP:HFun:=⟨40,[(4,none),(5,none)],zQ (zr [zo 4 (.mov (zu 0)),zk 5 0] [5,4]) (zQ (zQ (zr [zm 10 0,zn 11 10,zj 12 .eql 11 0,zm 13 12,zh 14 0 13 false,zg 15 (.call (.func wT) [zt 14]) 13 false,zg 16 (.un .not (zt 15)) 13 false,zo 17 (.pick (zt 13) zT (zt 16))] [16,15,14,13,12,11,10]) (zC 17 (zK [1,0,17] (zE [zo 4 (.mov (zu 0)),zk 5 29] .ret)) (zK [17] .skip))) (zQ (zQ (zE [zN 6,zN 7] (.own 6 none 1)) (.own 7 none 1)) (zQ (zQ (zr [zm 18 0,zn 19 18,zk 20 0] [0]) (zP 0 (zE [zb 21 .lss 20 19] (zQ (zC 21 (zK [21] .skip) (zK [18,20,19,21] (.exit 0))) (zQ (.block 1 (zQ (zr [zi 22 18 20 2,zv 23 2 22,zo 9 (.alloc [zU,zU]),zs (.st 2 (zt 9) (zt 23))] [23,22]) (zQ (zQ (zR (zq (zm 24 6) (zq (zf 25 9 0) (zq (zl 26 25) (zq (zm 29 7) (zq (zf 30 9 1) (zq (zl 31 30) (zA (zo 27 (.bsl 1 [zU] [(0,(1,zt 26))] 1)) [zl 31 30,zf 30 9 1,zm 29 7,zm 24 6] (zA (zo 28 (.app (zt 24) (zt 27) 1 8)) [zl 31 30,zf 30 9 1,zm 29 7] (zA (zo 32 (.bsl 1 [zU] [(0,(1,zt 31))] 1)) [zm 29 7] (zA (zo 33 (.app (zt 29) (zt 32) 1 8)) [] (zA (zm 6 28) [] (zA (zm 7 33) [] (.done true) .no) .no) .no) .no) (zA (zo 32 (.bsl 1 [zU] [(0,(1,zt 31))] 1)) [zm 29 7,zm 24 6] (zA (zo 28 (.app (zt 24) (zt 27) 1 8)) [zm 29 7] (zA (zo 33 (.app (zt 29) (zt 32) 1 8)) [] (zA (zm 6 28) [] (zA (zm 7 33) [] (.done true) .no) .no) .no) .no) .no)) (zA (zo 32 (.bsl 1 [zU] [(0,(1,zt 31))] 1)) [zm 29 7,zl 26 25,zf 25 9 0,zm 24 6] (zA (zo 27 (.bsl 1 [zU] [(0,(1,zt 26))] 1)) [zm 29 7,zm 24 6] (zA (zo 28 (.app (zt 24) (zt 27) 1 8)) [zm 29 7] (zA (zo 33 (.app (zt 29) (zt 32) 1 8)) [] (zA (zm 6 28) [] (zA (zm 7 33) [] (.done true) .no) .no) .no) .no) .no) .no)))))))) [9,33,32,31,30,29,28,27,26,25,24]) (.own 6 none 1)) (.own 7 none 1)))) (zr [zj 34 .add 20 1,zm 20 34] [34])))))) (zQ (zr [zm 35 6,zm 36 7,zc 37 vD [zt 35,zt 36],zm 38 1,zc 39 nX [zt 37,zt 38],zm 4 39,zk 5 0] [6,7,1,39,38,37,36,35]) .ret))))⟩
theorem aLN:aB prog aDb [(6,none,1),(7,none,1)]=some aJP:=by kernel_rfl
def aEC:HFun:=⟨15,[(4,none)],zQ (zr [zo 4 (.mov (zu 0))] [4]) (zQ (zr [zm 5 0,zm 6 1,zc 7 sQ [zt 6],zc 8 jF [zt 7],zm 9 1,zn 10 9,zo 11 (.conv .u64 (zt 10)),zo 12 (.bsl 1 [zU] [(0,(1,zt 11))] 1),zo 13 (.app (zt 8) (zt 12) 1 8),zc 14 kQ [zt 5,zt 13],zm 4 14] [0,1,14,13,12,11,10,9,8,7,6,5]) .ret)⟩
theorem aHy:aB prog sP []=some aEC:=by kernel_rfl
def xY:HFun:=⟨8,[(2,none)],zQ (zr [zN 2] [2]) (zQ (zQ (zr [zm 3 0,zo 4 (.nilc (zt 3)),zf 5 4 0,zl 6 5,zo 7 (.app (.const (zS)) (zt 6) 1 1),zm 2 7] [0,7,6,5,4,3]) (.own 2 none 1)) .ret)⟩
theorem aCm:aB prog mC [(2,none,1)]=some xY:=by kernel_rfl
def vV:HFun:=⟨8,[(2,none)],zQ (zr [zo 2 (.mov (zu 0))] [2]) (zQ (zr [zm 3 0,zo 4 (.nilc (zt 3)),zf 5 4 0,zl 6 5,zo 7 (.call (zt 6) []),zm 2 7] [0,7,6,5,4,3]) .ret)⟩
theorem aBt:aB prog lA []=some vV:=by kernel_rfl
def aJQ:HFun:=⟨23,[(6,some (some 4))],zE [zo 6 (.alloc [zU,zU,zU,zU])] (zQ (zr [zm 8 0,zm 9 1,zc 10 iP [zt 8,zt 9],zm 7 10] [10,9,8]) (zQ (zr [zm 11 7,zc 12 zJ [zt 11],zm 13 0,zm 14 1,zc 15 aC4 [zt 14],zm 16 2,zm 17 7,zo 18 (.bsl 1 [zU] [(0,(1,zt 17))] 1),zc 19 kQ [.const (.string (Hud.bs [109,97,115,107])),zt 18],zc 20 iO [zt 16,zt 19],zo 21 (.bld [zU,zU,zU,zU] [(0,(1,zt 13)),(1,(1,zt 15)),(2,(1,zt 20))]),zo 22 (.call (zt 12) [zt 21]),zs (.st 4 (zt 6) (zt 22))] [7,0,1,2,22,21,20,19,18,17,16,15,14,13,12,11]) .ret))⟩
theorem aLO:aB prog aDe []=some aJQ:=by kernel_rfl
def aN1:HFun:=⟨5,[(2,none)],zQ (zr [zo 2 (.mov (zu 0))] [2]) (zQ (zr [zm 3 0,zc 4 iP [zu 37,zt 3],zm 2 4] [0,4,3]) .ret)⟩
theorem aOk:aB prog aC4 []=some aN1:=by kernel_rfl
def aJR:HFun:=⟨4,[(2,none)],zQ (zr [zo 1 (.box (zt 0)),zo 2 (.mov (.const .nilFunc))] [0,2]) (zQ (zr [zo 3 (.clo sR [zt 1]),zm 2 3] [1,3]) .ret)⟩
theorem aLP:aB prog zJ []=some aJR:=by kernel_rfl
def aCF:HFun:=⟨24,[(2,none)],zQ (zr [zo 2 (.mov zF)] [2]) (zQ (zr [zo 6 (.mkm false),zs (.mup false [.int .u64] (zt 6) (zu 0) zT),zm 7 6,zm 3 7] [7,6]) (zQ (zQ (zr [zm 8 0,zn 9 8,zk 10 0] [0]) (zP 0 (zE [zb 11 .lss 10 9] (zQ (zC 11 (zK [11] .skip) (zK [8,10,9,3,11] (.exit 0))) (zQ (.block 1 (zQ (zr [zi 12 8 10 2,zv 13 2 12,zo 5 (.alloc [zU,zU]),zs (.st 2 (zt 5) (zt 13))] [13,12]) (zQ (zQ (zr [zm 14 3,zf 15 5 0,zl 16 15,zc 17 aZ [zt 16],zo 18 (.lku false [.int .u64] (.bool false) (zt 14) (zt 17) false)] [17,16,15,14]) (zC 18 (zK [3,5,9,8,10,18] (zE [zo 2 (.mov zF)] .ret)) (zK [18] .skip))) (zr [zm 19 3,zf 20 5 0,zl 21 20,zc 22 aZ [zt 21],zs (.mup false [.int .u64] (zt 19) (zt 22) zT)] [5,22,21,20,19])))) (zr [zj 23 .add 10 1,zm 10 23] [23])))))) (zE [zo 2 (.mov zT)] .ret)))⟩
theorem aFT:aB prog wT []=some aCF:=by kernel_rfl
def uD:HFun:=⟨8,[],zr [zm 4 0,zm 5 1,zc 6 aBd [zt 5],zc 7 cH [zt 4,zt 6]] [0,1,7,6,5,4]⟩
theorem vW:aB prog bA []=some uD:=by kernel_rfl
def uE:HFun:=⟨31,[],zQ (zP 0 (zQ (zQ (zr [zm 4 1,zo 5 (.bin .geq (zt 4) (zu 128))] [4]) (zC 5 (zK [5] .skip) (zK [5] (.exit 0)))) (.block 1 (zQ (zr [zm 6 0,zm 7 0,zo 8 (.nilc (zt 7)),zf 9 8 0,zl 10 9,zm 11 1,zo 12 (.conv .u8 (zt 11)),zo 13 (.bin .or (zt 12) (.const (.int .u8 128))),zo 14 (.bsl 1 [.int .u8 0] [(0,(1,zt 13))] 1),zo 15 (.app (zt 10) (zt 14) 1 1),zo 16 (.nilc (zt 6)),zf 17 16 0,zs (.st 1 (zt 17) (zt 15))] [17,16,15,14,13,12,11,10,9,8,7,6]) (zr [zm 18 1,zo 19 (.bin .shr (zt 18) (zu 7)),zm 1 19] [19,18]))))) (zr [zm 20 0,zm 21 0,zo 22 (.nilc (zt 21)),zf 23 22 0,zl 24 23,zm 25 1,zo 26 (.conv .u8 (zt 25)),zo 27 (.bsl 1 [.int .u8 0] [(0,(1,zt 26))] 1),zo 28 (.app (zt 24) (zt 27) 1 1),zo 29 (.nilc (zt 20)),zf 30 29 0,zs (.st 1 (zt 30) (zt 28))] [0,1,30,29,28,27,26,25,24,23,22,21,20])⟩
theorem vX:aB prog cH []=some uE:=by kernel_rfl
def xZ:HFun:=⟨16,[],zQ (zr [zo 3 (.box (zt 1))] [1]) (zQ (zr [zm 4 0,zf 5 3 0,zl 6 5,zc 7 bA [zt 4,zt 6]] [7,6,5,4]) (zQ (zr [zm 8 0,zf 9 3 1,zl 10 9,zc 11 bA [zt 8,zt 10]] [11,10,9,8]) (zr [zm 12 0,zf 13 3 2,zl 14 13,zc 15 cH [zt 12,zt 14]] [0,3,15,14,13,12])))⟩
theorem aCn:aB prog cO []=some xZ:=by kernel_rfl
def aED:HFun:=⟨13,[(3,some (some 4))],zQ (zr [zo 2 (.box (zt 0)),zo 3 (.alloc [zU,zU,zU,zU])] [0]) (zQ (zr [zl 4 1,zf 5 2 2,zl 6 5,zf 7 2 0,zl 8 7,zo 9 (.bsl 1 [zU,zU,zU] [(0,(1,zt 4)),(1,(1,zt 6)),(2,(1,zt 8))] 3),zc 10 kQ [.const (.string (Hud.bs [116,97,103])),zt 9],zf 11 2 3,zs (.st 1 (zt 11) (zt 10))] [1,11,10,9,8,7,6,5,4]) (zQ (zr [zv 12 4 2,zs (.st 4 (zt 3) (zt 12))] [2,12]) .ret))⟩
theorem aHz:aB prog sR []=some aED:=by kernel_rfl
def aEE:HFun:=⟨46,[(6,none)],zQ (zr [zo 5 (.box (zt 2)),zo 6 (.mov zF)] [2,6]) (zE [zo 7 (.mov (.func tT))] (zQ (zQ (zr [zm 10 7,zm 11 0,zo 12 (.call (zt 10) [zt 11,zu 1,zu 2305843009213693950]),zo 13 (.un .not (zt 12)),zm 14 13,zh 15 7 14 false,zg 16 (.fad (zt 5) 0) 14 false,zg 17 (.ld none (zt 16)) 14 false,zg 18 (.call (zt 15) [zt 17,zu 1,zu 2305843009213693950]) 14 false,zg 19 (.un .not (zt 18)) 14 false,zo 20 (.pick (zt 14) zT (zt 19)),zm 21 20,zh 22 7 21 false,zg 23 (.fad (zt 5) 1) 21 false,zg 24 (.ld none (zt 23)) 21 false,zg 25 (.call (zt 22) [zt 24,zu 0,zu 2305843009213693949]) 21 false,zg 26 (.un .not (zt 25)) 21 false,zo 27 (.pick (zt 21) zT (zt 26))] [7,26,25,24,23,22,21,20,19,18,17,16,15,14,13,12,11,10]) (zC 27 (zK [0,5,1,27] (zE [zo 6 (.mov zF)] .ret)) (zK [27] .skip))) (zQ (zr [zm 29 0,zf 30 5 0,zl 31 30,zm 32 1,zc 33 aBf [zt 29,zt 31,zt 32],zm 28 33,ze 34 28 0,ze 35 28 1,zm 8 34,zm 9 35] [1,8,35,34,28,33,32,31,30,29]) (zQ (zR (zq (zf 36 5 1) (zq (zl 37 36) (zq (zf 39 5 0) (zq (zl 40 39) (zq (zm 41 0) (zq (zm 42 9) (zA (zc 38 iP [zu 37,zt 37]) [zm 42 9,zm 41 0,zl 40 39,zf 39 5 0] (zA (zc 43 iP [zt 41,zt 42]) [zl 40 39,zf 39 5 0] (zA (zc 44 gG [zt 40,zt 43]) [] (zq (zb 45 .eql 38 44) (zq (zm 6 45) (.done false))) .no) .no) .no))))))) [5,0,9,45,44,43,42,41,40,39,38,37,36]) .ret))))⟩
theorem aHA:aB prog zZ []=some aEE:=by kernel_rfl
def aGP:HFun:=⟨10,[(2,none)],zQ (zr [zo 2 (.mov (zu 0))] [2]) (zQ (zr [zm 3 0,zo 4 (.conv .u64 (zt 3)),zo 5 (.bin .shl (zt 4) (zu 1)),zm 6 0,zo 7 (.bin .shr (zt 6) (zu 63)),zo 8 (.conv .u64 (zt 7)),zb 9 .xor 5 8,zm 2 9] [0,9,8,7,6,5,4,3]) .ret)⟩
theorem aJS:aB prog aBd []=some aGP:=by kernel_rfl
def aBu:HFun:=⟨15,[(6,none)],zQ (zr [zo 6 (.mov zF)] [6]) (zQ (zr [zm 7 0,zm 8 1,zb 9 .geq 7 8,zm 10 9,zh 11 0 10 true,zh 12 2 10 true,zg 13 (.bin .leq (zt 11) (zt 12)) 10 true,zo 14 (.pick (zt 10) (zt 13) zF),zm 6 14] [0,1,2,14,13,12,11,10,9,8,7]) .ret)⟩
theorem aEF:aB prog tT []=some aBu:=by kernel_rfl
def aGQ:HFun:=⟨16,[(6,none),(7,none)],zQ (zr [zo 6 (.mov (zu 0)),zo 7 (.mov (zu 0))] [7,6]) (zQ (zr [zm 8 2,zc 9 sP [.const (.string (Hud.bs [115,105,103,110,101,100])),zt 8],zm 6 9] [2,9,8]) (zQ (zr [zm 10 6,zm 11 1,zm 12 0,zm 13 6,zo 14 (.bsl 1 [zU,zU,zU] [(0,(1,zt 11)),(1,(1,zt 12)),(2,(1,zt 13))] 3),zc 15 kQ [.const (.string (Hud.bs [115,105,103])),zt 14],zm 6 10,zm 7 15] [1,0,15,14,13,12,11,10]) .ret))⟩
theorem aJT:aB prog aBf []=some aGQ:=by kernel_rfl
def aAB:HFun:=⟨17,[],zQ (zr [zm 4 0,zm 5 1,zo 6 (.lenS (zt 5)),zc 7 bA [zt 4,zt 6]] [7,6,5,4]) (zr [zm 8 0,zm 9 0,zo 10 (.nilc (zt 9)),zf 11 10 0,zl 12 11,zm 13 1,zo 14 (.apS (zt 12) (zt 13)),zo 15 (.nilc (zt 8)),zf 16 15 0,zs (.st 1 (zt 16) (zt 14))] [0,1,16,15,14,13,12,11,10,9,8])⟩
theorem aDx:aB prog nK []=some aAB:=by kernel_rfl
end
section
open Go.Proofs.Tryz
theorem bD6:∀ x,x<256->x ||| 128=x%128+128:=by decide +kernel
theorem aPS (x:Nat) (hx:x<256):aU .or (.int .u8 (x:Int)) (.int .u8 128)=some (.int .u8 ((x%128+128:Nat):Int)):=by
 have h1:(BitVec.ofInt IntKind.u8.bits (x:Int) ||| BitVec.ofInt IntKind.u8.bits 128).toNat=x%128+128:=by
  have ea:(BitVec.ofInt 8 (x:Int)).toNat=x:=by simp [BitVec.toNat_ofInt];omega
  have eb:(BitVec.ofInt 8 (128:Int)).toNat=128:=by decide
  show (BitVec.ofInt 8 (x:Int) ||| BitVec.ofInt 8 (128:Int)).toNat=x%128+128
  rw [BitVec.toNat_or,ea,eb,bD6 x hx]
 simp only [aU,if_true,h1]
 rw [aCa _ (by omega)]
theorem aN2 (x:Nat) (hx:x<18446744073709551616):aU .shr (.int .u64 (x:Int)) (.int .u64 7)=some (.int .u64 ((x/128:Nat):Int)):=by
 have h2:(x:Int).fdiv (2^(min (7:Int).toNat IntKind.u64.bits))=((x/128:Nat):Int):=by
  show (x:Int).fdiv 128=_
  rw [Int.fdiv_eq_ediv_of_nonneg _ (by decide)];first | done | omega
 have h3:¬(7:Int)<0:=by decide
 simp only [aU,h3,if_false,h2]
 all_goals rw [aS _ (by omega)]
section
variable {G:Nat->Option (List AV)}
set_option maxHeartbeats 4000000
theorem aEG (A:List Nat) (k:Nat) (hA:A.length<=1000000) (hk:k<18446744073709551616):aD prog G cH [.ptr 0 0,.v (.int .u64 (k:Int))] [some (.box [.own 1]),some (.arr 1 (bl A))] fun r T'=>T'=[some (.box [.own 2]),none,some (.arr 1 (bl (A++jL k)))]:=by
 refine aF vX (by decide) ?_
 unfold uE
 dsimp only [zj,zT,zF,zC,zE,zP,zQ,zq,zA,zm,zo,zs,zg,zh,zl,zv,zf,zi,zn,zb,zc,ze,zk,zw,zu,zt,zr,zR,zK,zN,zS,z0,zU]
 simp only [go_sem,↓reduceIte]
 refine aFy (fun s=>∃ (B:List Nat) (j:Nat),B++[j]=A++jL k/\j<=127/\B.length<=A.length+9/\(s=⟨2,[(0,.ptr 0 0),(1,.v (.int .u64 (j:Int)))],[some (.box [.own 1]),some (.arr 1 (bl B))]⟩\/s=⟨2,[(0,.ptr 0 0),(1,.v (.int .u64 (j:Int)))],[some (.box [.own 2]),none,some (.arr 1 (bl B))]⟩)) ?_ ?_
 ·refine fS (fun m s=>∃ (B:List Nat) (j:Nat),B++aCl m j=A++jL k/\j<2*128^m/\B.length+m<=A.length+9/\m<=9/\(s=⟨2,[(0,.ptr 0 0),(1,.v (.int .u64 (j:Int)))],[some (.box [.own 1]),some (.arr 1 (bl B))]⟩\/s=⟨2,[(0,.ptr 0 0),(1,.v (.int .u64 (j:Int)))],[some (.box [.own 2]),none,some (.arr 1 (bl B))]⟩)) 9 ⟨A,k,rfl,by omega,by omega,by omega,.inl ?_⟩ ?_
  ·simp only [go_sem,↓reduceIte]
  rintro m s ⟨B,j,hB,hj,hl,hm9,hsx⟩
  by_cases hlt:127<j
  ·cases m with
   | zero=>simp at hj;omega
   | succ m =>
    have hj2:j<18446744073709551616:=Nat.lt_of_lt_of_le hj (Nat.le_trans (Nat.mul_le_mul_left 2 (Nat.pow_le_pow_right (by decide) (show m+1<=9 by omega))) (by decide))
    have t1:decide ((128:Int)<=(j:Int))=true:=decide_eq_true (by omega)
    have w1:IntKind.u8.wrap (j:Int)=((j%256:Nat):Int):=by simp [IntKind.wrap,IntKind.bits,IntKind.signed]
    have o1:=aPS (j%256) (by omega)
    have e1:j%256%128+128=j%128+128:=by omega
    rw [e1] at o1
    have q1:=aN2 j hj2
    have b2:B.length+1<=maxLen:=by unfold maxLen;omega
    have b3:(B.length+1)*1<=140737488355328:=by omega
    have b1:B.length+1<=140737488355328:=by omega
    have fin:B++[j%128+128]++aCl m (j/128)=A++jL k:=by rw [<-hB,aCl,if_pos hlt,List.append_assoc];rfl
    have fin2:j/128<2*128^m:=by rw [Nat.pow_succ] at hj;omega
    have e2:bl B++[U8 (j%128+128)]=bl (B++[j%128+128]):=by simp only [bl,List.map_append,List.map_cons,List.map_nil]
    rcases hsx with rfl | rfl
    ·simp only [go_sem,↓reduceIte,List.length_map,ge_iff_le,t1,w1,↓o1,↓q1,b1,b2,b3]
     exact ⟨m,by omega,B++[j%128+128],j/128,fin,fin2,by simp;omega,by omega,.inr (by rw [<-e2])⟩
    ·simp only [go_sem,↓reduceIte,List.length_map,ge_iff_le,t1,w1,↓o1,↓q1,b1,b2,b3]
     exact ⟨m,by omega,B++[j%128+128],j/128,fin,fin2,by simp;omega,by omega,.inr (by rw [<-e2])⟩
  ·have t1:decide ((128:Int)<=(j:Int))=false:=decide_eq_false (by omega)
   have fin:B++[j]=A++jL k:=by
    rw [<-hB]
    cases m with
    | zero=>rfl
    | succ m=>rw [aCl,if_neg hlt]
   rcases hsx with rfl | rfl
   ·simp only [go_sem,↓reduceIte,ge_iff_le,t1]
    exact ⟨B,j,fin,by omega,by omega,.inl rfl⟩
   ·simp only [go_sem,↓reduceIte,ge_iff_le,t1]
    exact ⟨B,j,fin,by omega,by omega,.inr rfl⟩
 rintro s ⟨B,j,hB,hj,hl,hsx⟩
 have w1:IntKind.u8.wrap (j:Int)=(j:Int):=aCa _ (by omega)
 have b2:B.length+1<=maxLen:=by unfold maxLen;omega
 have b3:(B.length+1)*1<=140737488355328:=by omega
 have b1:B.length+1<=140737488355328:=by omega
 have e2:bl B++[U8 j]=bl (B++[j]):=by simp only [bl,List.map_append,List.map_cons,List.map_nil]
 rcases hsx with rfl | rfl
 ·simp only [go_sem,↓reduceIte,List.length_map,w1,b1,b2,b3]
  rw [<-List.map_append,<-hB,List.map_append];rfl
 ·simp only [go_sem,↓reduceIte,List.length_map,w1,b1,b2,b3]
  rw [<-List.map_append,<-hB,List.map_append];rfl
theorem bD7 (n:Int):IntKind.u64.wrap n=n%18446744073709551616:=by simp [IntKind.wrap,IntKind.bits,IntKind.signed]
theorem aWX (a:Nat) (ha:a<18446744073709551616):(BitVec.ofInt 64 (a:Int) ^^^ BitVec.ofInt 64 18446744073709551615).toNat=18446744073709551615-a:=by
 have e:BitVec.ofInt 64 18446744073709551615=BitVec.allOnes 64:=by decide
 rw [e,BitVec.xor_allOnes,BitVec.toNat_not]
 simp [BitVec.toNat_ofInt];omega
theorem aWY (n:Int) (h1:-9223372036854775808<=n) (h2:n<=9223372036854775807):aD prog G aBd [.v (.int .i64 n)] [] fun r T'=>r=.v (.int .u64 ((zig n:Nat):Int))/\T'=[]:=by
 refine aF aJS (by decide) ?_
 unfold aGP
 dsimp only [zj,zT,zF,zC,zE,zP,zQ,zq,zA,zm,zo,zs,zg,zh,zl,zv,zf,zi,zn,zb,zc,ze,zk,zw,zu,zt,zr,zR,zK,zN,zS,z0,zU]
 have hz:=aOj h1 h2
 by_cases hn:n<0
 ·obtain ⟨a,ha,ha2⟩:∃ a:Nat,n*2%18446744073709551616=(a:Int)/\zig n=18446744073709551615-a:=⟨(18446744073709551616+2*n).toNat,by omega,by unfold zig;rw [if_pos hn];omega⟩
  have c1:IntKind.u64.wrap n=n+18446744073709551616:=by rw [bD7];omega
  have s1:aU .shl (.int .u64 (n+18446744073709551616)) (.int .u64 1)=some (.int .u64 (a:Int)):=by
   have h3:¬(1:Int)<0:=by decide
   have h4:(n+18446744073709551616)*2^(min (1:Int).toNat IntKind.u64.bits)=n*2+36893488147419103232:=by
    show (n+18446744073709551616)*2=_;omega
   simp only [aU,h3,if_false,h4,bD7]
   congr 2;omega
  have s2:aU .shr (.int .i64 n) (.int .u64 63)=some (.int .i64 (-1)):=by
   have h3:¬(63:Int)<0:=by decide
   have h4:n.fdiv (2^(min (63:Int).toNat IntKind.i64.bits))=-1:=by
    show n.fdiv 9223372036854775808=-1
    rw [Int.fdiv_eq_ediv_of_nonneg _ (by decide)];omega
   simp only [aU,h3,if_false,h4]
   first | done | rfl
  have c2:IntKind.u64.wrap (-1)=18446744073709551615:=by decide
  have x1:aU .xor (.int .u64 (a:Int)) (.int .u64 18446744073709551615)=some (.int .u64 ((zig n:Nat):Int)):=by
   have hx:(BitVec.ofInt IntKind.u64.bits (a:Int) ^^^ BitVec.ofInt IntKind.u64.bits 18446744073709551615).toNat=18446744073709551615-a:=aWX a (by omega)
   simp only [aU,if_true,hx]
   rw [aS _ (by omega),ha2]
  simp only [go_sem,↓reduceIte,c1,↓s1,↓s2,c2,↓x1]
 ·obtain ⟨m,rfl⟩:∃ m:Nat,n=(m:Int):=⟨n.toNat,by omega⟩
  have hzz:zig (m:Int)=m*2:=by unfold zig;rw [if_neg hn];omega
  have c1:IntKind.u64.wrap (m:Int)=(m:Int):=aS m (by omega)
  have s1:aU .shl (.int .u64 (m:Int)) (.int .u64 1)=some (.int .u64 ((m*2:Nat):Int)):=by
   have h3:¬(1:Int)<0:=by decide
   have h4:(m:Int)*2^(min (1:Int).toNat IntKind.u64.bits)=((m*2:Nat):Int):=by
    show (m:Int)*2=_;omega
   simp only [aU,h3,if_false,h4]
   rw [aS _ (by omega)]
  have s2:aU .shr (.int .i64 (m:Int)) (.int .u64 63)=some (.int .i64 0):=by
   have h3:¬(63:Int)<0:=by decide
   have h4:(m:Int).fdiv (2^(min (63:Int).toNat IntKind.i64.bits))=0:=by
    show (m:Int).fdiv 9223372036854775808=0
    rw [Int.fdiv_eq_ediv_of_nonneg _ (by decide)];omega
   simp only [aU,h3,if_false,h4]
   first | done | rfl
  have x1:aU .xor (.int .u64 ((m*2:Nat):Int)) (.int .u64 0)=some (.int .u64 ((m*2:Nat):Int)):=by
   have hx:(BitVec.ofInt IntKind.u64.bits ((m*2:Nat):Int) ^^^ BitVec.ofInt IntKind.u64.bits 0).toNat=m*2:=by
    show (BitVec.ofInt 64 ((m*2:Nat):Int) ^^^ BitVec.ofInt 64 0).toNat=m*2
    have:BitVec.ofInt 64 0=0#64:=by decide
    rw [this,BitVec.xor_zero]
    simp [BitVec.toNat_ofInt];omega
   simp only [aU,if_true,hx]
   rw [aS _ (by omega)]
  rw [hzz]
  simp only [go_sem,↓reduceIte,c1,↓s1,↓s2,↓x1]
theorem sH (A:List Nat) (n:Int) (hA:A.length<=1000000) (h1:-9223372036854775808<=n) (h2:n<=9223372036854775807):aD prog G bA [.ptr 0 0,.v (.int .i64 n)] [some (.box [.own 1]),some (.arr 1 (bl A))] fun r T'=>T'=[some (.box [.own 2]),none,some (.arr 1 (bl (A++cB n)))]:=by
 refine aF vW (by decide) ?_
 unfold uD
 dsimp only [zj,zT,zF,zC,zE,zP,zQ,zq,zA,zm,zo,zs,zg,zh,zl,zv,zf,zi,zn,zb,zc,ze,zk,zw,zu,zt,zr,zR,zK,zN,zS,z0,zU]
 simp only [go_sem,↓reduceIte]
 refine aC (aA _) rfl (aWY n h1 h2) rfl ?_
 simp only [go_sem,↓reduceIte]
 refine aG [0,1] (aA _) (by decide) (by simp) rfl rfl (aEG A (zig n) hA (aOj h1 h2)) ?_
 rintro r T' rfl
 simp only [go_sem,↓reduceIte]
 rfl
theorem aZb (A:List Nat) (a b:Int) (c:Nat) (hA:A.length<=900000) (ha1:-9223372036854775808<=a) (ha2:a<=9223372036854775807) (hb1:-9223372036854775808<=b) (hb2:b<=9223372036854775807) (hc:c<18446744073709551616) :
  aD prog G cO [.ptr 0 0,.ag [.v (.int .i64 a),.v (.int .i64 b),.v (.int .u64 (c:Int))]] [some (.box [.own 1]),some (.arr 1 (bl A))] fun r T'=>T'=[some (.box [.own 2]),none,some (.arr 1 (bl (A++idB a b c)))]:=by
 refine aF aCn (by decide) ?_
 unfold xZ
 dsimp only [zj,zT,zF,zC,zE,zP,zQ,zq,zA,zm,zo,zs,zg,zh,zl,zv,zf,zi,zn,zb,zc,ze,zk,zw,zu,zt,zr,zR,zK,zN,zS,z0,zU]
 have l1:=cC a
 have l2:=cC b
 simp only [go_sem,↓reduceIte]
 refine aG [0,1] (aA _) (by decide) (by simp) rfl rfl (sH A a (by omega) ha1 ha2) ?_
 rintro r T' rfl
 simp only [go_sem,↓reduceIte]
 rw [<-List.map_append]
 refine aG [0,3] (aA _) (by decide) (by simp) rfl rfl (sH (A++cB a) b (by simp;omega) hb1 hb2) ?_
 rintro r T' rfl
 simp only [go_sem,↓reduceIte]
 rw [<-List.map_append,<-List.map_append]
 refine aG [0,4] (aA _) (by decide) (by simp) rfl rfl (aEG (A++cB a++cB b) c (by simp;omega) hc) ?_
 rintro r T' rfl
 simp only [go_sem,↓reduceIte,idB,List.append_assoc]
theorem aWZ (A:List Nat) (S:ByteArray) (b:List Nat) (hS:iG S=bl b) (hs:S.size=b.length) (hA:A.length<=900000) (hl:b.length<=1000000):aD prog G nK [.ptr 0 0,.v (.string S)] [some (.box [.own 1]),some (.arr 1 (bl A))] fun r T'=>T'=[some (.box [.own 2]),none,some (.arr 1 (bl (A++(cB (b.length:Int)++b))))]:=by
 refine aF aDx (by decide) ?_
 unfold aAB
 dsimp only [zj,zT,zF,zC,zE,zP,zQ,zq,zA,zm,zo,zs,zg,zh,zl,zv,zf,zi,zn,zb,zc,ze,zk,zw,zu,zt,zr,zR,zK,zN,zS,z0,zU]
 have l1:=cC (b.length:Int)
 have b1:(A++cB (b.length:Int)).length+b.length<=140737488355328:=by rw [List.length_append];omega
 have b2:(A++cB (b.length:Int)).length+b.length<=maxLen:=by rw [List.length_append];unfold maxLen;omega
 simp only [go_sem,↓reduceIte,hs]
 refine aG [0,1] (aA _) (by decide) (by simp) rfl rfl (sH A (b.length:Int) (by omega) (by omega) (by omega)) ?_
 rintro r T' rfl
 rw [List.length_append] at b1 b2
 simp only [go_sem,↓reduceIte,List.length_map,List.length_append,hs,hS,b1,b2,List.map_append,List.append_assoc]
theorem bB3 (k:Nat) (hk:k<18446744073709551616):aD prog G cH [.ptr 0 0,.v (.int .u64 (k:Int))] [some (.box [.v (.slice none 0 0)])] fun r T'=>T'=[some (.box [.own 1]),some (.arr 1 (bl (jL k)))]:=by
 refine aF vX (by decide) ?_
 unfold uE
 dsimp only [zj,zT,zF,zC,zE,zP,zQ,zq,zA,zm,zo,zs,zg,zh,zl,zv,zf,zi,zn,zb,zc,ze,zk,zw,zu,zt,zr,zR,zK,zN,zS,z0,zU]
 simp only [go_sem,↓reduceIte]
 refine aFy (fun s=>∃ (B:List Nat) (j:Nat),B++[j]=jL k/\j<=127/\B.length<=9/\((B=[]/\s=⟨1,[(0,.ptr 0 0),(1,.v (.int .u64 (j:Int)))],[some (.box [.v (.slice none 0 0)])]⟩)\/s=⟨1,[(0,.ptr 0 0),(1,.v (.int .u64 (j:Int)))],[some (.box [.own 1]),some (.arr 1 (bl B))]⟩)) ?_ ?_
 ·refine fS (fun m s=>∃ (B:List Nat) (j:Nat),B++aCl m j=jL k/\j<2*128^m/\B.length+m<=9/\m<=9/\((B=[]/\s=⟨1,[(0,.ptr 0 0),(1,.v (.int .u64 (j:Int)))],[some (.box [.v (.slice none 0 0)])]⟩)\/s=⟨1,[(0,.ptr 0 0),(1,.v (.int .u64 (j:Int)))],[some (.box [.own 1]),some (.arr 1 (bl B))]⟩)) 9 ⟨[],k,rfl,by omega,by decide,by omega,.inl ⟨rfl,?_⟩⟩ ?_
  ·simp only [go_sem,↓reduceIte]
  rintro m s ⟨B,j,hB,hj,hl,hm9,hsx⟩
  by_cases hlt:127<j
  ·cases m with
   | zero=>simp at hj;omega
   | succ m =>
    have hj2:j<18446744073709551616:=Nat.lt_of_lt_of_le hj (Nat.le_trans (Nat.mul_le_mul_left 2 (Nat.pow_le_pow_right (by decide) (show m+1<=9 by omega))) (by decide))
    have t1:decide ((128:Int)<=(j:Int))=true:=decide_eq_true (by omega)
    have w1:IntKind.u8.wrap (j:Int)=((j%256:Nat):Int):=by simp [IntKind.wrap,IntKind.bits,IntKind.signed]
    have o1:=aPS (j%256) (by omega)
    have e1:j%256%128+128=j%128+128:=by omega
    rw [e1] at o1
    have q1:=aN2 j hj2
    have b2:B.length+1<=maxLen:=by unfold maxLen;omega
    have b3:(B.length+1)*1<=140737488355328:=by omega
    have b1:B.length+1<=140737488355328:=by omega
    have fin:B++[j%128+128]++aCl m (j/128)=jL k:=by rw [<-hB,aCl,if_pos hlt,List.append_assoc];rfl
    have fin2:j/128<2*128^m:=by rw [Nat.pow_succ] at hj;omega
    have e2:bl B++[U8 (j%128+128)]=bl (B++[j%128+128]):=by simp only [bl,List.map_append,List.map_cons,List.map_nil]
    rcases hsx with ⟨rfl,rfl⟩ | rfl
    ·simp only [go_sem,↓reduceIte,List.length_map,ge_iff_le,t1,w1,↓o1,↓q1,show 1<=maxLen by decide]
     exact ⟨m,by omega,[j%128+128],j/128,fin,fin2,by simp at hl ⊢;omega,by omega,.inr rfl⟩
    ·simp only [go_sem,↓reduceIte,List.length_map,ge_iff_le,t1,w1,↓o1,↓q1,b1,b2,b3]
     exact ⟨m,by omega,B++[j%128+128],j/128,fin,fin2,by simp;omega,by omega,.inr (by rw [<-e2])⟩
  ·have t1:decide ((128:Int)<=(j:Int))=false:=decide_eq_false (by omega)
   have fin:B++[j]=jL k:=by
    rw [<-hB]
    cases m with
    | zero=>rfl
    | succ m=>rw [aCl,if_neg hlt]
   rcases hsx with ⟨rfl,rfl⟩ | rfl
   ·simp only [go_sem,↓reduceIte,ge_iff_le,t1]
    exact ⟨[],j,fin,by omega,by simp,.inl ⟨rfl,rfl⟩⟩
   ·simp only [go_sem,↓reduceIte,ge_iff_le,t1]
    exact ⟨B,j,fin,by omega,by omega,.inr rfl⟩
 rintro s ⟨B,j,hB,hj,hl,hsx⟩
 have w1:IntKind.u8.wrap (j:Int)=(j:Int):=aCa _ (by omega)
 have b2:B.length+1<=maxLen:=by unfold maxLen;omega
 have b3:(B.length+1)*1<=140737488355328:=by omega
 have b1:B.length+1<=140737488355328:=by omega
 have e2:bl B++[U8 j]=bl (B++[j]):=by simp only [bl,List.map_append,List.map_cons,List.map_nil]
 rcases hsx with ⟨rfl,rfl⟩ | rfl
 ·rw [<-hB]
  simp only [go_sem,↓reduceIte,List.length_map,w1,show 1<=maxLen by decide]
 ·simp only [go_sem,↓reduceIte,List.length_map,w1,b1,b2,b3]
  rw [<-hB];simp only [bl,List.map_append,List.map_cons,List.map_nil]
theorem bB4 (n:Int) (h1:-9223372036854775808<=n) (h2:n<=9223372036854775807):aD prog G bA [.ptr 0 0,.v (.int .i64 n)] [some (.box [.v (.slice none 0 0)])] fun r T'=>T'=[some (.box [.own 1]),some (.arr 1 (bl (cB n)))]:=by
 refine aF vW (by decide) ?_
 unfold uD
 dsimp only [zj,zT,zF,zC,zE,zP,zQ,zq,zA,zm,zo,zs,zg,zh,zl,zv,zf,zi,zn,zb,zc,ze,zk,zw,zu,zt,zr,zR,zK,zN,zS,z0,zU]
 simp only [go_sem,↓reduceIte]
 refine aC (aA _) rfl (aWY n h1 h2) rfl ?_
 simp only [go_sem,↓reduceIte]
 refine aG [0] (aA _) (by decide) (by simp) rfl rfl (bB3 (zig n) (aOj h1 h2)) ?_
 rintro r T' rfl
 simp only [go_sem,↓reduceIte]
 rfl
theorem aTy (A:List Nat) (hA:A.length<=1000000):aD prog G mC [.ptr 0 0] [some (.box [.own 1]),some (.arr 1 (bl A))] fun r T'=>r=.own 2/\T'=[some (.box [.own 1]),some (.arr 1 (bl A)),some (.arr 1 (bl A))]:=by
 refine aF aCm (by decide) ?_
 unfold xY
 dsimp only [zj,zT,zF,zC,zE,zP,zQ,zq,zA,zm,zo,zs,zg,zh,zl,zv,zf,zi,zn,zb,zc,ze,zk,zw,zu,zt,zr,zR,zK,zN,zS,z0,zU]
 have b1:A.length<=140737488355328:=by omega
 have b2:A.length<=maxLen:=by unfold maxLen;omega
 have b3:A.length*1<=140737488355328:=by omega
 simp only [go_sem,↓reduceIte,List.length_map,b1,b2,b3]
end
end
section
structure BoxM where
 To:Nat
 Eph:Nat
 Body:Nat
 Tag:Nat
 deriving DecidableEq,Inhabited
structure NodeM where
 Pub:Nat
 Boxes:List BoxM
 deriving DecidableEq,Inhabited
structure SealM where
 Of:Id
 Body:List Nat
 deriving DecidableEq,Inhabited
structure OpM where
 By:Int
 Seq:Int
 Kind:Int
 At:Int
 Past:List Id
 Device:Int
 Old:Int
 Member:Int
 Role:Int
 Path:List NodeM
 Epoch:Id
 N:Int
 Body:List Nat
 Refs:List Nat
 Of:Id
 Guards:List Int
 Need:Int
 Wait:Int
 Boxes:List BoxM
 Pub:Nat
 Hist:List SealM
 SR:Nat
 SS:Nat
 deriving DecidableEq,Inhabited
abbrev iv (n:Int):AV:=.v (.int .i64 n)
abbrev uv (n:Nat):AV:=.v (.int .u64 (n:Int))
def BoxM.A (b:BoxM):List AV:=[uv b.To,uv b.Eph,uv b.Body,uv b.Tag]
abbrev bxs (l:List BoxM):AV:=.ls 4 (l.map BoxM.A)
def NodeM.A (n:NodeM):List AV:=[uv n.Pub,bxs n.Boxes]
def SealM.A (x:SealM):List AV:=[.v (.int .i64 x.Of.a),.v (.int .i64 x.Of.b),.v (.int .u64 x.Of.c),.ls 1 (bl x.Body)]
abbrev nts (l:List Int):AV:=.ls 1 (l.map fun n=>[iv n])
def OpM.A (o:OpM):List AV:=[iv o.By,iv o.Seq,iv o.Kind,iv o.At,ids o.Past,iv o.Device,iv o.Old,iv o.Member,iv o.Role,.ls 2 (o.Path.map NodeM.A),
 .v (.int .i64 o.Epoch.a),.v (.int .i64 o.Epoch.b),.v (.int .u64 o.Epoch.c),iv o.N,.ls 1 (bl o.Body),.ls 1 (ul o.Refs),.v (.int .i64 o.Of.a),.v (.int .i64 o.Of.b),.v (.int .u64 o.Of.c),nts o.Guards,
 iv o.Need,iv o.Wait,bxs o.Boxes,uv o.Pub,.ls 4 (o.Hist.map SealM.A),uv o.SR,uv o.SS]
theorem OpM.A_def (o:OpM):o.A=[iv o.By,iv o.Seq,iv o.Kind,iv o.At,ids o.Past,iv o.Device,iv o.Old,iv o.Member,iv o.Role,.ls 2 (o.Path.map NodeM.A),
 .v (.int .i64 o.Epoch.a),.v (.int .i64 o.Epoch.b),.v (.int .u64 o.Epoch.c),iv o.N,.ls 1 (bl o.Body),.ls 1 (ul o.Refs),.v (.int .i64 o.Of.a),.v (.int .i64 o.Of.b),.v (.int .u64 o.Of.c),nts o.Guards,
 iv o.Need,iv o.Wait,bxs o.Boxes,uv o.Pub,.ls 4 (o.Hist.map SealM.A),uv o.SR,uv o.SS]:=Eq.trans rfl rfl
def inM (n lo hi:Int):Bool:=decide (lo<=n)&&decide (n<=hi)
def aFU (n:Nat):Bool:=decide ((1:Int)<=(n:Int))&&decide ((n:Int)<2305843009213693951)
def okM (n:Int):Bool:=decide (n<2305843009213693951)
def jM (x:Id):Bool:=inM x.a 1 12&&(inM x.b 1 2147483647&&okM x.c)
def wY (b:BoxM):Bool:=aFU b.To&&(aFU b.Eph&&(okM (b.Body:Int)&&okM (b.Tag:Int)))
def okN (n:Int):Prop:=-9223372036854775808<=n/\n<=9223372036854775807
def BoxM.ok (b:BoxM):Prop:=b.To<18446744073709551616/\b.Eph<18446744073709551616/\b.Body<18446744073709551616/\b.Tag<18446744073709551616
def eB (o:OpM):List (Int×Bool):=[(1,o.Device !=0),(2,o.Old !=0),(4,o.Member !=0),(8,o.Role !=0),(16,decide ((o.Path.length:Int)>0)),(32,!(o.Epoch.a==0&&(o.Epoch.b==0&&o.Epoch.c==0))),(64,o.N !=0),(128,decide ((o.Body.length:Int)>0)),(256,decide ((o.Refs.length:Int)>0)),(512,!(o.Of.a==0&&(o.Of.b==0&&o.Of.c==0))),
 (1024,decide ((o.Guards.length:Int)>0)),(2048,o.Need !=0),(4096,o.Wait !=0),(8192,decide ((o.Boxes.length:Int)>0)),(16384,((o.Pub:Int)!=0)),(32768,decide ((o.Hist.length:Int)>0))]
def Id.ok (x:Id):Prop:=okN x.a/\okN x.b/\0<=x.c/\x.c<18446744073709551616
def NodeM.ok (n:NodeM):Prop:=n.Pub<18446744073709551616/\n.Boxes.length<=100/\∀ b∈n.Boxes,b.ok
def SealM.ok (x:SealM):Prop:=x.Of.ok/\x.Body.length<=1000/\okB x.Body
structure OpM.ok (o:OpM):Prop where
 ints:∀ n∈[o.By,o.Seq,o.Kind,o.At,o.Device,o.Old,o.Member,o.Role,o.N,o.Need,o.Wait],okN n
 nums:∀ n∈[o.Pub,o.SR,o.SS],n<18446744073709551616
 epoch:o.Epoch.ok
 of:o.Of.ok
 past:o.Past.length<=1000/\∀ x∈o.Past,x.ok
 path:o.Path.length<=10/\∀ x∈o.Path,x.ok
 body:o.Body.length<=1000/\okB o.Body
 refs:o.Refs.length<=1000/\∀ x∈o.Refs,x<18446744073709551616
 guards:o.Guards.length<=1000/\∀ x∈o.Guards,okN x
 boxes:o.Boxes.length<=1000/\∀ x∈o.Boxes,x.ok
 hist:o.Hist.length<=100/\∀ x∈o.Hist,x.ok
@[go_sem] theorem OpM.g0 (o:OpM):o.A[0]?=some (iv o.By):=Eq.trans rfl rfl
@[go_sem] theorem OpM.g1 (o:OpM):o.A[1]?=some (iv o.Seq):=Eq.trans rfl rfl
@[go_sem] theorem OpM.g2 (o:OpM):o.A[2]?=some (iv o.Kind):=Eq.trans rfl rfl
@[go_sem] theorem OpM.g3 (o:OpM):o.A[3]?=some (iv o.At):=Eq.trans rfl rfl
@[go_sem] theorem OpM.g4 (o:OpM):o.A[4]?=some (ids o.Past):=Eq.trans rfl rfl
@[go_sem] theorem OpM.g5 (o:OpM):o.A[5]?=some (iv o.Device):=Eq.trans rfl rfl
@[go_sem] theorem OpM.g6 (o:OpM):o.A[6]?=some (iv o.Old):=Eq.trans rfl rfl
@[go_sem] theorem OpM.g7 (o:OpM):o.A[7]?=some (iv o.Member):=Eq.trans rfl rfl
@[go_sem] theorem OpM.g8 (o:OpM):o.A[8]?=some (iv o.Role):=Eq.trans rfl rfl
@[go_sem] theorem OpM.g9 (o:OpM):o.A[9]?=some (.ls 2 (o.Path.map NodeM.A)):=Eq.trans rfl rfl
@[go_sem] theorem OpM.g13 (o:OpM):o.A[13]?=some (iv o.N):=Eq.trans rfl rfl
@[go_sem] theorem OpM.g14 (o:OpM):o.A[14]?=some (.ls 1 (bl o.Body)):=Eq.trans rfl rfl
@[go_sem] theorem OpM.g15 (o:OpM):o.A[15]?=some (.ls 1 (ul o.Refs)):=Eq.trans rfl rfl
@[go_sem] theorem OpM.g19 (o:OpM):o.A[19]?=some (nts o.Guards):=Eq.trans rfl rfl
@[go_sem] theorem OpM.g20 (o:OpM):o.A[20]?=some (iv o.Need):=Eq.trans rfl rfl
@[go_sem] theorem OpM.g21 (o:OpM):o.A[21]?=some (iv o.Wait):=Eq.trans rfl rfl
@[go_sem] theorem OpM.g22 (o:OpM):o.A[22]?=some (bxs o.Boxes):=Eq.trans rfl rfl
@[go_sem] theorem OpM.g23 (o:OpM):o.A[23]?=some (uv o.Pub):=Eq.trans rfl rfl
@[go_sem] theorem OpM.g24 (o:OpM):o.A[24]?=some (.ls 4 (o.Hist.map SealM.A)):=Eq.trans rfl rfl
@[go_sem] theorem OpM.g25 (o:OpM):o.A[25]?=some (uv o.SR):=Eq.trans rfl rfl
@[go_sem] theorem OpM.g26 (o:OpM):o.A[26]?=some (uv o.SS):=Eq.trans rfl rfl
@[go_sem] theorem OpM.len (o:OpM):o.A.length=27:=Eq.trans rfl rfl
@[go_sem] theorem OpM.dEpoch (o:OpM):(o.A.drop 10).take 3=o.Epoch.A:=Eq.trans rfl rfl
@[go_sem] theorem OpM.dOf (o:OpM):(o.A.drop 16).take 3=o.Of.A:=Eq.trans rfl rfl
@[go_sem] theorem OpM.dSig (o:OpM):(o.A.drop 25).take 2=[uv o.SR,uv o.SS]:=Eq.trans rfl rfl
@[go_sem] theorem OpM.t27 (o:OpM):o.A.take 27=o.A:=Eq.trans rfl rfl
@[go_sem] theorem OpM.ids0 (o:OpM):fI o.A=[]:=Eq.trans rfl rfl
theorem OpM.one0 (o:OpM):o.A.all gM=true:=by simp [OpM.A,gM]
@[go_sem] theorem OpM.one (o:OpM):o.A.all gM=true:=OpM.one0 o
theorem OpM.closed0 (o:OpM):o.A.all aP=true:=by simp [OpM.A,aP]
@[go_sem] theorem OpM.closed (o:OpM):o.A.all aP=true:=OpM.closed0 o
@[go_sem] theorem OpM.rn (L:List Nat) (o:OpM):rnL L o.A=o.A:=Eq.trans rfl rfl
@[go_sem] theorem OpM.bk (L:List Nat) (n:Nat) (o:OpM):bkL L n o.A=o.A:=Eq.trans rfl rfl
@[go_sem] theorem OpM.sl (i k:Nat) (es:List (List AV)) (o:OpM):slL i k es o.A=o.A:=Eq.trans rfl rfl
@[go_sem] theorem Id.ids0 (x:Id):fI x.A=[]:=Eq.trans rfl rfl
@[go_sem] theorem Id.rn (L:List Nat) (x:Id):rnL L x.A=x.A:=Eq.trans rfl rfl
@[go_sem] theorem Id.bk (L:List Nat) (n:Nat) (x:Id):bkL L n x.A=x.A:=Eq.trans rfl rfl
@[go_sem] theorem Id.sl (i k:Nat) (es:List (List AV)) (x:Id):slL i k es x.A=x.A:=Eq.trans rfl rfl
@[go_sem] theorem Id.len (x:Id):x.A.length=3:=Eq.trans rfl rfl
theorem Id.one0 (x:Id):x.A.all gM=true:=by simp [Id.A,gM]
@[go_sem] theorem Id.one (x:Id):x.A.all gM=true:=Id.one0 x
theorem Id.closed0 (x:Id):x.A.all aP=true:=by simp [Id.A,aP]
@[go_sem] theorem Id.closed (x:Id):x.A.all aP=true:=Id.closed0 x
@[go_sem] theorem Id.t3 (x:Id):x.A.take 3=x.A:=Eq.trans rfl rfl
@[go_sem] theorem Id.eqC (x y:Id):Hud.eqC [.int .i64,.int .i64,.int .u64] x.A y.A=some (decide (x=y)):=by
 simp only [Hud.eqC,Id.A_def,and_self,if_true,Bool.and_true,Id.beq]
@[go_sem] theorem Id.eq0 (x:Id):Hud.eqC [.int .i64,.int .i64,.int .u64] x.A [.v (.int .i64 0),.v (.int .i64 0),.v (.int .u64 0)]=some (x.a==0&&(x.b==0&&x.c==0)):=by
 simp only [Hud.eqC,Id.A_def,and_self,if_true,Bool.and_true]
structure CardM where
 Device:Int
 Member:Int
 Lead:Nat
 Keep:Nat
 Sign:Nat
 deriving DecidableEq,Inhabited
def CardM.A (c:CardM):List AV:=[iv c.Device,iv c.Member,uv c.Lead,uv c.Keep,uv c.Sign]
theorem CardM.A_def (c:CardM):c.A=[iv c.Device,iv c.Member,uv c.Lead,uv c.Keep,uv c.Sign]:=Eq.trans rfl rfl
def CardM.ok (c:CardM):Prop:=okN c.Device/\okN c.Member/\c.Lead<18446744073709551616/\c.Keep<18446744073709551616/\c.Sign<18446744073709551616
end
section
open Go.Proofs.Tryz
def aGR:HFun:=⟨77,[(4,none)],zQ (zr [zo 2 (.box (zt 0)),zN 4] [0,4]) (zQ (zr [zv 13 5 2,zc 14 zI [zt 13],zm 5 14] [14,13]) (zQ (zE [zN 6] (.own 6 none 1)) (zQ (zE [zk 7 0] (zP 0 (zQ (zQ (zr [zm 15 7,zm 16 1,zn 17 16,zb 18 .lss 15 17] [17,16,15]) (zC 18 (zK [18] .skip) (zK [1,7,5,18] (.exit 0)))) (zQ (.block 1 (zQ (zR (zq (zv 21 5 2) (zq (zm 22 1) (zq (zm 23 7) (zq (zi 24 22 23 3) (zq (zv 25 3 24) (zA (zc 26 vI [zt 21,zt 25]) [] (zq (zm 8 26) (.done false)) .no)))))) [26,25,24,23,22,21]) (zQ (zQ (zr [zm 27 8,zj 28 .lss 27 0] [27]) (zC 28 (zK [8,28] (.exit 1)) (zK [28] .skip))) (zE [zk 9 0] (zQ (zP 2 (zQ (zQ (zR (zq (zm 29 9) (zq (zm 30 6) (zq (zn 31 30) (zq (zb 32 .lss 29 31) (zq (zm 33 32) (zq (zg 34 (.ld (some 5) (zt 2)) 33 true) (zq (zh 35 5 33 true) (zq (zh 36 6 33 true) (zq (zh 37 9 33 true) (zq (zg 38 (.iad (zt 36) (zt 37) 1) 33 true) (zq (zg 39 (.ld none (zt 38)) 33 true) (zq (zh 40 8 33 true) (zA (zg 41 (.call (.func aB5) [zt 34,zt 35,zt 39,zt 40]) 33 true) [] (zq (zo 42 (.pick (zt 33) (zt 41) zF)) (.done false)) .no))))))))))))) [41,40,39,38,37,36,35,34,33,32,31,30,29]) (zC 42 (zK [42] .skip) (zK [42] (.exit 2)))) (.block 3 (zr [zm 43 9,zj 44 .add 43 1,zm 9 44] [44,43])))) (zQ (zE [zN 10] (.own 10 none 1)) (zQ (zQ (zr [zm 45 10,zm 46 6,zm 47 9,zo 48 (.slc (zt 46) none (some (zt 47)) 1),zo 49 (.app (zt 45) (zt 48) 1 8),zm 10 49] [49,48,47,46,45]) (.own 10 none 1)) (zQ (zQ (zr [zm 50 10,zm 51 8,zo 52 (.bsl 1 [z0] [(0,(1,zt 51))] 1),zo 53 (.app (zt 50) (zt 52) 1 8),zm 10 53] [8,53,52,51,50]) (.own 10 none 1)) (zQ (zr [zm 54 10,zm 55 6,zm 56 9,zo 57 (.slc (zt 55) (some (zt 56)) none 1),zo 58 (.app (zt 54) (zt 57) 1 8),zm 6 58] [10,9,58,57,56,55,54]) (.own 6 none 1)))))))))) (zr [zm 19 7,zj 20 .add 19 1,zm 7 20] [20,19]))))) (zQ (zE [zN 11] (.own 11 none 3)) (zQ (zE [zk 12 0] (zP 4 (zQ (zQ (zr [zm 59 12,zm 60 6,zn 61 60,zb 62 .lss 59 61] [61,60,59]) (zC 62 (zK [62] .skip) (zK [2,6,12,62] (.exit 4)))) (zQ (.block 5 (zQ (zR (zq (zm 65 11) (zq (zf 66 2 2) (zq (zl 67 66) (zq (zm 68 6) (zq (zm 69 12) (zq (zi 70 68 69 1) (zq (zl 71 70) (zq (zi 72 67 71 3) (zq (zv 73 3 72) (zA (zo 74 (.bsl 3 [z0,z0,zU] [(0,(3,zt 73))] 1)) [zm 65 11] (zA (zo 75 (.app (zt 65) (zt 74) 3 24)) [] (zA (zm 11 75) [] (.done false) .no) .no) .no)))))))))) [75,74,73,72,71,70,69,68,67,66,65]) (.own 11 none 3))) (zr [zm 63 12,zj 64 .add 63 1,zm 12 64] [64,63]))))) (zQ (zQ (zr [zm 76 11,zm 4 76] [11,76]) (.own 4 none 3)) .ret))))))⟩
theorem aJU:aB prog vF [(4,none,3),(6,none,1),(10,none,1),(11,none,3)]=some aGR:=by kernel_rfl
def aGS:HFun:=⟨21,[(4,none)],zQ (zr [zo 2 (.box (zt 0)),zo 3 (.box (zt 1)),zk 4 0] [0,1,4]) (zQ (zE [zk 5 0] (zP 0 (zQ (zQ (zr [zm 6 5,zf 7 2 2,zl 8 7,zn 9 8,zb 10 .lss 6 9] [9,8,7,6]) (zC 10 (zK [10] .skip) (zK [2,5,3,10] (.exit 0)))) (zQ (.block 1 (zQ (zR (zq (zf 13 2 2) (zq (zl 14 13) (zq (zm 15 5) (zq (zi 16 14 15 3) (zq (zv 17 3 16) (zq (zv 18 3 3) (zq (zo 19 (.eqa false [.int .i64,.int .i64,.int .u64] (zt 17) (zt 18))) (.done false)))))))) [18,17,16,15,14,13]) (zC 19 (zK [3,2,19] (zQ (zr [zm 20 5,zm 4 20] [5,20]) .ret)) (zK [19] .skip)))) (zr [zm 11 5,zj 12 .add 11 1,zm 5 12] [12,11]))))) (zE [zk 4 (-1)] .ret))⟩
theorem aJV:aB prog fF []=some aGS:=by kernel_rfl
def aDy:HFun:=⟨28,[(4,some (some 5)),(5,none)],zQ (zr [zo 2 (.box (zt 0)),zo 4 (.alloc [z0,z0,zU,zU,zU]),zo 5 (.mov zF)] [0,5]) (zQ (zE [zk 6 0] (zP 0 (zQ (zQ (zr [zm 7 6,zf 8 2 0,zl 9 8,zn 10 9,zb 11 .lss 7 10] [10,9,8,7]) (zC 11 (zK [11] .skip) (zK [2,6,1,11] (.exit 0)))) (zQ (.block 1 (zQ (zr [zf 14 2 0,zl 15 14,zm 16 6,zi 17 15 16 5,zf 18 17 0,zl 19 18,zm 20 1,zb 21 .eql 19 20] [20,19,18,17,16,15,14]) (zC 21 (zK [1,21] (zQ (zr [zf 22 2 0,zl 23 22,zm 24 6,zi 25 23 24 5,zv 26 5 25,zs (.st 5 (zt 4) (zt 26)),zo 5 (.mov zT)] [2,6,26,25,24,23,22]) .ret)) (zK [21] .skip)))) (zr [zm 12 6,zj 13 .add 12 1,zm 6 13] [13,12]))))) (zQ (zr [zo 27 (.bld [z0,z0,zU,zU,zU] []),zs (.st 5 (zt 4) (zt 27)),zo 5 (.mov zF)] [27]) .ret))⟩
theorem aCG:aB prog kC []=some aDy:=by kernel_rfl
def aN3:HFun:=⟨5,[(2,some (some 5))],zE [zo 2 (.alloc [zS,zS,zS,zS,zS])] (zQ (zr [zm 3 0,zo 4 (.bld [zS,zS,zS,zS,zS] [(0,(1,zt 3))]),zs (.st 5 (zt 2) (zt 4))] [0,4,3]) .ret)⟩
theorem aOl:aB prog aFz []=some aN3:=by kernel_rfl
def aBv:HFun:=⟨33,[(2,none)],zQ (zr [zN 2] [2]) (zQ (zE [zN 3] (.own 3 none 5)) (zQ (zE [zk 4 0] (zP 0 (zQ (zQ (zr [zm 6 4,zm 7 0,zn 8 7,zb 9 .lss 6 8] [8,7,6]) (zC 9 (zK [9] .skip) (zK [4,0,9] (.exit 0)))) (zQ (.block 1 (zQ (zr [zm 12 4,zj 13 .add 12 1,zm 5 13] [13,12]) (zQ (zR (zq (zm 14 3) (zq (zm 15 5) (zq (zm 16 0) (zq (zm 17 4) (zq (zi 18 16 17 1) (zq (zl 19 18) (zq (zm 20 5) (zq (zm 23 5) (zq (zm 26 5) (zA (zc 21 fC [.const (.string (Hud.bs [108,101,97,100])),zt 20]) [zm 26 5,zm 23 5,zl 19 18,zi 18 16 17 1,zm 17 4,zm 16 0,zm 15 5,zm 14 3] (zA (zc 22 qB [zt 21]) [zm 26 5,zm 23 5,zl 19 18,zi 18 16 17 1,zm 17 4,zm 16 0,zm 15 5,zm 14 3] (zA (zc 24 fC [.const (.string (Hud.bs [107,101,101,112])),zt 23]) [zm 26 5,zl 19 18,zi 18 16 17 1,zm 17 4,zm 16 0,zm 15 5,zm 14 3] (zA (zc 25 qB [zt 24]) [zm 26 5,zl 19 18,zi 18 16 17 1,zm 17 4,zm 16 0,zm 15 5,zm 14 3] (zA (zc 27 fC [.const (.string (Hud.bs [115,105,103,110])),zt 26]) [zl 19 18,zi 18 16 17 1,zm 17 4,zm 16 0,zm 15 5,zm 14 3] (zA (zc 28 qB [zt 27]) [zl 19 18,zi 18 16 17 1,zm 17 4,zm 16 0,zm 15 5,zm 14 3] (zq (zo 29 (.bld [z0,z0,zU,zU,zU] [(0,(1,zt 15)),(1,(1,zt 19)),(2,(1,zt 22)),(3,(1,zt 25)),(4,(1,zt 28))])) (zA (zo 30 (.bsl 5 [z0,z0,zU,zU,zU] [(0,(5,zt 29))] 1)) [zm 14 3] (zA (zo 31 (.app (zt 14) (zt 30) 5 40)) [] (zA (zm 3 31) [] (.done false) .no) .no) .no)) .no) .no) .no) .no) .no) .no)))))))))) [5,31,30,29,28,27,26,25,24,23,22,21,20,19,18,17,16,15,14]) (.own 3 none 5)))) (zr [zm 10 4,zj 11 .add 10 1,zm 4 11] [11,10]))))) (zQ (zQ (zr [zm 32 3,zm 2 32] [3,32]) (.own 2 none 5)) .ret)))⟩
theorem aBw:aB prog lO [(2,none,5),(3,none,5)]=some aBv:=by kernel_rfl
def aEH:HFun:=⟨11,[(2,some (some 27))],zQ (zr [zo 1 (.box (zt 0)),zo 2 (.alloc [z0,z0,z0,z0,zS,z0,z0,z0,z0,zS,z0,z0,zU,z0,zS,zS,z0,z0,zU,zS,z0,z0,zS,zU,zS,zU,zU])] [0]) (zQ (zR (zq (zf 3 1 0) (zq (zl 4 3) (zq (zv 6 27 1) (zA (zc 5 fC [.const (.string (Hud.bs [115,105,103,110])),zt 4]) [zv 6 27 1] (zA (zc 7 rE [zt 6]) [] (zA (zc 8 aDg [zt 5,zt 7]) [] (zq (zf 9 1 25) (zA (zs (.st 2 (zt 9) (zt 8))) [] (.done false) .no)) .no) .no) .no)))) [9,8,7,6,5,4,3]) (zQ (zr [zv 10 27 1,zs (.st 27 (zt 2) (zt 10))] [1,10]) .ret))⟩
theorem aHB:aB prog bN []=some aEH:=by kernel_rfl
def aN4:HFun:=⟨87,[(4,some (some 5)),(5,none)],zQ (zr [zo 2 (.box (zt 0)),zo 3 (.box (zt 1)),zo 4 (.alloc [zS,zS,zS,zS,zS]),zk 5 0] [0,1,5]) (zQ (zr [zv 13 5 2,zv 14 27 3,zc 15 dJ [zt 13,zt 14],zm 12 15,ze 16 12 0,ze 17 12 1,zm 6 16,zm 7 17] [17,16,12,15,14,13]) (zQ (zQ (zr [zm 18 6,zj 19 .neq 18 0] [18]) (zC 19 (zK [7,3,19] (zQ (zr [zv 20 5 2,zm 21 6,zs (.st 5 (zt 4) (zt 20)),zm 5 21] [2,6,21,20]) .ret)) (zK [6,19] .skip))) (zQ (zr [zv 22 5 2,zm 23 7,zc 24 zM [zt 22,zt 23],zm 8 24] [24,23,22]) (zQ (zE [zo 9 (.alloc [zS,zS,zS,zS,zS])] (.own 9 (some 4) 1)) (zQ (zr [zf 25 2 0,zl 26 25,zf 27 9 0,zs (.st 1 (zt 27) (zt 26))] [27,26,25]) (zQ (zR (zq (zf 28 9 1) (zq (zl 29 28) (zq (zf 30 2 1) (zq (zl 31 30) (zq (zv 33 27 3) (zA (zo 32 (.app (zt 29) (zt 31) 27 328)) [zv 33 27 3] (zA (zo 34 (.bsl 27 [z0,z0,z0,z0,zS,z0,z0,z0,z0,zS,z0,z0,zU,z0,zS,zS,z0,z0,zU,zS,z0,z0,zS,zU,zS,zU,zU] [(0,(27,zt 33))] 1)) [] (zA (zo 35 (.app (zt 32) (zt 34) 27 328)) [] (zq (zf 36 9 1) (zA (zs (.st 1 (zt 36) (zt 35))) [] (.done true) .no)) .no) .no) (zA (zo 34 (.bsl 27 [z0,z0,z0,z0,zS,z0,z0,z0,z0,zS,z0,z0,zU,z0,zS,zS,z0,z0,zU,zS,z0,z0,zS,zU,zS,zU,zU] [(0,(27,zt 33))] 1)) [zl 31 30,zf 30 2 1,zl 29 28,zf 28 9 1] (zA (zo 32 (.app (zt 29) (zt 31) 27 328)) [] (zA (zo 35 (.app (zt 32) (zt 34) 27 328)) [] (zq (zf 36 9 1) (zA (zs (.st 1 (zt 36) (zt 35))) [] (.done true) .no)) .no) .no) .no))))))) [36,35,34,33,32,31,30,29,28]) (zQ (zR (zq (zf 37 9 2) (zq (zl 38 37) (zq (zf 39 2 2) (zq (zl 40 39) (zq (zv 42 27 3) (zA (zo 41 (.app (zt 38) (zt 40) 3 24)) [zv 42 27 3] (zA (zc 43 aB6 [zt 42]) [] (zA (zo 44 (.bsl 3 [z0,z0,zU] [(0,(3,zt 43))] 1)) [] (zA (zo 45 (.app (zt 41) (zt 44) 3 24)) [] (zq (zf 46 9 2) (zA (zs (.st 1 (zt 46) (zt 45))) [] (.done false) .no)) .no) .no) .no) .no)))))) [3,46,45,44,43,42,41,40,39,38,37]) (zQ (zr [zf 47 9 3,zl 48 47,zf 49 2 3,zl 50 49,zo 51 (.app (zt 48) (zt 50) 1 24),zm 52 7,zo 53 (.bsl 1 [zS] [(0,(1,zt 52))] 1),zo 54 (.app (zt 51) (zt 53) 1 24),zf 55 9 3,zs (.st 1 (zt 55) (zt 54))] [7,55,54,53,52,51,50,49,48,47]) (zQ (zE [zk 10 0] (zP 0 (zQ (zQ (zr [zm 56 10,zf 57 2 4,zl 58 57,zn 59 58,zb 60 .lss 56 59] [59,58,57,56]) (zC 60 (zK [60] .skip) (zK [10,2,60] (.exit 0)))) (zQ (.block 1 (zQ (zE [zN 11] (.own 11 none 1)) (zQ (zQ (zr [zm 63 11,zf 64 2 4,zl 65 64,zm 66 10,zi 67 65 66 1,zl 68 67,zo 69 (.app (zt 63) (zt 68) 1 1),zm 11 69] [69,68,67,66,65,64,63]) (.own 11 none 1)) (zR (zq (zf 70 9 4) (zq (zl 71 70) (zq (zm 72 11) (zA (zo 73 (.bsl 1 [.bool false] [(0,(1,.const (.bool false)))] 1)) [zm 72 11,zl 71 70,zf 70 9 4] (zA (zo 74 (.app (zt 72) (zt 73) 1 1)) [zl 71 70,zf 70 9 4] (zA (zo 75 (.bslS 1 [zS] [(0,(1,zt 74))] 1)) [zl 71 70,zf 70 9 4] (zA (zo 76 (.app (zt 71) (zt 75) 1 24)) [] (zq (zf 77 9 4) (zA (zs (.st 1 (zt 77) (zt 76))) [] (.done false) .no)) .no) .no) .no) .no)))) [11,77,76,75,74,73,72,71,70])))) (zr [zm 61 10,zj 62 .add 61 1,zm 10 62] [62,61]))))) (zQ (zR (zq (zf 78 9 4) (zq (zl 79 78) (zq (zm 80 8) (zA (zo 81 (.bsl 1 [.bool false] [(0,(1,.const (.bool false)))] 1)) [zm 80 8,zl 79 78,zf 78 9 4] (zA (zo 82 (.app (zt 80) (zt 81) 1 1)) [zl 79 78,zf 78 9 4] (zA (zo 83 (.bslS 1 [zS] [(0,(1,zt 82))] 1)) [zl 79 78,zf 78 9 4] (zA (zo 84 (.app (zt 79) (zt 83) 1 24)) [] (zq (zf 85 9 4) (zA (zs (.st 1 (zt 85) (zt 84))) [] (.done false) .no)) .no) .no) .no) .no)))) [8,85,84,83,82,81,80,79,78]) (zQ (zr [zv 86 5 9,zs (.st 5 (zt 4) (zt 86)),zk 5 0] [9,86]) .ret)))))))))))⟩
theorem aOm:aB prog eE [(11,none,1),(75,none,1001),(83,none,1001),(9,some 4,1)]=some aN4:=by kernel_rfl
def aN5:HFun:=⟨6,[(2,none)],zQ (zr [zo 1 (.box (zt 0)),zN 2] [0,2]) (zQ (zr [zf 3 1 2,zl 4 3,zc 5 kB [zt 4],zm 2 5] [1,5,4,3]) .ret)⟩
theorem aOn:aB prog fJ []=some aN5:=by kernel_rfl
def aJW:HFun:=⟨41,[(4,none)],zQ (zr [zo 2 (.box (zt 0)),zN 4] [0,4]) (zQ (zr [zv 7 5 2,zm 8 1,zc 9 zO [zt 7,zt 8],zm 5 9] [9,8,7]) (zQ (zE [zk 6 0] (zP 0 (zQ (zQ (zr [zm 10 6,zm 11 1,zn 12 11,zb 13 .lss 10 12] [12,11,10]) (zC 13 (zK [13] .skip) (zK [2,1,6,13] (.exit 0)))) (zQ (.block 1 (zQ (zR (zq (zv 16 5 2) (zq (zm 17 1) (zq (zm 18 6) (zq (zi 19 17 18 3) (zq (zv 20 3 19) (zA (zc 21 fF [zt 16,zt 20]) [] (zq (zj 22 .geq 21 0) (zq (zm 23 22) (zq (zh 24 5 23 true) (zq (zh 25 1 23 true) (zq (zh 26 6 23 true) (zq (zg 27 (.iad (zt 25) (zt 26) 3) 23 true) (zq (zg 28 (.ld (some 3) (zt 27)) 23 true) (zA (zg 29 (.call (.func rA) [zt 24,zt 28]) 23 true) [] (zq (zg 30 (.un .not (zt 29)) 23 true) (zq (zo 31 (.pick (zt 23) (zt 30) zF)) (.done false))) .no)))))))) .no)))))) [30,29,28,27,26,25,24,23,22,21,20,19,18,17,16]) (zC 31 (zK [31] (zr [zm 32 5,zm 33 1,zm 34 6,zi 35 33 34 3,zv 36 3 35,zo 37 (.bsl 3 [z0,z0,zU] [(0,(3,zt 36))] 1),zo 38 (.app (zt 32) (zt 37) 3 24),zm 5 38] [38,37,36,35,34,33,32])) (zK [31] .skip)))) (zr [zm 14 6,zj 15 .add 14 1,zm 6 15] [15,14]))))) (zQ (zr [zm 39 5,zc 40 kB [zt 39],zm 4 40] [5,40,39]) .ret)))⟩
theorem aLQ:aB prog aDc []=some aJW:=by kernel_rfl
def aEI:HFun:=⟨43,[(2,none)],zQ (zr [zo 1 (.box (zt 0)),zN 2] [0,2]) (zQ (zE [zN 3] (.own 3 none 1)) (zQ (zE [zk 4 0] (zP 0 (zQ (zQ (zr [zm 7 4,zf 8 1 1,zl 9 8,zn 10 9,zb 11 .lss 7 10] [10,9,8,7]) (zC 11 (zK [11] .skip) (zK [1,4,11] (.exit 0)))) (zQ (.block 1 (zE [zk 5 1] (zQ (zE [zk 6 0] (zP 2 (zQ (zQ (zr [zm 14 6,zf 15 1 3,zl 16 15,zm 17 4,zi 18 16 17 1,zl 19 18,zn 20 19,zb 21 .lss 14 20] [20,19,18,17,16,15,14]) (zC 21 (zK [21] .skip) (zK [6,21] (.exit 2)))) (zQ (.block 3 (zr [zm 24 5,zm 25 3,zf 26 1 3,zl 27 26,zm 28 4,zi 29 27 28 1,zl 30 29,zm 31 6,zi 32 30 31 1,zl 33 32,zi 34 25 33 1,zl 35 34,zo 36 (.bin .add (zw 1) (zt 35)),zo 37 (.mm true (zt 24) (zt 36)),zm 5 37] [37,36,35,34,33,32,31,30,29,28,27,26,25,24])) (zr [zm 22 6,zj 23 .add 22 1,zm 6 23] [23,22]))))) (zQ (zr [zm 38 3,zm 39 5,zo 40 (.bsl 1 [z0] [(0,(1,zt 39))] 1),zo 41 (.app (zt 38) (zt 40) 1 8),zm 3 41] [5,41,40,39,38]) (.own 3 none 1))))) (zr [zm 12 4,zj 13 .add 12 1,zm 4 13] [13,12]))))) (zQ (zQ (zr [zm 42 3,zm 2 42] [3,42]) (.own 2 none 1)) .ret)))⟩
theorem aHC:aB prog zI [(2,none,1),(3,none,1)]=some aEI:=by kernel_rfl
def aGT:HFun:=⟨8,[(4,none)],zQ (zr [zo 2 (.box (zt 0)),zo 3 (.box (zt 1)),zk 4 0] [0,1,4]) (zQ (zr [zv 5 5 2,zv 6 3 3,zc 7 fF [zt 5,zt 6],zm 4 7] [2,3,7,6,5]) .ret)⟩
theorem aJX:aB prog vI []=some aGT:=by kernel_rfl
def aGU:HFun:=⟨38,[(8,none)],zQ (zr [zo 4 (.box (zt 0)),zo 8 (.mov zF)] [0,8]) (zQ (zQ (zR (zq (zm 9 1) (zq (zm 10 2) (zq (zi 11 9 10 1) (zq (zl 12 11) (zq (zm 13 1) (zq (zm 14 3) (zq (zi 15 13 14 1) (zq (zl 16 15) (zq (zb 17 .neq 12 16) (.done false)))))))))) [16,15,14,13,12,11,10,9]) (zC 17 (zK [4,17] (zQ (zR (zq (zm 18 1) (zq (zm 19 2) (zq (zi 20 18 19 1) (zq (zl 21 20) (zq (zm 22 1) (zq (zm 23 3) (zq (zi 24 22 23 1) (zq (zl 25 24) (zq (zb 26 .lss 21 25) (zq (zm 8 26) (.done false))))))))))) [1,2,3,26,25,24,23,22,21,20,19,18]) .ret)) (zK [1,17] .skip))) (zQ (zR (zq (zf 27 4 2) (zq (zl 28 27) (zq (zm 29 2) (zq (zi 30 28 29 3) (zq (zv 31 3 30) (zq (zf 32 4 2) (zq (zl 33 32) (zq (zm 34 3) (zq (zi 35 33 34 3) (zq (zv 36 3 35) (zA (zc 37 tS [zt 31,zt 36]) [] (zq (zm 8 37) (.done false)) .no))))))))))) [4,2,3,37,36,35,34,33,32,31,30,29,28,27]) .ret))⟩
theorem aJY:aB prog aB5 []=some aGU:=by kernel_rfl
def aAe:HFun:=⟨10,[(4,none)],zQ (zr [zo 4 (.mov (zu 0))] [4]) (zQ (zr [zm 5 0,zm 6 1,zo 7 (.conv .u64 (zt 6)),zo 8 (.bsl 1 [zU] [(0,(1,zt 7))] 1),zc 9 mD [zt 5,zt 8],zm 4 9] [0,1,9,8,7,6,5]) .ret)⟩
theorem aAC:aB prog fC []=some aAe:=by kernel_rfl
def aGV:HFun:=⟨51,[(4,none)],zQ (zr [zo 2 (.box (zt 0)),zN 4] [0,4]) (zQ (zr [zv 8 5 2,zm 9 1,zc 10 zO [zt 8,zt 9],zm 5 10] [10,9,8]) (zQ (zE [zN 6] (.own 6 none 3)) (zQ (zE [zk 7 0] (zP 0 (zQ (zQ (zr [zm 11 7,zm 12 1,zn 13 12,zb 14 .lss 11 13] [13,12,11]) (zC 14 (zK [14] .skip) (zK [2,1,7,5,14] (.exit 0)))) (zQ (.block 1 (zQ (zR (zq (zv 17 5 2) (zq (zm 18 1) (zq (zm 19 7) (zq (zi 20 18 19 3) (zq (zv 21 3 20) (zA (zc 22 fF [zt 17,zt 21]) [] (zq (zj 23 .geq 22 0) (zq (zm 24 23) (zq (zh 25 5 24 true) (zq (zh 26 1 24 true) (zq (zh 27 7 24 true) (zq (zg 28 (.iad (zt 26) (zt 27) 3) 24 true) (zq (zg 29 (.ld (some 3) (zt 28)) 24 true) (zA (zg 30 (.call (.func rA) [zt 25,zt 29]) 24 true) [] (zq (zg 31 (.un .not (zt 30)) 24 true) (zq (zo 32 (.pick (zt 24) (zt 31) zF)) (zq (zm 33 32) (zq (zh 34 6 33 true) (zq (zh 35 1 33 true) (zq (zh 36 7 33 true) (zq (zg 37 (.iad (zt 35) (zt 36) 3) 33 true) (zq (zg 38 (.ld (some 3) (zt 37)) 33 true) (zA (zg 39 (.call (.func rA) [zt 34,zt 38]) 33 true) [] (zq (zg 40 (.un .not (zt 39)) 33 true) (zq (zo 41 (.pick (zt 33) (zt 40) zF)) (.done false))) .no))))))))) .no)))))))) .no)))))) [40,39,38,37,36,35,34,33,32,31,30,29,28,27,26,25,24,23,22,21,20,19,18,17]) (zC 41 (zK [41] (zQ (zr [zm 42 6,zm 43 1,zm 44 7,zi 45 43 44 3,zv 46 3 45,zo 47 (.bsl 3 [z0,z0,zU] [(0,(3,zt 46))] 1),zo 48 (.app (zt 42) (zt 47) 3 24),zm 6 48] [48,47,46,45,44,43,42]) (.own 6 none 3))) (zK [41] .skip)))) (zr [zm 15 7,zj 16 .add 15 1,zm 7 16] [16,15]))))) (zQ (zr [zm 49 6,zc 50 kB [zt 49],zm 4 50] [6,50,49]) .ret))))⟩
theorem aJZ:aB prog dI [(6,none,3)]=some aGV:=by kernel_rfl
def aN6:HFun:=⟨31,[(6,none)],zQ (zr [zo 3 (.box (zt 0)),zk 6 0] [0,6,3]) (zE [zk 7 0] (zQ (zE [zk 8 0] (zP 0 (zQ (zQ (zr [zm 9 8,zm 10 1,zn 11 10,zb 12 .lss 9 11] [11,10,9]) (zC 12 (zK [12] .skip) (zK [1,8,2,12] (.exit 0)))) (zQ (.block 1 (zQ (zr [zm 15 1,zm 16 8,zi 17 15 16 3,zf 18 17 0,zl 19 18,zm 20 2,zb 21 .eql 19 20] [20,19,18,17,16,15]) (zC 21 (zK [21] (zr [zm 22 7,zm 23 1,zm 24 8,zi 25 23 24 3,zf 26 25 1,zl 27 26,zo 28 (.mm true (zt 22) (zt 27)),zm 7 28] [28,27,26,25,24,23,22])) (zK [21] .skip)))) (zr [zm 13 8,zj 14 .add 13 1,zm 8 14] [14,13]))))) (zQ (zr [zm 29 7,zj 30 .add 29 1,zm 6 30] [7,30,29]) .ret)))⟩
theorem aOo:aB prog aFA []=some aN6:=by kernel_rfl
def aK0:HFun:=⟨31,[(4,none)],zQ (zr [zo 2 (.box (zt 0)),zk 4 0] [0,4]) (zE [zk 5 0] (zQ (zE [zk 6 0] (zP 0 (zQ (zQ (zr [zm 8 6,zm 9 1,zn 10 9,zb 11 .lss 8 10] [10,9,8]) (zC 11 (zK [11] .skip) (zK [2,1,6,11] (.exit 0)))) (zQ (.block 1 (zQ (zR (zq (zv 14 5 2) (zq (zm 15 1) (zq (zm 16 6) (zq (zi 17 15 16 3) (zq (zv 18 3 17) (zA (zc 19 fF [zt 14,zt 18]) [] (zq (zm 7 19) (.done false)) .no)))))) [19,18,17,16,15,14]) (zQ (zr [zm 20 7,zj 21 .geq 20 0] [20]) (zC 21 (zK [21] (zr [zm 22 5,zf 23 2 1,zl 24 23,zm 25 7,zi 26 24 25 27,zf 27 26 3,zl 28 27,zo 29 (.mm true (zt 22) (zt 28)),zm 5 29] [7,29,28,27,26,25,24,23,22])) (zK [7,21] .skip))))) (zr [zm 12 6,zj 13 .add 12 1,zm 6 13] [13,12]))))) (zQ (zr [zm 30 5,zm 4 30] [5,30]) .ret)))⟩
theorem aLR:aB prog aDf []=some aK0:=by kernel_rfl
def aGW:HFun:=⟨169,[(2,none)],zQ (zr [zo 1 (.box (zt 0)),zN 2] [0,2]) (zQ (zr [zf 7 1 0,zl 8 7,zf 9 1 1,zl 10 9,zf 11 1 2,zl 12 11,zf 13 1 3,zl 14 13,zf 15 1 4,zl 16 15,zn 17 16,zo 18 (.bsl 1 [z0,z0,z0,z0,z0] [(0,(1,zt 8)),(1,(1,zt 10)),(2,(1,zt 12)),(3,(1,zt 14)),(4,(1,zt 17))] 5),zc 19 qC [zt 18],zm 3 19] [19,18,17,16,15,14,13,12,11,10,9,8,7]) (zQ (zE [zk 4 0] (zP 0 (zQ (zQ (zr [zm 20 4,zf 21 1 4,zl 22 21,zn 23 22,zb 24 .lss 20 23] [23,22,21,20]) (zC 24 (zK [24] .skip) (zK [4,24] (.exit 0)))) (zQ (.block 1 (zr [zm 27 3,zf 28 1 4,zl 29 28,zm 30 4,zi 31 29 30 3,zv 32 3 31,zc 33 oD [zt 32],zo 34 (.app (zt 27) (zt 33) 1 1),zm 3 34] [34,33,32,31,30,29,28,27])) (zr [zm 25 4,zj 26 .add 25 1,zm 4 26] [26,25]))))) (zQ (zr [zm 35 3,zf 36 1 5,zl 37 36,zf 38 1 6,zl 39 38,zf 40 1 7,zl 41 40,zf 42 1 8,zl 43 42,zf 44 1 9,zl 45 44,zn 46 45,zo 47 (.bsl 1 [z0,z0,z0,z0,z0] [(0,(1,zt 37)),(1,(1,zt 39)),(2,(1,zt 41)),(3,(1,zt 43)),(4,(1,zt 46))] 5),zc 48 qC [zt 47],zo 49 (.app (zt 35) (zt 48) 1 1),zm 3 49] [49,48,47,46,45,44,43,42,41,40,39,38,37,36,35]) (zQ (zE [zk 5 0] (zP 2 (zQ (zQ (zr [zm 50 5,zf 51 1 9,zl 52 51,zn 53 52,zb 54 .lss 50 53] [53,52,51,50]) (zC 54 (zK [54] .skip) (zK [5,54] (.exit 2)))) (zQ (.block 3 (zQ (zr [zm 57 3,zf 58 1 9,zl 59 58,zm 60 5,zi 61 59 60 2,zf 62 61 0,zl 63 62,zc 64 oE [zt 63],zo 65 (.app (zt 57) (zt 64) 1 1),zm 3 65] [65,64,63,62,61,60,59,58,57]) (zr [zm 66 3,zf 67 1 9,zl 68 67,zm 69 5,zi 70 68 69 2,zf 71 70 1,zl 72 71,zc 73 vJ [zt 72],zo 74 (.app (zt 66) (zt 73) 1 1),zm 3 74] [74,73,72,71,70,69,68,67,66]))) (zr [zm 55 5,zj 56 .add 55 1,zm 5 56] [56,55]))))) (zQ (zr [zm 75 3,zf 76 1 10,zv 77 3 76,zc 78 oD [zt 77],zo 79 (.app (zt 75) (zt 78) 1 1),zm 3 79] [79,78,77,76,75]) (zQ (zr [zm 80 3,zf 81 1 13,zl 82 81,zc 83 dZ [zt 82],zo 84 (.app (zt 80) (zt 83) 1 1),zm 3 84] [84,83,82,81,80]) (zQ (zr [zm 85 3,zf 86 1 14,zl 87 86,zo 88 (.b2s (zt 87)),zc 89 zW [zt 88],zo 90 (.app (zt 85) (zt 89) 1 1),zm 3 90] [90,89,88,87,86,85]) (zQ (zr [zm 91 3,zf 92 1 15,zl 93 92,zn 94 93,zc 95 dZ [zt 94],zo 96 (.app (zt 91) (zt 95) 1 1),zm 3 96] [96,95,94,93,92,91]) (zQ (zr [zm 97 3,zf 98 1 15,zl 99 98,zc 100 zX [zt 99],zo 101 (.app (zt 97) (zt 100) 1 1),zm 3 101] [101,100,99,98,97]) (zQ (zr [zm 102 3,zf 103 1 16,zv 104 3 103,zc 105 oD [zt 104],zo 106 (.app (zt 102) (zt 105) 1 1),zm 3 106] [106,105,104,103,102]) (zQ (zr [zm 107 3,zf 108 1 19,zl 109 108,zn 110 109,zc 111 dZ [zt 110],zo 112 (.app (zt 107) (zt 111) 1 1),zm 3 112] [112,111,110,109,108,107]) (zQ (zr [zm 113 3,zf 114 1 19,zl 115 114,zc 116 qC [zt 115],zo 117 (.app (zt 113) (zt 116) 1 1),zm 3 117] [117,116,115,114,113]) (zQ (zr [zm 118 3,zf 119 1 20,zl 120 119,zf 121 1 21,zl 122 121,zo 123 (.bsl 1 [z0,z0] [(0,(1,zt 120)),(1,(1,zt 122))] 2),zc 124 qC [zt 123],zo 125 (.app (zt 118) (zt 124) 1 1),zm 3 125] [125,124,123,122,121,120,119,118]) (zQ (zr [zm 126 3,zf 127 1 22,zl 128 127,zc 129 vJ [zt 128],zo 130 (.app (zt 126) (zt 129) 1 1),zm 3 130] [130,129,128,127,126]) (zQ (zr [zm 131 3,zf 132 1 23,zl 133 132,zc 134 oE [zt 133],zo 135 (.app (zt 131) (zt 134) 1 1),zm 3 135] [135,134,133,132,131]) (zQ (zr [zm 136 3,zf 137 1 24,zl 138 137,zn 139 138,zc 140 dZ [zt 139],zo 141 (.app (zt 136) (zt 140) 1 1),zm 3 141] [141,140,139,138,137,136]) (zQ (zE [zk 6 0] (zP 4 (zQ (zQ (zr [zm 142 6,zf 143 1 24,zl 144 143,zn 145 144,zb 146 .lss 142 145] [145,144,143,142]) (zC 146 (zK [146] .skip) (zK [1,6,146] (.exit 4)))) (zQ (.block 5 (zQ (zr [zm 149 3,zf 150 1 24,zl 151 150,zm 152 6,zi 153 151 152 4,zf 154 153 0,zv 155 3 154,zc 156 oD [zt 155],zo 157 (.app (zt 149) (zt 156) 1 1),zm 3 157] [157,156,155,154,153,152,151,150,149]) (zr [zm 158 3,zf 159 1 24,zl 160 159,zm 161 6,zi 162 160 161 4,zf 163 162 3,zl 164 163,zo 165 (.b2s (zt 164)),zc 166 zW [zt 165],zo 167 (.app (zt 158) (zt 166) 1 1),zm 3 167] [167,166,165,164,163,162,161,160,159,158]))) (zr [zm 147 6,zj 148 .add 147 1,zm 6 148] [148,147]))))) (zQ (zQ (zr [zm 168 3,zm 2 168] [3,168]) (.own 2 none 1)) .ret))))))))))))))))))⟩
theorem aK1:aB prog rE [(2,none,1)]=some aGW:=by kernel_rfl
def aGX:HFun:=⟨122,[(4,none),(5,none)],zQ (zr [zo 2 (.box (zt 0)),zo 3 (.box (zt 1)),zk 4 0,zN 5] [0,1,5,4]) (zQ (zr [zv 15 27 3,zc 16 aB9 [zt 15],zm 6 16] [16,15]) (zQ (zQ (zr [zm 17 6,zj 18 .neq 17 0] [17]) (zC 18 (zK [2,3,18] (zQ (zQ (zr [zm 19 6,zm 4 19,zN 5] [6,19]) (.own 5 none 1)) .ret)) (zK [6,18] .skip))) (zQ (zQ (zR (zq (zv 20 5 2) (zq (zv 21 27 3) (zA (zc 22 aB6 [zt 21]) [zv 20 5 2] (zA (zc 23 fF [zt 20,zt 22]) [] (zq (zj 24 .geq 23 0) (.done false)) .no) .no))) [23,22,21,20]) (zC 24 (zK [2,3,24] (zQ (zE [zk 4 5,zN 5] (.own 5 none 1)) .ret)) (zK [24] .skip))) (zQ (zQ (zr [zf 25 2 1,zl 26 25,zn 27 26,zj 28 .geq 27 200] [27,26,25]) (zC 28 (zK [2,3,28] (zQ (zE [zk 4 3,zN 5] (.own 5 none 1)) .ret)) (zK [28] .skip))) (zQ (zr [zv 30 5 2,zf 31 3 0,zl 32 31,zc 33 kC [zt 30,zt 32],zm 29 33,ze 34 29 0,ze 35 29 1,zo 7 (.alloc [z0,z0,zU,zU,zU]),zs (.st 5 (zt 7) (zt 34)),zm 8 35] [35,34,29,33,32,31,30]) (zQ (zQ (zr [zm 36 8,zo 37 (.un .not (zt 36))] [8,36]) (zC 37 (zK [7,3,2,37] (zQ (zE [zk 4 17,zN 5] (.own 5 none 1)) .ret)) (zK [37] .skip))) (zQ (zR (zq (zf 38 7 4) (zq (zl 39 38) (zq (zv 40 27 3) (zq (zf 42 3 25) (zq (zv 43 2 42) (zA (zc 41 rE [zt 40]) [zv 43 2 42,zf 42 3 25,zl 39 38,zf 38 7 4] (zA (zc 44 aBa [zt 39,zt 41,zt 43]) [] (zq (zm 9 44) (.done false)) .no) .no)))))) [7,44,43,42,41,40,39,38]) (zQ (zQ (zr [zm 45 9,zo 46 (.un .not (zt 45))] [9,45]) (zC 46 (zK [3,2,46] (zQ (zE [zk 4 12,zN 5] (.own 5 none 1)) .ret)) (zK [46] .skip))) (zQ (zQ (zr [zf 47 3 2,zl 48 47,zj 49 .eql 48 1,zm 50 49,zg 51 (.fad (zt 2) 1) 50 true,zg 52 (.ld none (zt 51)) 50 true,zg 53 (.lenL (zt 52)) 50 true,zg 54 (.bin .gtr (zt 53) (zw 0)) 50 true,zo 55 (.pick (zt 50) (zt 54) zF)] [54,53,52,51,50,49,48,47]) (zC 55 (zK [3,2,55] (zQ (zE [zk 4 1,zN 5] (.own 5 none 1)) .ret)) (zK [55] .skip))) (zQ (zE [zN 10] (.own 10 none 1)) (zQ (zE [zk 11 0] (zP 0 (zQ (zQ (zr [zm 56 11,zf 57 3 4,zl 58 57,zn 59 58,zb 60 .lss 56 59] [59,58,57,56]) (zC 60 (zK [60] .skip) (zK [11,60] (.exit 0)))) (zQ (.block 1 (zQ (zR (zq (zv 63 5 2) (zq (zf 64 3 4) (zq (zl 65 64) (zq (zm 66 11) (zq (zi 67 65 66 3) (zq (zv 68 3 67) (zA (zc 69 fF [zt 63,zt 68]) [] (zq (zm 12 69) (.done false)) .no))))))) [69,68,67,66,65,64,63]) (zQ (zQ (zr [zm 70 12,zj 71 .lss 70 0] [70]) (zC 71 (zK [10,12,3,2,11,71] (zQ (zE [zk 4 10,zN 5] (.own 5 none 1)) .ret)) (zK [71] .skip))) (zQ (zr [zm 72 10,zm 73 12,zo 74 (.bsl 1 [z0] [(0,(1,zt 73))] 1),zo 75 (.app (zt 72) (zt 74) 1 8),zm 10 75] [12,75,74,73,72]) (.own 10 none 1))))) (zr [zm 61 11,zj 62 .add 61 1,zm 11 62] [62,61]))))) (zQ (zE [zk 13 0] (zP 2 (zQ (zQ (zr [zm 76 13,zm 77 10,zn 78 77,zb 79 .lss 76 78] [78,77,76]) (zC 79 (zK [79] .skip) (zK [13,79] (.exit 2)))) (zQ (.block 3 (zQ (zE [zk 14 0] (zP 4 (zQ (zQ (zr [zm 82 14,zm 83 10,zn 84 83,zb 85 .lss 82 84] [84,83,82]) (zC 85 (zK [85] .skip) (zK [14,85] (.exit 4)))) (zQ (.block 5 (zQ (zR (zq (zf 88 2 4) (zq (zl 89 88) (zq (zm 90 10) (zq (zm 91 13) (zq (zi 92 90 91 1) (zq (zl 93 92) (zq (zi 94 89 93 1) (zq (zl 95 94) (zq (zm 96 10) (zq (zm 97 14) (zq (zi 98 96 97 1) (zq (zl 99 98) (zq (zi 100 95 99 1) (zq (zl 101 100) (.done false))))))))))))))) [100,99,98,97,96,95,94,93,92,91,90,89,88]) (zC 101 (zK [14,13,2,3,10,101] (zQ (zE [zk 4 6,zN 5] (.own 5 none 1)) .ret)) (zK [101] .skip)))) (zr [zm 86 14,zj 87 .add 86 1,zm 14 87] [87,86]))))) (zQ (zR (zq (zf 102 3 3) (zq (zl 103 102) (zq (zf 104 2 1) (zq (zl 105 104) (zq (zm 106 10) (zq (zm 107 13) (zq (zi 108 106 107 1) (zq (zl 109 108) (zq (zi 110 105 109 27) (zq (zf 111 110 3) (zq (zl 112 111) (zq (zb 113 .lss 103 112) (.done false))))))))))))) [112,111,110,109,108,107,106,105,104,103,102]) (zC 113 (zK [13,3,2,10,113] (zQ (zE [zk 4 6,zN 5] (.own 5 none 1)) .ret)) (zK [113] .skip))))) (zr [zm 80 13,zj 81 .add 80 1,zm 13 81] [81,80]))))) (zQ (zQ (zR (zq (zv 114 5 2) (zq (zv 115 27 3) (zq (zv 116 5 2) (zq (zm 117 10) (zA (zc 118 zM [zt 116,zt 117]) [zv 115 27 3,zv 114 5 2] (zA (zc 119 aBb [zt 114,zt 115,zt 118]) [] (zq (zo 120 (.un .not (zt 119))) (.done false)) .no) .no))))) [2,3,119,118,117,116,115,114]) (zC 120 (zK [10,120] (zQ (zE [zk 4 11,zN 5] (.own 5 none 1)) .ret)) (zK [120] .skip))) (zQ (zQ (zr [zm 121 10,zk 4 0,zm 5 121] [10,121]) (.own 5 none 1)) .ret))))))))))))))⟩
theorem aK2:aB prog dJ [(5,none,1),(10,none,1)]=some aGX:=by kernel_rfl
def aK3:HFun:=⟨51,[(4,none)],zQ (zr [zo 2 (.box (zt 0)),zN 4] [0,4]) (zQ (zr [zf 8 2 1,zl 9 8,zn 10 9,zo 11 (.mks 1 [.bool false] 1 (zt 10) (zt 10)),zm 5 11] [11,10,9,8]) (zQ (zQ (zr [zf 12 2 1,zl 13 12,zn 14 13,zj 15 .sub 14 1,zm 6 15] [15,14,13,12]) (zP 0 (zQ (zQ (zr [zm 16 6,zj 17 .geq 16 0] [16]) (zC 17 (zK [17] .skip) (zK [1,6,2,17] (.exit 0)))) (zQ (.block 1 (zQ (zQ (zr [zm 20 1,zm 21 6,zc 22 cM [zt 20,zt 21]] [21,20]) (zC 22 (zK [22] (zr [zm 23 5,zm 24 6,zi 25 23 24 1,zs (.st 1 (zt 25) zT)] [25,24,23])) (zK [22] .skip))) (zQ (zr [zm 26 5,zm 27 6,zi 28 26 27 1,zl 29 28] [28,27,26]) (zC 29 (zK [29] (zE [zk 7 0] (zP 2 (zQ (zQ (zr [zm 30 7,zf 31 2 3,zl 32 31,zm 33 6,zi 34 32 33 1,zl 35 34,zn 36 35,zb 37 .lss 30 36] [36,35,34,33,32,31,30]) (zC 37 (zK [37] .skip) (zK [7,37] (.exit 2)))) (zQ (.block 3 (zr [zm 40 5,zf 41 2 3,zl 42 41,zm 43 6,zi 44 42 43 1,zl 45 44,zm 46 7,zi 47 45 46 1,zl 48 47,zi 49 40 48 1,zs (.st 1 (zt 49) zT)] [49,48,47,46,45,44,43,42,41,40])) (zr [zm 38 7,zj 39 .add 38 1,zm 7 39] [39,38])))))) (zK [29] .skip))))) (zr [zm 18 6,zj 19 .sub 18 1,zm 6 19] [19,18]))))) (zQ (zQ (zr [zm 50 5,zm 4 50] [5,50]) (.own 4 none 1)) .ret)))⟩
theorem aLS:aB prog zM [(4,none,1)]=some aK3:=by kernel_rfl
def aPT:HFun:=⟨11,[(2,some (some 3))],zQ (zr [zo 1 (.box (zt 0)),zo 2 (.alloc [z0,z0,zU])] [0]) (zQ (zR (zq (zf 3 1 0) (zq (zl 4 3) (zq (zf 5 1 1) (zq (zl 6 5) (zq (zv 7 27 1) (zA (zc 8 rE [zt 7]) [zl 6 5,zf 5 1 1,zl 4 3,zf 3 1 0] (zA (zc 9 vK [.const (.string (Hud.bs [111,112])),zt 8]) [zl 6 5,zf 5 1 1,zl 4 3,zf 3 1 0] (zq (zo 10 (.bld [z0,z0,zU] [(0,(1,zt 4)),(1,(1,zt 6)),(2,(1,zt 9))])) (zA (zs (.st 3 (zt 2) (zt 10))) [] (.done false) .no)) .no) .no)))))) [1,10,9,8,7,6,5,4,3]) .ret)⟩
theorem aPU:aB prog aB6 []=some aPT:=by kernel_rfl
def aK4:HFun:=⟨56,[(4,none)],zQ (zr [zo 2 (.box (zt 0)),zN 4] [0,4]) (zQ (zE [zN 5] (.own 5 none 3)) (zQ (zE [zk 6 0] (zP 0 (zQ (zQ (zr [zm 10 6,zf 11 2 1,zl 12 11,zn 13 12,zb 14 .lss 10 13] [13,12,11,10]) (zC 14 (zK [14] .skip) (zK [1,2,6,14] (.exit 0)))) (zQ (.block 1 (zE [zo 7 (.mov zF)] (zQ (zE [zk 8 0] (zP 2 (zQ (zQ (zr [zm 17 8,zm 18 1,zn 19 18,zb 20 .lss 17 19] [19,18,17]) (zC 20 (zK [20] .skip) (zK [8,20] (.exit 2)))) (zQ (.block 3 (zQ (zR (zq (zv 23 5 2) (zq (zm 24 1) (zq (zm 25 8) (zq (zi 26 24 25 3) (zq (zv 27 3 26) (zA (zc 28 fF [zt 23,zt 27]) [] (zq (zm 9 28) (.done false)) .no)))))) [28,27,26,25,24,23]) (zr [zm 29 7,zm 30 29,zh 31 9 30 false,zg 32 (.bin .geq (zt 31) (zw 0)) 30 false,zh 33 32 30 false,zg 34 (.fad (zt 2) 4) 33 true,zg 35 (.ld none (zt 34)) 33 true,zh 36 9 33 true,zg 37 (.mm true (zt 36) (zw 0)) 33 true,zg 38 (.iad (zt 35) (zt 37) 1) 33 true,zg 39 (.ld none (zt 38)) 33 true,zh 40 6 33 true,zg 41 (.iad (zt 39) (zt 40) 1) 33 true,zg 42 (.ld none (zt 41)) 33 true,zg 43 (.pick (zt 33) (zt 42) zF) 30 false,zo 44 (.pick (zt 30) zT (zt 43)),zm 7 44] [9,44,43,42,41,40,39,38,37,36,35,34,33,32,31,30,29]))) (zr [zm 21 8,zj 22 .add 21 1,zm 8 22] [22,21]))))) (zQ (zr [zm 45 7] [7]) (zC 45 (zK [45] (zQ (zr [zm 46 5,zf 47 2 2,zl 48 47,zm 49 6,zi 50 48 49 3,zv 51 3 50,zo 52 (.bsl 3 [z0,z0,zU] [(0,(3,zt 51))] 1),zo 53 (.app (zt 46) (zt 52) 3 24),zm 5 53] [53,52,51,50,49,48,47,46]) (.own 5 none 3))) (zK [45] .skip)))))) (zr [zm 15 6,zj 16 .add 15 1,zm 6 16] [16,15]))))) (zQ (zr [zm 54 5,zc 55 kB [zt 54],zm 4 55] [5,55,54]) .ret)))⟩
theorem aLT:aB prog zO [(5,none,3)]=some aK4:=by kernel_rfl
def aEJ:HFun:=⟨21,[(2,none)],zQ (zr [zo 2 (.mov zF)] [2]) (zQ (zr [zm 3 0,zj 4 .eql 3 1,zm 5 4,zh 6 0 5 false,zg 7 (.bin .eql (zt 6) (zw 2)) 5 false,zo 8 (.pick (zt 5) zT (zt 7)),zm 9 8,zh 10 0 9 false,zg 11 (.bin .eql (zt 10) (zw 3)) 9 false,zo 12 (.pick (zt 9) zT (zt 11)),zm 13 12,zh 14 0 13 false,zg 15 (.bin .eql (zt 14) (zw 4)) 13 false,zo 16 (.pick (zt 13) zT (zt 15)),zm 17 16,zh 18 0 17 false,zg 19 (.bin .eql (zt 18) (zw 13)) 17 false,zo 20 (.pick (zt 17) zT (zt 19)),zm 2 20] [0,20,19,18,17,16,15,14,13,12,11,10,9,8,7,6,5,4,3]) .ret)⟩
theorem aHD:aB prog pC []=some aEJ:=by kernel_rfl
def aK5:HFun:=⟨19,[(2,none)],zQ (zr [zN 2] [2]) (zQ (zE [zN 3] (.own 3 none 1)) (zQ (zE [zk 4 0] (zP 0 (zQ (zQ (zr [zm 5 4,zm 6 0,zn 7 6,zb 8 .lss 5 7] [7,6,5]) (zC 8 (zK [8] .skip) (zK [0,4,8] (.exit 0)))) (zQ (.block 1 (zQ (zr [zm 11 3,zm 12 0,zm 13 4,zi 14 12 13 1,zl 15 14,zc 16 dZ [zt 15],zo 17 (.app (zt 11) (zt 16) 1 1),zm 3 17] [17,16,15,14,13,12,11]) (.own 3 none 1))) (zr [zm 9 4,zj 10 .add 9 1,zm 4 10] [10,9]))))) (zQ (zQ (zr [zm 18 3,zm 2 18] [3,18]) (.own 2 none 1)) .ret)))⟩
theorem aLU:aB prog qC [(2,none,1),(3,none,1)]=some aK5:=by kernel_rfl
def aGY:HFun:=⟨39,[(2,none)],zQ (zr [zN 2] [2]) (zQ (zr [zm 5 0,zn 6 5,zc 7 dZ [zt 6],zm 3 7] [7,6,5]) (zQ (zE [zk 4 0] (zP 0 (zQ (zQ (zr [zm 8 4,zm 9 0,zn 10 9,zb 11 .lss 8 10] [10,9,8]) (zC 11 (zK [11] .skip) (zK [0,4,11] (.exit 0)))) (zQ (.block 1 (zR (zq (zm 14 3) (zq (zm 15 0) (zq (zm 16 4) (zq (zi 17 15 16 4) (zq (zf 18 17 0) (zq (zl 19 18) (zq (zm 20 0) (zq (zm 21 4) (zq (zi 22 20 21 4) (zq (zf 23 22 1) (zq (zl 24 23) (zq (zm 25 0) (zq (zm 26 4) (zq (zi 27 25 26 4) (zq (zf 28 27 2) (zq (zl 29 28) (zq (zm 30 0) (zq (zm 31 4) (zq (zi 32 30 31 4) (zq (zf 33 32 3) (zq (zl 34 33) (zA (zo 35 (.bsl 1 [zU,zU,zU,zU] [(0,(1,zt 19)),(1,(1,zt 24)),(2,(1,zt 29)),(3,(1,zt 34))] 4)) [zm 14 3] (zA (zc 36 zX [zt 35]) [zm 14 3] (zA (zo 37 (.app (zt 14) (zt 36) 1 1)) [] (zA (zm 3 37) [] (.done false) .no) .no) .no) .no)))))))))))))))))))))) [37,36,35,34,33,32,31,30,29,28,27,26,25,24,23,22,21,20,19,18,17,16,15,14])) (zr [zm 12 4,zj 13 .add 12 1,zm 4 13] [13,12]))))) (zQ (zQ (zr [zm 38 3,zm 2 38] [3,38]) (.own 2 none 1)) .ret)))⟩
theorem aK6:aB prog vJ [(2,none,1)]=some aGY:=by kernel_rfl
def aK7:HFun:=⟨19,[(2,none)],zQ (zr [zN 2] [2]) (zQ (zE [zN 3] (.own 3 none 1)) (zQ (zE [zk 4 0] (zP 0 (zQ (zQ (zr [zm 5 4,zm 6 0,zn 7 6,zb 8 .lss 5 7] [7,6,5]) (zC 8 (zK [8] .skip) (zK [0,4,8] (.exit 0)))) (zQ (.block 1 (zQ (zr [zm 11 3,zm 12 0,zm 13 4,zi 14 12 13 1,zl 15 14,zc 16 oE [zt 15],zo 17 (.app (zt 11) (zt 16) 1 1),zm 3 17] [17,16,15,14,13,12,11]) (.own 3 none 1))) (zr [zm 9 4,zj 10 .add 9 1,zm 4 10] [10,9]))))) (zQ (zQ (zr [zm 18 3,zm 2 18] [3,18]) (.own 2 none 1)) .ret)))⟩
theorem aLV:aB prog zX [(2,none,1),(3,none,1)]=some aK7:=by kernel_rfl
def aGZ:HFun:=⟨73,[(2,none)],zQ (zr [zo 1 (.box (zt 0)),zk 2 0] [0,2]) (zQ (zQ (zr [zf 5 1 2,zl 6 5,zj 7 .lss 6 1,zm 8 7,zg 9 (.fad (zt 1) 2) 8 false,zg 10 (.ld none (zt 9)) 8 false,zg 11 (.bin .gtr (zt 10) (zw 13)) 8 false,zo 12 (.pick (zt 8) zT (zt 11))] [11,10,9,8,7,6,5]) (zC 12 (zK [1,12] (zE [zk 2 1] .ret)) (zK [12] .skip))) (zQ (zQ (zr [zv 13 27 1,zc 14 aDi [zt 13],zo 15 (.un .not (zt 14))] [14,13]) (zC 15 (zK [1,15] (zE [zk 2 1] .ret)) (zK [15] .skip))) (zQ (zQ (zr [zv 16 27 1,zc 17 wU [zt 16],zo 18 (.un .not (zt 17)),zm 19 18,zg 20 (.ld (some 27) (zt 1)) 19 false,zg 21 (.call (.func aBe) [zt 20]) 19 false,zg 22 (.un .not (zt 21)) 19 false,zo 23 (.pick (zt 19) zT (zt 22))] [22,21,20,19,18,17,16]) (zC 23 (zK [1,23] (zE [zk 2 8] .ret)) (zK [23] .skip))) (zQ (zQ (zr [zv 24 27 1,zc 25 aDj [zt 24]] [24]) (zC 25 (zK [1,25] (zE [zk 2 2] .ret)) (zK [25] .skip))) (zQ (zE [zk 3 1] (zP 0 (zQ (zQ (zr [zm 26 3,zf 27 1 4,zl 28 27,zn 29 28,zb 30 .lss 26 29] [29,28,27,26]) (zC 30 (zK [30] .skip) (zK [3,30] (.exit 0)))) (zQ (.block 1 (zQ (zR (zq (zf 33 1 4) (zq (zl 34 33) (zq (zm 35 3) (zq (zj 36 .sub 35 1) (zq (zi 37 34 36 3) (zq (zv 38 3 37) (zq (zf 39 1 4) (zq (zl 40 39) (zq (zm 41 3) (zq (zi 42 40 41 3) (zq (zv 43 3 42) (zA (zc 44 tS [zt 38,zt 43]) [] (zq (zo 45 (.un .not (zt 44))) (.done false)) .no)))))))))))) [44,43,42,41,40,39,38,37,36,35,34,33]) (zC 45 (zK [3,1,45] (zE [zk 2 6] .ret)) (zK [45] .skip)))) (zr [zm 31 3,zj 32 .add 31 1,zm 3 32] [32,31]))))) (zQ (zE [zk 4 1] (zP 2 (zQ (zQ (zr [zm 46 4,zf 47 1 19,zl 48 47,zn 49 48,zb 50 .lss 46 49] [49,48,47,46]) (zC 50 (zK [50] .skip) (zK [4,50] (.exit 2)))) (zQ (.block 3 (zQ (zR (zq (zf 53 1 19) (zq (zl 54 53) (zq (zm 55 4) (zq (zj 56 .sub 55 1) (zq (zi 57 54 56 1) (zq (zl 58 57) (zq (zf 59 1 19) (zq (zl 60 59) (zq (zm 61 4) (zq (zi 62 60 61 1) (zq (zl 63 62) (zq (zb 64 .geq 58 63) (.done false))))))))))))) [63,62,61,60,59,58,57,56,55,54,53]) (zC 64 (zK [4,1,64] (zE [zk 2 6] .ret)) (zK [64] .skip)))) (zr [zm 51 4,zj 52 .add 51 1,zm 4 52] [52,51]))))) (zQ (zQ (zr [zf 65 1 4,zl 66 65,zn 67 66,zj 68 .eql 67 0,zf 69 1 2,zl 70 69,zj 71 .eql 70 1,zo 72 (.eqb true (zt 68) (zt 71))] [1,71,70,69,68,67,66,65]) (zC 72 (zK [72] (zE [zk 2 10] .ret)) (zK [72] .skip))) (zE [zk 2 0] .ret))))))))⟩
theorem aK8:aB prog aB9 []=some aGZ:=by kernel_rfl
def aH0:HFun:=⟨60,[(6,none)],zQ (zr [zo 3 (.box (zt 0)),zo 4 (.box (zt 1)),zo 6 (.mov zF)] [0,1,6]) (zE [zo 7 (.mov zF)] (zQ (zE [zk 8 0] (zP 0 (zQ (zQ (zr [zm 9 8,zf 10 3 1,zl 11 10,zn 12 11,zb 13 .lss 9 12] [12,11,10,9]) (zC 13 (zK [13] .skip) (zK [2,8,3,13] (.exit 0)))) (zQ (.block 1 (zQ (zQ (zR (zq (zm 16 2) (zq (zm 17 8) (zq (zi 18 16 17 1) (zq (zl 19 18) (zq (zo 20 (.un .not (zt 19))) (zq (zm 21 20) (zq (zg 22 (.fad (zt 3) 1) 21 false) (zq (zg 23 (.ld none (zt 22)) 21 false) (zq (zh 24 8 21 false) (zq (zg 25 (.iad (zt 23) (zt 24) 27) 21 false) (zq (zg 26 (.fad (zt 25) 0) 21 false) (zq (zg 27 (.ld none (zt 26)) 21 false) (zq (zg 28 (.fad (zt 4) 0) 21 false) (zq (zg 29 (.ld none (zt 28)) 21 false) (zq (zg 30 (.bin .neq (zt 27) (zt 29)) 21 false) (zq (zo 31 (.pick (zt 21) zT (zt 30))) (.done false))))))))))))))))) [30,29,28,27,26,25,24,23,22,21,20,19,18,17,16]) (zC 31 (zK [31] (.exit 1)) (zK [31] .skip))) (zQ (zQ (zR (zq (zf 32 3 1) (zq (zl 33 32) (zq (zm 34 8) (zq (zi 35 33 34 27) (zq (zf 36 35 1) (zq (zl 37 36) (zq (zf 38 4 1) (zq (zl 39 38) (zq (zb 40 .geq 37 39) (.done false)))))))))) [39,38,37,36,35,34,33,32]) (zC 40 (zK [7,3,8,4,2,40] (zE [zo 6 (.mov zF)] .ret)) (zK [40] .skip))) (zR (zq (zm 41 7) (zq (zm 42 41) (zq (zg 43 (.fad (zt 3) 1) 42 false) (zq (zg 44 (.ld none (zt 43)) 42 false) (zq (zh 45 8 42 false) (zq (zg 46 (.iad (zt 44) (zt 45) 27) 42 false) (zq (zg 47 (.fad (zt 46) 1) 42 false) (zq (zg 48 (.ld none (zt 47)) 42 false) (zq (zg 49 (.fad (zt 4) 1) 42 false) (zq (zg 50 (.ld none (zt 49)) 42 false) (zq (zg 51 (.bin .sub (zt 50) (zw 1)) 42 false) (zq (zg 52 (.bin .eql (zt 48) (zt 51)) 42 false) (zq (zo 53 (.pick (zt 42) zT (zt 52))) (zA (zm 7 53) [] (.done false) .no)))))))))))))) [53,52,51,50,49,48,47,46,45,44,43,42,41])))) (zr [zm 14 8,zj 15 .add 14 1,zm 8 15] [15,14]))))) (zQ (zr [zf 54 4 1,zl 55 54,zj 56 .eql 55 1,zm 57 56,zh 58 7 57 false,zo 59 (.pick (zt 57) zT (zt 58)),zm 6 59] [4,7,59,58,57,56,55,54]) .ret)))⟩
theorem aK9:aB prog aBb []=some aH0:=by kernel_rfl
def aKa:HFun:=⟨190,[(2,none)],zQ (zr [zo 1 (.box (zt 0)),zo 2 (.mov zF)] [0,2]) (zQ (zr [zf 5 1 2,zl 6 5,zm 3 6] [6,5]) (zQ (zr [zm 7 3,zj 8 .eql 7 7,zm 9 8,zh 10 3 9 false,zg 11 (.bin .eql (zt 10) (zw 8)) 9 false,zo 12 (.pick (zt 9) zT (zt 11)),zm 13 12,zh 14 3 13 false,zg 15 (.bin .eql (zt 14) (zw 12)) 13 false,zo 16 (.pick (zt 13) zT (zt 15)),zm 17 16,zh 18 3 17 false,zg 19 (.bin .eql (zt 18) (zw 10)) 17 false,zo 20 (.pick (zt 17) zT (zt 19)),zm 21 20,zh 22 3 21 false,zg 23 (.bin .eql (zt 22) (zw 11)) 21 false,zo 24 (.pick (zt 21) zT (zt 23)),zm 25 24,zh 26 3 25 false,zg 27 (.bin .eql (zt 26) (zw 13)) 25 false,zo 28 (.pick (zt 25) zT (zt 27)),zm 4 28] [28,27,26,25,24,23,22,21,20,19,18,17,16,15,14,13,12,11,10,9,8,7]) (zQ (zQ (zr [zf 29 1 5,zl 30 29,zj 31 .neq 30 0,zm 32 31,zh 33 3 32 true,zg 34 (.bin .neq (zt 33) (zw 2)) 32 true,zo 35 (.pick (zt 32) (zt 34) zF),zm 36 35,zh 37 3 36 true,zg 38 (.bin .neq (zt 37) (zw 3)) 36 true,zo 39 (.pick (zt 36) (zt 38) zF),zm 40 39,zh 41 3 40 true,zg 42 (.bin .neq (zt 41) (zw 11)) 40 true,zo 43 (.pick (zt 40) (zt 42) zF),zm 44 43,zh 45 3 44 true,zg 46 (.bin .neq (zt 45) (zw 13)) 44 true,zo 47 (.pick (zt 44) (zt 46) zF)] [46,45,44,43,42,41,40,39,38,37,36,35,34,33,32,31,30,29]) (zC 47 (zK [1,3,4,47] (zE [zo 2 (.mov zF)] .ret)) (zK [47] .skip))) (zQ (zQ (zr [zf 48 1 6,zl 49 48,zj 50 .neq 49 0,zm 51 50,zh 52 3 51 true,zg 53 (.bin .neq (zt 52) (zw 13)) 51 true,zo 54 (.pick (zt 51) (zt 53) zF),zm 55 54,zg 56 (.fad (zt 1) 7) 55 false,zg 57 (.ld none (zt 56)) 55 false,zg 58 (.bin .neq (zt 57) (zw 0)) 55 false,zh 59 58 55 false,zh 60 3 59 true,zg 61 (.bin .neq (zt 60) (zw 3)) 59 true,zg 62 (.pick (zt 59) (zt 61) zF) 55 false,zh 63 62 55 false,zh 64 3 63 true,zg 65 (.bin .neq (zt 64) (zw 5)) 63 true,zg 66 (.pick (zt 63) (zt 65) zF) 55 false,zo 67 (.pick (zt 55) zT (zt 66)),zm 68 67,zg 69 (.fad (zt 1) 8) 68 false,zg 70 (.ld none (zt 69)) 68 false,zg 71 (.bin .neq (zt 70) (zw 0)) 68 false,zh 72 71 68 false,zh 73 3 72 true,zg 74 (.bin .neq (zt 73) (zw 2)) 72 true,zg 75 (.pick (zt 72) (zt 74) zF) 68 false,zh 76 75 68 false,zh 77 3 76 true,zg 78 (.bin .neq (zt 77) (zw 5)) 76 true,zg 79 (.pick (zt 76) (zt 78) zF) 68 false,zo 80 (.pick (zt 68) zT (zt 79))] [79,78,77,76,75,74,73,72,71,70,69,68,67,66,65,64,63,62,61,60,59,58,57,56,55,54,53,52,51,50,49,48]) (zC 80 (zK [1,3,4,80] (zE [zo 2 (.mov zF)] .ret)) (zK [80] .skip))) (zQ (zQ (zr [zf 81 1 9,zl 82 81,zn 83 82,zj 84 .gtr 83 0,zm 85 84,zh 86 3 85 true,zg 87 (.call (.func pC) [zt 86]) 85 true,zg 88 (.un .not (zt 87)) 85 true,zo 89 (.pick (zt 85) (zt 88) zF)] [88,87,86,85,84,83,82,81]) (zC 89 (zK [3,1,4,89] (zE [zo 2 (.mov zF)] .ret)) (zK [89] .skip))) (zQ (zQ (zr [zm 90 3,zj 91 .neq 90 6,zm 92 91,zg 93 (.fad (zt 1) 10) 92 true,zg 94 (.ld (some 3) (zt 93)) 92 true,zg 95 (.bld [z0,z0,zU] []) 92 true,zg 96 (.eqa true [.int .i64,.int .i64,.int .u64] (zt 94) (zt 95)) 92 true,zh 97 96 92 true,zg 98 (.fad (zt 1) 13) 97 false,zg 99 (.ld none (zt 98)) 97 false,zg 100 (.bin .neq (zt 99) (zw 0)) 97 false,zg 101 (.pick (zt 97) zT (zt 100)) 92 true,zh 102 101 92 true,zg 103 (.fad (zt 1) 15) 102 false,zg 104 (.ld none (zt 103)) 102 false,zg 105 (.lenL (zt 104)) 102 false,zg 106 (.bin .gtr (zt 105) (zw 0)) 102 false,zg 107 (.pick (zt 102) zT (zt 106)) 92 true,zo 108 (.pick (zt 92) (zt 107) zF)] [107,106,105,104,103,102,101,100,99,98,97,96,95,94,93,92,91,90]) (zC 108 (zK [1,3,4,108] (zE [zo 2 (.mov zF)] .ret)) (zK [108] .skip))) (zQ (zQ (zr [zf 109 1 14,zl 110 109,zn 111 110,zj 112 .gtr 111 0,zm 113 112,zh 114 3 113 true,zg 115 (.bin .neq (zt 114) (zw 6)) 113 true,zo 116 (.pick (zt 113) (zt 115) zF),zm 117 116,zh 118 3 117 true,zg 119 (.bin .neq (zt 118) (zw 7)) 117 true,zo 120 (.pick (zt 117) (zt 119) zF),zm 121 120,zg 122 (.fad (zt 1) 16) 121 false,zg 123 (.ld (some 3) (zt 122)) 121 false,zg 124 (.bld [z0,z0,zU] []) 121 false,zg 125 (.eqa true [.int .i64,.int .i64,.int .u64] (zt 123) (zt 124)) 121 false,zh 126 125 121 false,zh 127 4 126 true,zg 128 (.un .not (zt 127)) 126 true,zg 129 (.pick (zt 126) (zt 128) zF) 121 false,zo 130 (.pick (zt 121) zT (zt 129))] [4,129,128,127,126,125,124,123,122,121,120,119,118,117,116,115,114,113,112,111,110,109]) (zC 130 (zK [3,1,130] (zE [zo 2 (.mov zF)] .ret)) (zK [130] .skip))) (zQ (zQ (zr [zm 131 3,zj 132 .neq 131 9,zm 133 132,zg 134 (.fad (zt 1) 19) 133 true,zg 135 (.ld none (zt 134)) 133 true,zg 136 (.lenL (zt 135)) 133 true,zg 137 (.bin .gtr (zt 136) (zw 0)) 133 true,zh 138 137 133 true,zg 139 (.fad (zt 1) 21) 138 false,zg 140 (.ld none (zt 139)) 138 false,zg 141 (.bin .neq (zt 140) (zw 0)) 138 false,zg 142 (.pick (zt 138) zT (zt 141)) 133 true,zh 143 142 133 true,zg 144 (.fad (zt 1) 23) 143 false,zg 145 (.ld none (zt 144)) 143 false,zg 146 (.bin .neq (zt 145) (zu 0)) 143 false,zg 147 (.pick (zt 143) zT (zt 146)) 133 true,zo 148 (.pick (zt 133) (zt 147) zF)] [147,146,145,144,143,142,141,140,139,138,137,136,135,134,133,132,131]) (zC 148 (zK [1,3,148] (zE [zo 2 (.mov zF)] .ret)) (zK [148] .skip))) (zQ (zQ (zr [zf 149 1 20,zl 150 149,zj 151 .neq 150 0,zm 152 151,zh 153 3 152 true,zg 154 (.bin .neq (zt 153) (zw 9)) 152 true,zo 155 (.pick (zt 152) (zt 154) zF),zm 156 155,zh 157 3 156 true,zg 158 (.bin .neq (zt 157) (zw 1)) 156 true,zo 159 (.pick (zt 156) (zt 158) zF),zm 160 159,zg 161 (.fad (zt 1) 22) 160 false,zg 162 (.ld none (zt 161)) 160 false,zg 163 (.lenL (zt 162)) 160 false,zg 164 (.bin .gtr (zt 163) (zw 0)) 160 false,zh 165 164 160 false,zh 166 3 165 true,zg 167 (.bin .neq (zt 166) (zw 9)) 165 true,zg 168 (.pick (zt 165) (zt 167) zF) 160 false,zh 169 168 160 false,zh 170 3 169 true,zg 171 (.bin .neq (zt 170) (zw 10)) 169 true,zg 172 (.pick (zt 169) (zt 171) zF) 160 false,zh 173 172 160 false,zh 174 3 173 true,zg 175 (.bin .neq (zt 174) (zw 11)) 173 true,zg 176 (.pick (zt 173) (zt 175) zF) 160 false,zo 177 (.pick (zt 160) zT (zt 176))] [176,175,174,173,172,171,170,169,168,167,166,165,164,163,162,161,160,159,158,157,156,155,154,153,152,151,150,149]) (zC 177 (zK [1,3,177] (zE [zo 2 (.mov zF)] .ret)) (zK [177] .skip))) (zQ (zr [zf 178 1 24,zl 179 178,zn 180 179,zj 181 .eql 180 0,zm 182 181,zh 183 3 182 false,zg 184 (.bin .eql (zt 183) (zw 2)) 182 false,zo 185 (.pick (zt 182) zT (zt 184)),zm 186 185,zh 187 3 186 false,zg 188 (.bin .eql (zt 187) (zw 13)) 186 false,zo 189 (.pick (zt 186) zT (zt 188)),zm 2 189] [1,3,189,188,187,186,185,184,183,182,181,180,179,178]) .ret))))))))))⟩
theorem aLW:aB prog aDi []=some aKa:=by kernel_rfl
def aCH:HFun:=⟨124,[(2,none)],zQ (zr [zo 1 (.box (zt 0)),zo 2 (.mov zF)] [0,2]) (zQ (zQ (zr [zf 3 1 0,zl 4 3,zc 5 cJ [zt 4,zw 1,zw 12],zo 6 (.un .not (zt 5)),zm 7 6,zg 8 (.fad (zt 1) 1) 7 false,zg 9 (.ld none (zt 8)) 7 false,zg 10 (.call (.func cJ) [zt 9,zw 1,zw 2147483647]) 7 false,zg 11 (.un .not (zt 10)) 7 false,zo 12 (.pick (zt 7) zT (zt 11)),zm 13 12,zg 14 (.fad (zt 1) 3) 13 false,zg 15 (.ld none (zt 14)) 13 false,zg 16 (.call (.func cJ) [zt 15,zw 0,zw 2147483647]) 13 false,zg 17 (.un .not (zt 16)) 13 false,zo 18 (.pick (zt 13) zT (zt 17))] [17,16,15,14,13,12,11,10,9,8,7,6,5,4,3]) (zC 18 (zK [1,18] (zE [zo 2 (.mov zF)] .ret)) (zK [18] .skip))) (zQ (zQ (zr [zf 19 1 2,zl 20 19] [19]) (.block 0 (zQ (zr [zj 22 .eql 20 1,zm 21 22] [22]) (zC 21 (zK [20,21] (zQ (zr [zf 23 1 20,zl 24 23,zc 25 cJ [zt 24,zw 0,zw 20],zm 2 25] [1,25,24,23]) .ret)) (zK [21] (zQ (zr [zj 27 .eql 20 2,zm 26 27] [27]) (zC 26 (zK [20,26] (zQ (zr [zf 28 1 5,zl 29 28,zc 30 cJ [zt 29,zw 1,zw 12],zm 31 30,zg 32 (.fad (zt 1) 8) 31 true,zg 33 (.ld none (zt 32)) 31 true,zg 34 (.call (.func cJ) [zt 33,zw 1,zw 3]) 31 true,zo 35 (.pick (zt 31) (zt 34) zF),zm 2 35] [1,35,34,33,32,31,30,29,28]) .ret)) (zK [26] (zQ (zr [zj 37 .eql 20 3,zm 36 37] [37]) (zC 36 (zK [20,36] (zQ (zr [zf 38 1 5,zl 39 38,zc 40 cJ [zt 39,zw 1,zw 12],zm 41 40,zg 42 (.fad (zt 1) 7) 41 true,zg 43 (.ld none (zt 42)) 41 true,zg 44 (.bin .eql (zt 43) (zw 0)) 41 true,zo 45 (.pick (zt 41) (zt 44) zF),zm 46 45,zg 47 (.fad (zt 1) 5) 46 false,zg 48 (.ld none (zt 47)) 46 false,zg 49 (.bin .eql (zt 48) (zw 0)) 46 false,zh 50 49 46 false,zg 51 (.fad (zt 1) 7) 50 true,zg 52 (.ld none (zt 51)) 50 true,zg 53 (.call (.func cJ) [zt 52,zw 1,zw 8]) 50 true,zg 54 (.pick (zt 50) (zt 53) zF) 46 false,zo 55 (.pick (zt 46) zT (zt 54)),zm 2 55] [1,55,54,53,52,51,50,49,48,47,46,45,44,43,42,41,40,39,38]) .ret)) (zK [36] (zQ (zr [zj 57 .eql 20 5,zm 56 57] [57]) (zC 56 (zK [20,56] (zQ (zr [zf 58 1 7,zl 59 58,zc 60 cJ [zt 59,zw 1,zw 8],zm 61 60,zg 62 (.fad (zt 1) 8) 61 true,zg 63 (.ld none (zt 62)) 61 true,zg 64 (.call (.func cJ) [zt 63,zw 1,zw 3]) 61 true,zo 65 (.pick (zt 61) (zt 64) zF),zm 2 65] [1,65,64,63,62,61,60,59,58]) .ret)) (zK [56] (zQ (zr [zj 67 .eql 20 6,zm 66 67] [67]) (zC 66 (zK [20,66] (zQ (zr [zf 68 1 10,zv 69 3 68,zc 70 jW [zt 69],zm 71 70,zg 72 (.fad (zt 1) 13) 71 true,zg 73 (.ld none (zt 72)) 71 true,zg 74 (.call (.func cJ) [zt 73,zw 0,zw 2147483647]) 71 true,zo 75 (.pick (zt 71) (zt 74) zF),zm 2 75] [1,75,74,73,72,71,70,69,68]) .ret)) (zK [66] (zQ (zr [zj 77 .eql 20 9,zm 76 77] [77]) (zC 76 (zK [20,76] (zQ (zr [zf 78 1 20,zl 79 78,zf 80 1 19,zl 81 80,zn 82 81,zc 83 cJ [zt 79,zw 1,zt 82],zm 84 83,zg 85 (.fad (zt 1) 21) 84 true,zg 86 (.ld none (zt 85)) 84 true,zg 87 (.call (.func cJ) [zt 86,zw 0,zw 2147483647]) 84 true,zo 88 (.pick (zt 84) (zt 87) zF),zm 89 88,zg 90 (.fad (zt 1) 23) 89 true,zg 91 (.ld none (zt 90)) 89 true,zg 92 (.call (.func mG) [zt 91]) 89 true,zo 93 (.pick (zt 89) (zt 92) zF),zm 2 93] [1,93,92,91,90,89,88,87,86,85,84,83,82,81,80,79,78]) .ret)) (zK [76] (zQ (zr [zj 95 .eql 20 11,zm 94 95] [95]) (zC 94 (zK [20,94] (zQ (zr [zf 96 1 16,zv 97 3 96,zc 98 jW [zt 97],zm 99 98,zg 100 (.fad (zt 1) 5) 99 true,zg 101 (.ld none (zt 100)) 99 true,zg 102 (.call (.func cJ) [zt 101,zw 1,zw 12]) 99 true,zo 103 (.pick (zt 99) (zt 102) zF),zm 2 103] [1,103,102,101,100,99,98,97,96]) .ret)) (zK [94] (zQ (zr [zj 105 .eql 20 13,zm 104 105] [105]) (zC 104 (zK [20,104] (zQ (zr [zf 106 1 16,zv 107 3 106,zc 108 jW [zt 107],zm 109 108,zg 110 (.fad (zt 1) 5) 109 true,zg 111 (.ld none (zt 110)) 109 true,zg 112 (.call (.func cJ) [zt 111,zw 1,zw 12]) 109 true,zo 113 (.pick (zt 109) (zt 112) zF),zm 114 113,zg 115 (.fad (zt 1) 6) 114 true,zg 116 (.ld none (zt 115)) 114 true,zg 117 (.call (.func cJ) [zt 116,zw 1,zw 12]) 114 true,zo 118 (.pick (zt 114) (zt 117) zF),zm 2 118] [1,118,117,116,115,114,113,112,111,110,109,108,107,106]) .ret)) (zK [104] (zQ (zr [zj 120 .eql 20 4,zm 119 120] [20,120]) (zC 119 (zK [1,119] (zE [zo 2 (.mov zT)] .ret)) (zK [119] .skip))))))))))))))))))))))))))))) (zQ (zr [zf 121 1 16,zv 122 3 121,zc 123 jW [zt 122],zm 2 123] [1,123,122,121]) .ret)))⟩
theorem aFV:aB prog wU []=some aCH:=by kernel_rfl
def aH1:HFun:=⟨93,[(2,none)],zQ (zr [zo 1 (.box (zt 0)),zo 2 (.mov zF)] [0,2]) (zQ (zE [zk 3 0] (zP 0 (zQ (zQ (zr [zm 8 3,zf 9 1 19,zl 10 9,zn 11 10,zb 12 .lss 8 11] [11,10,9,8]) (zC 12 (zK [12] .skip) (zK [3,12] (.exit 0)))) (zQ (.block 1 (zQ (zr [zf 15 1 19,zl 16 15,zm 17 3,zi 18 16 17 1,zl 19 18,zc 20 cJ [zt 19,zw 1,zw 12],zo 21 (.un .not (zt 20))] [20,19,18,17,16,15]) (zC 21 (zK [3,1,21] (zE [zo 2 (.mov zF)] .ret)) (zK [21] .skip)))) (zr [zm 13 3,zj 14 .add 13 1,zm 3 14] [14,13]))))) (zQ (zE [zk 4 0] (zP 2 (zQ (zQ (zr [zm 22 4,zf 23 1 15,zl 24 23,zn 25 24,zb 26 .lss 22 25] [25,24,23,22]) (zC 26 (zK [26] .skip) (zK [4,26] (.exit 2)))) (zQ (.block 3 (zQ (zr [zf 29 1 15,zl 30 29,zm 31 4,zi 32 30 31 1,zl 33 32,zc 34 xU [zt 33],zo 35 (.un .not (zt 34))] [34,33,32,31,30,29]) (zC 35 (zK [4,1,35] (zE [zo 2 (.mov zF)] .ret)) (zK [35] .skip)))) (zr [zm 27 4,zj 28 .add 27 1,zm 4 28] [28,27]))))) (zQ (zE [zk 5 0] (zP 4 (zQ (zQ (zr [zm 36 5,zf 37 1 4,zl 38 37,zn 39 38,zb 40 .lss 36 39] [39,38,37,36]) (zC 40 (zK [40] .skip) (zK [5,40] (.exit 4)))) (zQ (.block 5 (zQ (zr [zf 43 1 4,zl 44 43,zm 45 5,zi 46 44 45 3,zv 47 3 46,zc 48 jW [zt 47],zo 49 (.un .not (zt 48))] [48,47,46,45,44,43]) (zC 49 (zK [5,1,49] (zE [zo 2 (.mov zF)] .ret)) (zK [49] .skip)))) (zr [zm 41 5,zj 42 .add 41 1,zm 5 42] [42,41]))))) (zQ (zE [zk 6 0] (zP 6 (zQ (zQ (zr [zm 50 6,zf 51 1 9,zl 52 51,zn 53 52,zb 54 .lss 50 53] [53,52,51,50]) (zC 54 (zK [54] .skip) (zK [6,54] (.exit 6)))) (zQ (.block 7 (zQ (zr [zf 57 1 9,zl 58 57,zm 59 6,zi 60 58 59 2,zf 61 60 0,zl 62 61,zc 63 mG [zt 62],zo 64 (.un .not (zt 63)),zm 65 64,zg 66 (.fad (zt 1) 9) 65 false,zg 67 (.ld none (zt 66)) 65 false,zh 68 6 65 false,zg 69 (.iad (zt 67) (zt 68) 2) 65 false,zg 70 (.fad (zt 69) 1) 65 false,zg 71 (.ld none (zt 70)) 65 false,zg 72 (.call (.func vN) [zt 71]) 65 false,zg 73 (.un .not (zt 72)) 65 false,zo 74 (.pick (zt 65) zT (zt 73))] [73,72,71,70,69,68,67,66,65,64,63,62,61,60,59,58,57]) (zC 74 (zK [6,1,74] (zE [zo 2 (.mov zF)] .ret)) (zK [74] .skip)))) (zr [zm 55 6,zj 56 .add 55 1,zm 6 56] [56,55]))))) (zQ (zE [zk 7 0] (zP 8 (zQ (zQ (zr [zm 75 7,zf 76 1 24,zl 77 76,zn 78 77,zb 79 .lss 75 78] [78,77,76,75]) (zC 79 (zK [79] .skip) (zK [7,79] (.exit 8)))) (zQ (.block 9 (zQ (zr [zf 82 1 24,zl 83 82,zm 84 7,zi 85 83 84 4,zf 86 85 0,zv 87 3 86,zc 88 jW [zt 87],zo 89 (.un .not (zt 88))] [88,87,86,85,84,83,82]) (zC 89 (zK [7,1,89] (zE [zo 2 (.mov zF)] .ret)) (zK [89] .skip)))) (zr [zm 80 7,zj 81 .add 80 1,zm 7 81] [81,80]))))) (zQ (zr [zf 90 1 22,zl 91 90,zc 92 vN [zt 91],zm 2 92] [1,92,91,90]) .ret))))))⟩
theorem aKb:aB prog aBe []=some aH1:=by kernel_rfl
def aKc:HFun:=⟨104,[(2,none)],zQ (zr [zo 1 (.box (zt 0)),zo 2 (.mov zF)] [0,2]) (zQ (zE [zk 3 0] (zP 0 (zQ (zQ (zr [zm 5 3,zf 6 1 9,zl 7 6,zn 8 7,zb 9 .lss 5 8] [8,7,6,5]) (zC 9 (zK [9] .skip) (zK [3,9] (.exit 0)))) (zQ (.block 1 (zQ (zr [zf 12 1 9,zl 13 12,zm 14 3,zi 15 13 14 2,zf 16 15 1,zl 17 16,zn 18 17,zj 19 .gtr 18 12] [18,17,16,15,14,13,12]) (zC 19 (zK [3,1,19] (zE [zo 2 (.mov zT)] .ret)) (zK [19] .skip)))) (zr [zm 10 3,zj 11 .add 10 1,zm 3 11] [11,10]))))) (zQ (zE [zk 4 0] (zP 2 (zQ (zQ (zr [zm 20 4,zf 21 1 24,zl 22 21,zn 23 22,zb 24 .lss 20 23] [23,22,21,20]) (zC 24 (zK [24] .skip) (zK [4,24] (.exit 2)))) (zQ (.block 3 (zQ (zr [zf 27 1 24,zl 28 27,zm 29 4,zi 30 28 29 4,zf 31 30 3,zl 32 31,zn 33 32,zj 34 .gtr 33 208] [33,32,31,30,29,28,27]) (zC 34 (zK [4,1,34] (zE [zo 2 (.mov zT)] .ret)) (zK [34] .skip)))) (zr [zm 25 4,zj 26 .add 25 1,zm 4 26] [26,25]))))) (zQ (zQ (zr [zf 35 1 4,zl 36 35,zn 37 36,zj 38 .gtr 37 12,zm 39 38,zg 40 (.fad (zt 1) 9) 39 false,zg 41 (.ld none (zt 40)) 39 false,zg 42 (.lenL (zt 41)) 39 false,zg 43 (.bin .gtr (zt 42) (zw 5)) 39 false,zo 44 (.pick (zt 39) zT (zt 43)),zm 45 44,zg 46 (.fad (zt 1) 14) 45 false,zg 47 (.ld none (zt 46)) 45 false,zg 48 (.lenL (zt 47)) 45 false,zg 49 (.bin .gtr (zt 48) (zw 208)) 45 false,zo 50 (.pick (zt 45) zT (zt 49)),zm 51 50,zg 52 (.fad (zt 1) 15) 51 false,zg 53 (.ld none (zt 52)) 51 false,zg 54 (.lenL (zt 53)) 51 false,zg 55 (.bin .gtr (zt 54) (zw 8)) 51 false,zo 56 (.pick (zt 51) zT (zt 55)),zm 57 56,zg 58 (.fad (zt 1) 24) 57 false,zg 59 (.ld none (zt 58)) 57 false,zg 60 (.lenL (zt 59)) 57 false,zg 61 (.bin .gtr (zt 60) (zw 20)) 57 false,zo 62 (.pick (zt 57) zT (zt 61)),zm 63 62,zg 64 (.fad (zt 1) 19) 63 false,zg 65 (.ld none (zt 64)) 63 false,zg 66 (.lenL (zt 65)) 63 false,zg 67 (.bin .gtr (zt 66) (zw 6)) 63 false,zo 68 (.pick (zt 63) zT (zt 67))] [67,66,65,64,63,62,61,60,59,58,57,56,55,54,53,52,51,50,49,48,47,46,45,44,43,42,41,40,39,38,37,36,35]) (zC 68 (zK [1,68] (zE [zo 2 (.mov zT)] .ret)) (zK [68] .skip))) (zQ (zQ (zr [zf 69 1 2,zl 70 69,zj 71 .eql 70 7] [70,69]) (zC 71 (zK [71] (zQ (zr [zf 72 1 14,zl 73 72,zn 74 73,zc 75 cJ [zt 74,zw 1,zw 20],zo 76 (.un .not (zt 75)),zm 2 76] [1,76,75,74,73,72]) .ret)) (zK [71] .skip))) (zQ (zQ (zr [zf 77 1 2,zl 78 77,zj 79 .eql 78 9] [78,77]) (zC 79 (zK [79] (zQ (zr [zf 80 1 22,zl 81 80,zn 82 81,zf 83 1 19,zl 84 83,zn 85 84,zb 86 .neq 82 85,zm 2 86] [1,86,85,84,83,82,81,80]) .ret)) (zK [79] .skip))) (zQ (zQ (zr [zf 87 1 2,zl 88 87,zj 89 .eql 88 10] [88,87]) (zC 89 (zK [89] (zQ (zr [zf 90 1 22,zl 91 90,zn 92 91,zc 93 cJ [zt 92,zw 1,zw 6],zo 94 (.un .not (zt 93)),zm 2 94] [1,94,93,92,91,90]) .ret)) (zK [89] .skip))) (zQ (zr [zf 95 1 2,zl 96 95,zj 97 .eql 96 11,zm 98 97,zg 99 (.fad (zt 1) 22) 98 true,zg 100 (.ld none (zt 99)) 98 true,zg 101 (.lenL (zt 100)) 98 true,zg 102 (.bin .neq (zt 101) (zw 1)) 98 true,zo 103 (.pick (zt 98) (zt 102) zF),zm 2 103] [1,103,102,101,100,99,98,97,96,95]) .ret)))))))⟩
theorem aLX:aB prog aDj []=some aKc:=by kernel_rfl
def aPV:HFun:=⟨15,[(6,none)],zQ (zr [zo 6 (.mov zF)] [6]) (zQ (zr [zm 7 0,zm 8 1,zb 9 .geq 7 8,zm 10 9,zh 11 0 10 true,zh 12 2 10 true,zg 13 (.bin .leq (zt 11) (zt 12)) 10 true,zo 14 (.pick (zt 10) (zt 13) zF),zm 6 14] [0,1,2,14,13,12,11,10,9,8,7]) .ret)⟩
theorem aPW:aB prog cJ []=some aPV:=by kernel_rfl
def aH2:HFun:=⟨16,[(2,none)],zQ (zr [zo 1 (.box (zt 0)),zo 2 (.mov zF)] [0,2]) (zQ (zr [zf 3 1 0,zl 4 3,zc 5 cJ [zt 4,zw 1,zw 12],zm 6 5,zg 7 (.fad (zt 1) 1) 6 true,zg 8 (.ld none (zt 7)) 6 true,zg 9 (.call (.func cJ) [zt 8,zw 1,zw 2147483647]) 6 true,zo 10 (.pick (zt 6) (zt 9) zF),zm 11 10,zg 12 (.fad (zt 1) 2) 11 true,zg 13 (.ld none (zt 12)) 11 true,zg 14 (.call (.func xU) [zt 13]) 11 true,zo 15 (.pick (zt 11) (zt 14) zF),zm 2 15] [1,15,14,13,12,11,10,9,8,7,6,5,4,3]) .ret)⟩
theorem aKd:aB prog jW []=some aH2:=by kernel_rfl
def aEK:HFun:=⟨9,[(2,none)],zQ (zr [zo 2 (.mov zF)] [2]) (zQ (zr [zm 3 0,zo 4 (.bin .geq (zt 3) (zu 1)),zm 5 4,zh 6 0 5 true,zg 7 (.bin .lss (zt 6) (zu 2305843009213693951)) 5 true,zo 8 (.pick (zt 5) (zt 7) zF),zm 2 8] [0,8,7,6,5,4,3]) .ret)⟩
theorem aHE:aB prog mG []=some aEK:=by kernel_rfl
def aPX:HFun:=⟨5,[(2,none)],zQ (zr [zo 2 (.mov zF)] [2]) (zQ (zr [zm 3 0,zo 4 (.bin .lss (zt 3) (zu 2305843009213693951)),zm 2 4] [0,4,3]) .ret)⟩
theorem aPY:aB prog xU []=some aPX:=by kernel_rfl
def aH3:HFun:=⟨44,[(2,none)],zQ (zr [zo 2 (.mov zF)] [2]) (zQ (zE [zk 3 0] (zP 0 (zQ (zQ (zr [zm 4 3,zm 5 0,zn 6 5,zb 7 .lss 4 6] [6,5,4]) (zC 7 (zK [7] .skip) (zK [0,3,7] (.exit 0)))) (zQ (.block 1 (zQ (zr [zm 10 0,zm 11 3,zi 12 10 11 4,zf 13 12 0,zl 14 13,zc 15 mG [zt 14],zo 16 (.un .not (zt 15)),zm 17 16,zh 18 0 17 false,zh 19 3 17 false,zg 20 (.iad (zt 18) (zt 19) 4) 17 false,zg 21 (.fad (zt 20) 1) 17 false,zg 22 (.ld none (zt 21)) 17 false,zg 23 (.call (.func mG) [zt 22]) 17 false,zg 24 (.un .not (zt 23)) 17 false,zo 25 (.pick (zt 17) zT (zt 24)),zm 26 25,zh 27 0 26 false,zh 28 3 26 false,zg 29 (.iad (zt 27) (zt 28) 4) 26 false,zg 30 (.fad (zt 29) 2) 26 false,zg 31 (.ld none (zt 30)) 26 false,zg 32 (.call (.func xU) [zt 31]) 26 false,zg 33 (.un .not (zt 32)) 26 false,zo 34 (.pick (zt 26) zT (zt 33)),zm 35 34,zh 36 0 35 false,zh 37 3 35 false,zg 38 (.iad (zt 36) (zt 37) 4) 35 false,zg 39 (.fad (zt 38) 3) 35 false,zg 40 (.ld none (zt 39)) 35 false,zg 41 (.call (.func xU) [zt 40]) 35 false,zg 42 (.un .not (zt 41)) 35 false,zo 43 (.pick (zt 35) zT (zt 42))] [42,41,40,39,38,37,36,35,34,33,32,31,30,29,28,27,26,25,24,23,22,21,20,19,18,17,16,15,14,13,12,11,10]) (zC 43 (zK [3,0,43] (zE [zo 2 (.mov zF)] .ret)) (zK [43] .skip)))) (zr [zm 8 3,zj 9 .add 8 1,zm 3 9] [9,8]))))) (zE [zo 2 (.mov zT)] .ret))⟩
theorem aKe:aB prog vN []=some aH3:=by kernel_rfl
def aH4:HFun:=⟨52,[(4,none)],zQ (zr [zk 4 0] [4]) (zE [zk 5 0] (zQ (zE [zk 6 0] (zP 0 (zQ (zQ (zr [zm 8 6,zm 9 0,zn 10 9,zb 11 .lss 8 10] [10,9,8]) (zC 11 (zK [11] .skip) (zK [0,1,6,11] (.exit 0)))) (zQ (.block 1 (zQ (zr [zm 14 0,zm 15 1,zm 16 0,zm 17 6,zi 18 16 17 3,zf 19 18 1,zl 20 19,zc 21 aDm [zt 14,zt 15,zt 20],zm 7 21] [21,20,19,18,17,16,15,14]) (zQ (zr [zm 22 0,zm 23 6,zi 24 22 23 3,zf 25 24 0,zl 26 25,zm 27 1,zb 28 .eql 26 27,zm 29 28,zh 30 7 29 true,zg 31 (.bin .gtr (zt 30) (zw 1)) 29 true,zo 32 (.pick (zt 29) (zt 31) zF),zm 33 32,zh 34 5 33 true,zg 35 (.bin .eql (zt 34) (zw 0)) 33 true,zh 36 35 33 true,zh 37 0 36 false,zh 38 6 36 false,zg 39 (.iad (zt 37) (zt 38) 3) 36 false,zg 40 (.fad (zt 39) 1) 36 false,zg 41 (.ld none (zt 40)) 36 false,zh 42 5 36 false,zg 43 (.bin .lss (zt 41) (zt 42)) 36 false,zg 44 (.pick (zt 36) zT (zt 43)) 33 true,zo 45 (.pick (zt 33) (zt 44) zF)] [7,44,43,42,41,40,39,38,37,36,35,34,33,32,31,30,29,28,27,26,25,24,23,22]) (zC 45 (zK [5,45] (zr [zm 46 0,zm 47 6,zi 48 46 47 3,zf 49 48 1,zl 50 49,zm 5 50] [50,49,48,47,46])) (zK [45] .skip))))) (zr [zm 12 6,zj 13 .add 12 1,zm 6 13] [13,12]))))) (zQ (zr [zm 51 5,zm 4 51] [5,51]) .ret)))⟩
theorem aKf:aB prog vO []=some aH4:=by kernel_rfl
def aCI:HFun:=⟨42,[(4,none)],zQ (zr [zo 2 (.box (zt 0)),zN 4] [0,4]) (zQ (zr [zv 9 5 2,zm 10 1,zc 11 vF [zt 9,zt 10],zm 5 11] [1,11,10,9]) (zQ (zE [zN 6] (.own 6 none 1)) (zQ (zE [zk 7 0] (zP 0 (zQ (zQ (zr [zm 12 7,zm 13 5,zn 14 13,zb 15 .lss 12 14] [14,13,12]) (zC 15 (zK [15] .skip) (zK [2,5,7,15] (.exit 0)))) (zQ (.block 1 (zQ (zR (zq (zf 18 2 1) (zq (zl 19 18) (zq (zv 20 5 2) (zq (zm 21 5) (zq (zm 22 7) (zq (zi 23 21 22 3) (zq (zv 24 3 23) (zA (zc 25 vI [zt 20,zt 24]) [zl 19 18,zf 18 2 1] (zq (zi 26 19 25 27) (zq (zv 27 27 26) (zA (zc 28 aJe [zt 27]) [] (zq (zm 8 28) (.done false)) .no))) .no)))))))) [28,27,26,25,24,23,22,21,20,19,18]) (zQ (zr [zm 29 8,zj 30 .gtr 29 0,zm 31 30,zh 32 6 31 true,zh 33 8 31 true,zg 34 (.call (.func cM) [zt 32,zt 33]) 31 true,zg 35 (.un .not (zt 34)) 31 true,zo 36 (.pick (zt 31) (zt 35) zF)] [35,34,33,32,31,30,29]) (zC 36 (zK [36] (zQ (zr [zm 37 6,zm 38 8,zo 39 (.bsl 1 [z0] [(0,(1,zt 38))] 1),zo 40 (.app (zt 37) (zt 39) 1 8),zm 6 40] [8,40,39,38,37]) (.own 6 none 1))) (zK [8,36] .skip))))) (zr [zm 16 7,zj 17 .add 16 1,zm 7 17] [17,16]))))) (zQ (zQ (zr [zm 41 6,zm 4 41] [6,41]) (.own 4 none 1)) .ret))))⟩
theorem aFW:aB prog qS [(4,none,1),(6,none,1)]=some aCI:=by kernel_rfl
def aKg:HFun:=⟨34,[(6,none)],zQ (zr [zk 6 0] [6]) (zE [zk 7 0] (zQ (zE [zk 8 0] (zP 0 (zQ (zQ (zr [zm 9 8,zm 10 0,zn 11 10,zb 12 .lss 9 11] [11,10,9]) (zC 12 (zK [12] .skip) (zK [0,8,1,2,12] (.exit 0)))) (zQ (.block 1 (zQ (zr [zm 15 0,zm 16 8,zi 17 15 16 3,zf 18 17 0,zl 19 18,zm 20 1,zb 21 .eql 19 20,zm 22 21,zh 23 0 22 true,zh 24 8 22 true,zg 25 (.iad (zt 23) (zt 24) 3) 22 true,zg 26 (.fad (zt 25) 1) 22 true,zg 27 (.ld none (zt 26)) 22 true,zh 28 2 22 true,zg 29 (.bin .eql (zt 27) (zt 28)) 22 true,zo 30 (.pick (zt 22) (zt 29) zF)] [29,28,27,26,25,24,23,22,21,20,19,18,17,16,15]) (zC 30 (zK [30] (zr [zm 31 7,zj 32 .add 31 1,zm 7 32] [32,31])) (zK [30] .skip)))) (zr [zm 13 8,zj 14 .add 13 1,zm 8 14] [14,13]))))) (zQ (zr [zm 33 7,zm 6 33] [7,33]) .ret)))⟩
theorem aLY:aB prog aDm []=some aKg:=by kernel_rfl
def aPZ:HFun:=⟨18,[(2,none)],zQ (zr [zo 1 (.box (zt 0)),zk 2 0] [0,2]) (zQ (zQ (zr [zf 3 1 2,zl 4 3,zj 5 .eql 4 1] [4,3]) (zC 5 (zK [5] (zQ (zr [zf 6 1 0,zl 7 6,zm 2 7] [1,7,6]) .ret)) (zK [5] .skip))) (zQ (zQ (zr [zf 8 1 2,zl 9 8,zj 10 .eql 9 2,zm 11 10,zg 12 (.fad (zt 1) 2) 11 false,zg 13 (.ld none (zt 12)) 11 false,zg 14 (.bin .eql (zt 13) (zw 13)) 11 false,zo 15 (.pick (zt 11) zT (zt 14))] [14,13,12,11,10,9,8]) (zC 15 (zK [15] (zQ (zr [zf 16 1 5,zl 17 16,zm 2 17] [1,17,16]) .ret)) (zK [1,15] .skip))) (zE [zk 2 0] .ret)))⟩
theorem aQ0:aB prog aJe []=some aPZ:=by kernel_rfl
def aKh:HFun:=⟨39,[(2,none)],zQ (zr [zN 2] [2]) (zQ (zE [zN 3] (.own 3 none 3)) (zQ (zE [zk 4 0] (zP 0 (zQ (zQ (zr [zm 6 4,zm 7 0,zn 8 7,zb 9 .lss 6 8] [8,7,6]) (zC 9 (zK [9] .skip) (zK [0,4,9] (.exit 0)))) (zQ (.block 1 (zQ (zr [zm 12 0,zm 13 0,zm 14 4,zi 15 13 14 3,zf 16 15 0,zl 17 16,zc 18 vO [zt 12,zt 17],zm 5 18] [18,17,16,15,14,13,12]) (zQ (zr [zm 19 5,zj 20 .gtr 19 0,zm 21 20,zh 22 0 21 true,zh 23 4 21 true,zg 24 (.iad (zt 22) (zt 23) 3) 21 true,zg 25 (.fad (zt 24) 1) 21 true,zg 26 (.ld none (zt 25)) 21 true,zh 27 5 21 true,zg 28 (.bin .geq (zt 26) (zt 27)) 21 true,zo 29 (.pick (zt 21) (zt 28) zF)] [5,28,27,26,25,24,23,22,21,20,19]) (zC 29 (zK [29] (zQ (zr [zm 30 3,zm 31 0,zm 32 4,zi 33 31 32 3,zv 34 3 33,zo 35 (.bsl 3 [z0,z0,zU] [(0,(3,zt 34))] 1),zo 36 (.app (zt 30) (zt 35) 3 24),zm 3 36] [36,35,34,33,32,31,30]) (.own 3 none 3))) (zK [29] .skip))))) (zr [zm 10 4,zj 11 .add 10 1,zm 4 11] [11,10]))))) (zQ (zr [zm 37 3,zc 38 kB [zt 37],zm 2 38] [3,38,37]) .ret)))⟩
theorem aLZ:aB prog aDp [(3,none,3)]=some aKh:=by kernel_rfl
end
section
def fB (l:List Int):List Nat:=(l.map cB).flatten
def vY (l:List Nat):List Nat:=(l.map jL).flatten
theorem aRU (l:List Int) (x:Int):fB (l++[x])=fB l++cB x:=by simp [fB]
theorem oG:∀ l:List Int,(fB l).length<=10*l.length
 | []=>by simp [fB]
 | x::l=>by
  have:=oG l
  have h:=cC x
  simp only [fB,List.map_cons,List.flatten_cons,List.length_append,List.length_cons] at *
  omega
theorem aN7:∀ l:List Nat,(vY l).length<=10*l.length
 | []=>by simp [vY]
 | x::l=>by
  have:=aN7 l
  have h:=iR x
  simp only [vY,List.map_cons,List.flatten_cons,List.length_append,List.length_cons] at *
  omega
section
variable {G:Nat->Option (List AV)}
set_option maxHeartbeats 4000000
def BoxM.B (b:BoxM):List Nat:=vY [b.To,b.Eph,b.Body,b.Tag]
def aCJ (b:List Nat):List Nat:=cB (b.length:Int)++b
end
end
end Hud
