import Derived.Test.YthlndebkfkanbaaGreatDoorLib13
set_option linter.all false
namespace Hud
open Go Go.Proofs.Tryz
section
def aTz:HFun:=⟨12,[(2,some (some 3))],zQ (zr [zo 1 (.box (zt 0)),zo 2 (.alloc [z0,z0,zU])] [0]) (zQ (zR (zq (zf 3 1 0) (zq (zl 4 3) (zq (zf 5 1 1) (zq (zl 6 5) (zq (zv 7 27 1) (zA (zc 8 aC3 [zt 7]) [zl 6 5,zf 5 1 1,zl 4 3,zf 3 1 0] (zA (zc 9 mC [zt 8]) [zl 6 5,zf 5 1 1,zl 4 3,zf 3 1 0] (zA (zc 10 sP [.const (.string (Hud.bs [111,112])),zt 9]) [zl 6 5,zf 5 1 1,zl 4 3,zf 3 1 0] (zq (zo 11 (.bld [z0,z0,zU] [(0,(1,zt 4)),(1,(1,zt 6)),(2,(1,zt 10))])) (zA (zs (.st 3 (zt 2) (zt 11))) [] (.done false) .no)) .no) .no) .no)))))) [1,11,10,9,8,7,6,5,4,3]) .ret)⟩
theorem aRV:aB prog aEi []=some aTz:=by kernel_rfl
def aN8:HFun:=⟨94,[(2,none)],zQ (zr [zo 1 (.box (zt 0)),zo 2 (.mov (.const (.pointer none)))] [0,2]) (zQ (zr [zo 6 (.bld [zS] []),zo 7 (.box (zt 6)),zo 3 (.alloc [.pointer none]),zs (.st 1 (zt 3) (zt 7))] [7,6]) (zQ (zr [zo 8 (.clo oC [zt 3]),zm 4 8] [8]) (zQ (zr [zo 9 (.clo gH [zt 3]),zo 5 (.alloc [.nilFunc]),zs (.st 1 (zt 5) (zt 9))] [9]) (zQ (zr [zm 10 4,zf 11 1 0,zl 12 11,zf 13 1 1,zl 14 13,zf 15 1 2,zl 16 15,zf 17 1 3,zl 18 17,zo 19 (.bsl 1 [z0,z0,z0,z0] [(0,(1,zt 12)),(1,(1,zt 14)),(2,(1,zt 16)),(3,(1,zt 18))] 4),zo 20 (.call (zt 10) [zt 19])] [20,19,18,17,16,15,14,13,12,11,10]) (zQ (zr [zl 21 3,zf 22 1 4,zl 23 22,zl 24 3,zo 25 (.bmo cO 1 [zt 24]),zc 26 nR [zt 21,zt 23,zt 25]] [26,25,24,23,22,21]) (zQ (zr [zm 27 4,zf 28 1 5,zl 29 28,zf 30 1 6,zl 31 30,zf 32 1 7,zl 33 32,zf 34 1 8,zl 35 34,zo 36 (.bsl 1 [z0,z0,z0,z0] [(0,(1,zt 29)),(1,(1,zt 31)),(2,(1,zt 33)),(3,(1,zt 35))] 4),zo 37 (.call (zt 27) [zt 36])] [37,36,35,34,33,32,31,30,29,28,27]) (zQ (zr [zl 38 3,zf 39 1 9,zl 40 39,zo 41 (.clo rF [zt 3,zt 5]),zc 42 pB [zt 38,zt 40,zt 41]] [42,41,40,39,38]) (zQ (zr [zl 43 3,zf 44 1 10,zv 45 3 44,zc 46 cO [zt 43,zt 45]] [46,45,44,43]) (zQ (zr [zl 47 3,zf 48 1 13,zl 49 48,zc 50 bA [zt 47,zt 49]] [50,49,48,47]) (zQ (zr [zl 51 3,zf 52 1 14,zl 53 52,zo 54 (.b2s (zt 53)),zc 55 nK [zt 51,zt 54]] [55,54,53,52,51]) (zQ (zr [zl 56 3,zf 57 1 15,zl 58 57,zl 59 3,zo 60 (.bmo cH 1 [zt 59]),zc 61 rU [zt 56,zt 58,zt 60]] [61,60,59,58,57,56]) (zQ (zr [zl 62 3,zf 63 1 16,zv 64 3 63,zc 65 cO [zt 62,zt 64]] [65,64,63,62]) (zQ (zr [zl 66 3,zf 67 1 19,zl 68 67,zl 69 3,zo 70 (.bmo bA 1 [zt 69]),zc 71 zV [zt 66,zt 68,zt 70]] [71,70,69,68,67,66]) (zQ (zr [zm 72 4,zf 73 1 20,zl 74 73,zf 75 1 21,zl 76 75,zo 77 (.bsl 1 [z0,z0] [(0,(1,zt 74)),(1,(1,zt 76))] 2),zo 78 (.call (zt 72) [zt 77])] [4,78,77,76,75,74,73,72]) (zQ (zr [zl 79 3,zf 80 1 22,zl 81 80,zl 82 5,zc 83 mE [zt 79,zt 81,zt 82]] [5,83,82,81,80,79]) (zQ (zr [zl 84 3,zf 85 1 23,zl 86 85,zc 87 cH [zt 84,zt 86]] [87,86,85,84]) (zQ (zr [zl 88 3,zf 89 1 24,zl 90 89,zo 91 (.clo rG [zt 3]),zc 92 mO [zt 88,zt 90,zt 91]] [1,92,91,90,89,88]) (zQ (zr [zl 93 3,zm 2 93] [3,93]) .ret))))))))))))))))))⟩
theorem aOp:aB prog aC3 []=some aN8:=by kernel_rfl
def aKi:HFun:=⟨93,[(2,none)],zQ (zr [zo 1 (.box (zt 0)),zk 2 0] [0,2]) (zQ (zQ (zR (zq (zf 6 1 2) (zq (zl 7 6) (zq (zj 8 .lss 7 1) (zq (zm 9 8) (zq (zg 10 (.fad (zt 1) 2) 9 false) (zq (zg 11 (.ld none (zt 10)) 9 false) (zq (zg 12 (.bin .gtr (zt 11) (zw 13)) 9 false) (zq (zo 13 (.pick (zt 9) zT (zt 12))) (zq (zm 14 13) (zq (zg 15 (.ld (some 27) (zt 1)) 14 false) (zq (zg 17 (.fad (zt 1) 2) 14 false) (zq (zg 18 (.ld none (zt 17)) 14 false) (zq (zg 19 (.iadA (.global 0) (zt 18) 14 1) 14 false) (zq (zg 20 (.ld none (zt 19)) 14 false) (zA (zg 16 (.call (.func zY) [zt 15]) 14 false) [zg 20 (.ld none (zt 19)) 14 false,zg 19 (.iadA (.global 0) (zt 18) 14 1) 14 false,zg 18 (.ld none (zt 17)) 14 false,zg 17 (.fad (zt 1) 2) 14 false] (zq (zg 21 (.bin .andNot (zt 16) (zt 20)) 14 false) (zq (zg 22 (.bin .neq (zt 21) (zw 0)) 14 false) (zq (zo 23 (.pick (zt 14) zT (zt 22))) (.done false)))) .no))))))))))))))) [22,21,20,19,18,17,16,15,14,13,12,11,10,9,8,7,6]) (zC 23 (zK [1,23] (zE [zk 2 1] .ret)) (zK [23] .skip))) (zE [zo 3 (.mov zT)] (zQ (zQ (zr [zf 24 1 4,zl 25 24,zn 26 25,zj 27 .sub 26 1,zk 28 0] [26,25,24]) (zP 0 (zE [zb 29 .lss 28 27] (zQ (zC 29 (zK [29] .skip) (zK [28,27,29] (.exit 0))) (zQ (.block 1 (zQ (zr [zm 30 28,zm 4 30] [30]) (zR (zq (zm 31 3) (zq (zm 32 31) (zq (zg 33 (.fad (zt 1) 4) 32 true) (zq (zg 34 (.ld none (zt 33)) 32 true) (zq (zh 35 4 32 true) (zq (zg 36 (.iad (zt 34) (zt 35) 3) 32 true) (zq (zg 37 (.ld (some 3) (zt 36)) 32 true) (zq (zg 38 (.fad (zt 1) 4) 32 true) (zq (zg 39 (.ld none (zt 38)) 32 true) (zq (zh 40 4 32 true) (zq (zg 41 (.bin .add (zt 40) (zw 1)) 32 true) (zq (zg 42 (.iad (zt 39) (zt 41) 3) 32 true) (zq (zg 43 (.ld (some 3) (zt 42)) 32 true) (zA (zg 44 (.call (.func aFB) [zt 37,zt 43]) 32 true) [] (zq (zo 45 (.pick (zt 32) (zt 44) zF)) (zA (zm 3 45) [] (.done false) .no)) .no)))))))))))))) [4,45,44,43,42,41,40,39,38,37,36,35,34,33,32,31]))) (zr [zj 46 .add 28 1,zm 28 46] [46])))))) (zQ (zQ (zr [zf 47 1 19,zl 48 47,zn 49 48,zj 50 .sub 49 1,zk 51 0] [49,48,47]) (zP 2 (zE [zb 52 .lss 51 50] (zQ (zC 52 (zK [52] .skip) (zK [51,50,52] (.exit 2))) (zQ (.block 3 (zQ (zr [zm 53 51,zm 5 53] [53]) (zR (zq (zm 54 3) (zq (zm 55 54) (zq (zg 56 (.fad (zt 1) 19) 55 true) (zq (zg 57 (.ld none (zt 56)) 55 true) (zq (zh 58 5 55 true) (zq (zg 59 (.iad (zt 57) (zt 58) 1) 55 true) (zq (zg 60 (.ld none (zt 59)) 55 true) (zq (zg 61 (.fad (zt 1) 19) 55 true) (zq (zg 62 (.ld none (zt 61)) 55 true) (zq (zh 63 5 55 true) (zq (zg 64 (.bin .add (zt 63) (zw 1)) 55 true) (zq (zg 65 (.iad (zt 62) (zt 64) 1) 55 true) (zq (zg 66 (.ld none (zt 65)) 55 true) (zq (zg 67 (.bin .lss (zt 60) (zt 66)) 55 true) (zq (zo 68 (.pick (zt 55) (zt 67) zF)) (zA (zm 3 68) [] (.done false) .no)))))))))))))))) [5,68,67,66,65,64,63,62,61,60,59,58,57,56,55,54]))) (zr [zj 69 .add 51 1,zm 51 69] [69])))))) (zQ (.block 4 (zQ (zR (zq (zv 71 27 1) (zq (zf 72 1 2) (zq (zl 73 72) (zq (zo 74 (.iadA (.global 0) (zt 73) 14 1)) (zq (zl 75 74) (zA (zc 76 aBc [zt 71,zt 75]) [] (zq (zo 77 (.un .not (zt 76))) (zq (zm 70 77) (.done false))) .no)))))) [77,76,75,74,73,72,71]) (zC 70 (zK [1,3,70] (zE [zk 2 8] .ret)) (zK [70] (zQ (zr [zv 79 27 1,zc 80 aFC [zt 79],zm 78 80] [80,79]) (zC 78 (zK [3,1,78] (zE [zk 2 2] .ret)) (zK [78] (zQ (zr [zm 82 3,zo 83 (.un .not (zt 82)),zm 81 83] [3,83,82]) (zC 81 (zK [1,81] (zE [zk 2 6] .ret)) (zK [81] (zQ (zr [zf 85 1 4,zl 86 85,zn 87 86,zj 88 .eql 87 0,zf 89 1 2,zl 90 89,zj 91 .eql 90 1,zo 92 (.eqb true (zt 88) (zt 91)),zm 84 92] [1,92,91,90,89,88,87,86,85]) (zC 84 (zK [84] (zE [zk 2 10] .ret)) (zK [84] .skip))))))))))))) (zE [zk 2 0] .ret))))))⟩
theorem aM0:aB prog aDh []=some aKi:=by kernel_rfl
def aH5:HFun:=⟨20,[(4,none)],zQ (zr [zo 2 (.box (zt 0)),zo 3 (.box (zt 1)),zo 4 (.mov zF)] [0,1,4]) (zQ (zR (zq (zf 5 3 0) (zq (zl 6 5) (zq (zf 7 2 0) (zq (zl 8 7) (zq (zb 9 .eql 6 8) (zq (zm 10 9) (zq (zg 11 (.fad (zt 2) 4) 10 true) (zq (zg 12 (.ld none (zt 11)) 10 true) (zq (zg 13 (.ld (some 27) (zt 3)) 10 true) (zq (zg 16 (.fad (zt 3) 25) 10 true) (zq (zg 17 (.ld (some 2) (zt 16)) 10 true) (zA (zg 14 (.call (.func aC3) [zt 13]) 10 true) [zg 17 (.ld (some 2) (zt 16)) 10 true,zg 16 (.fad (zt 3) 25) 10 true,zg 12 (.ld none (zt 11)) 10 true,zg 11 (.fad (zt 2) 4) 10 true] (zA (zg 15 (.call (.func mC) [zt 14]) 10 true) [zg 17 (.ld (some 2) (zt 16)) 10 true,zg 16 (.fad (zt 3) 25) 10 true,zg 12 (.ld none (zt 11)) 10 true,zg 11 (.fad (zt 2) 4) 10 true] (zA (zg 18 (.call (.func zZ) [zt 12,zt 15,zt 17]) 10 true) [] (zq (zo 19 (.pick (zt 10) (zt 18) zF)) (zq (zm 4 19) (.done false))) .no) .no) .no)))))))))))) [3,2,19,18,17,16,15,14,13,12,11,10,9,8,7,6,5]) .ret)⟩
theorem aKj:aB prog aB7 []=some aH5:=by kernel_rfl
def aBx:HFun:=⟨15,[],zQ (zr [zm 5 0,zn 6 5,zk 7 0] [0]) (zP 0 (zE [zb 8 .lss 7 6] (zQ (zC 8 (zK [8] .skip) (zK [5,7,6,1,8] (.exit 0))) (zQ (.block 1 (zQ (zr [zi 9 5 7 1,zl 10 9,zm 4 10] [10,9]) (zr [zl 11 1,zm 12 4,zc 13 bA [zt 11,zt 12]] [4,13,12,11]))) (zr [zj 14 .add 7 1,zm 7 14] [14])))))⟩
theorem aBy:aB prog oC []=some aBx:=by kernel_rfl
def aH6:HFun:=⟨23,[],zQ (zr [zo 2 (.box (zt 0))] [0]) (zQ (zr [zf 5 2 0,zl 6 5,zf 7 2 1,zl 8 7,zf 9 2 2,zl 10 9,zf 11 2 3,zl 12 11,zo 13 (.bsl 1 [zU,zU,zU,zU] [(0,(1,zt 6)),(1,(1,zt 8)),(2,(1,zt 10)),(3,(1,zt 12))] 4),zn 14 13,zk 15 0] [2,12,11,10,9,8,7,6,5]) (zP 0 (zE [zb 16 .lss 15 14] (zQ (zC 16 (zK [16] .skip) (zK [13,15,14,1,16] (.exit 0))) (zQ (.block 1 (zQ (zr [zi 17 13 15 1,zl 18 17,zm 4 18] [18,17]) (zr [zl 19 1,zm 20 4,zc 21 cH [zt 19,zt 20]] [4,21,20,19]))) (zr [zj 22 .add 15 1,zm 15 22] [22]))))))⟩
theorem aKk:aB prog gH []=some aH6:=by kernel_rfl
def uF:HFun:=⟨22,[],zQ (zr [zm 8 0,zm 9 1,zn 10 9,zc 11 bA [zt 8,zt 10]] [0,11,10,9,8]) (zQ (zr [zm 12 1,zn 13 12,zk 14 0] [1]) (zP 0 (zE [zb 15 .lss 14 13] (zQ (zC 15 (zK [15] .skip) (zK [12,14,13,2,15] (.exit 0))) (zQ (.block 1 (zQ (zr [zi 16 12 14 3,zv 17 3 16,zo 7 (.alloc [z0,z0,zU]),zs (.st 3 (zt 7) (zt 17))] [17,16]) (zr [zm 18 2,zv 19 3 7,zo 20 (.call (zt 18) [zt 19])] [7,20,19,18]))) (zr [zj 21 .add 14 1,zm 14 21] [21]))))))⟩
theorem aAL:aB prog nR []=some uF:=by kernel_rfl
def vZ:HFun:=⟨22,[],zQ (zr [zm 8 0,zm 9 1,zn 10 9,zc 11 bA [zt 8,zt 10]] [0,11,10,9,8]) (zQ (zr [zm 12 1,zn 13 12,zk 14 0] [1]) (zP 0 (zE [zb 15 .lss 14 13] (zQ (zC 15 (zK [15] .skip) (zK [12,14,13,2,15] (.exit 0))) (zQ (.block 1 (zQ (zr [zi 16 12 14 2,zv 17 2 16,zo 7 (.alloc [zU,zS]),zs (.st 2 (zt 7) (zt 17))] [17,16]) (zr [zm 18 2,zv 19 2 7,zo 20 (.call (zt 18) [zt 19])] [7,20,19,18]))) (zr [zj 21 .add 14 1,zm 14 21] [21]))))))⟩
theorem aBz:aB prog pB []=some vZ:=by kernel_rfl
def aH7:HFun:=⟨13,[],zQ (zr [zo 3 (.box (zt 0))] [0]) (zQ (zr [zl 4 1,zf 5 3 0,zl 6 5,zc 7 cH [zt 4,zt 6]] [7,6,5,4]) (zr [zl 8 1,zf 9 3 1,zl 10 9,zl 11 2,zc 12 mE [zt 8,zt 10,zt 11]] [1,3,2,12,11,10,9,8]))⟩
theorem aKl:aB prog rF []=some aH7:=by kernel_rfl
def yA:HFun:=⟨22,[],zQ (zr [zm 8 0,zm 9 1,zn 10 9,zc 11 bA [zt 8,zt 10]] [0,11,10,9,8]) (zQ (zr [zm 12 1,zn 13 12,zk 14 0] [1]) (zP 0 (zE [zb 15 .lss 14 13] (zQ (zC 15 (zK [15] .skip) (zK [12,14,13,2,15] (.exit 0))) (zQ (.block 1 (zQ (zr [zi 16 12 14 4,zv 17 4 16,zo 7 (.alloc [zU,zU,zU,zU]),zs (.st 4 (zt 7) (zt 17))] [17,16]) (zr [zm 18 2,zv 19 4 7,zo 20 (.call (zt 18) [zt 19])] [7,20,19,18]))) (zr [zj 21 .add 14 1,zm 14 21] [21]))))))⟩
theorem aCo:aB prog mE []=some yA:=by kernel_rfl
def aAD:HFun:=⟨22,[],zQ (zr [zm 8 0,zm 9 1,zn 10 9,zc 11 bA [zt 8,zt 10]] [0,11,10,9,8]) (zQ (zr [zm 12 1,zn 13 12,zk 14 0] [1]) (zP 0 (zE [zb 15 .lss 14 13] (zQ (zC 15 (zK [15] .skip) (zK [12,14,13,2,15] (.exit 0))) (zQ (.block 1 (zQ (zr [zi 16 12 14 1,zl 17 16,zm 7 17] [17,16]) (zr [zm 18 2,zm 19 7,zo 20 (.call (zt 18) [zt 19])] [7,20,19,18]))) (zr [zj 21 .add 14 1,zm 14 21] [21]))))))⟩
theorem aDz:aB prog rU []=some aAD:=by kernel_rfl
def aEL:HFun:=⟨22,[],zQ (zr [zm 8 0,zm 9 1,zn 10 9,zc 11 bA [zt 8,zt 10]] [0,11,10,9,8]) (zQ (zr [zm 12 1,zn 13 12,zk 14 0] [1]) (zP 0 (zE [zb 15 .lss 14 13] (zQ (zC 15 (zK [15] .skip) (zK [12,14,13,2,15] (.exit 0))) (zQ (.block 1 (zQ (zr [zi 16 12 14 1,zl 17 16,zm 7 17] [17,16]) (zr [zm 18 2,zm 19 7,zo 20 (.call (zt 18) [zt 19])] [7,20,19,18]))) (zr [zj 21 .add 14 1,zm 14 21] [21]))))))⟩
theorem aHF:aB prog zV []=some aEL:=by kernel_rfl
def sI:HFun:=⟨22,[],zQ (zr [zm 8 0,zm 9 1,zn 10 9,zc 11 bA [zt 8,zt 10]] [0,11,10,9,8]) (zQ (zr [zm 12 1,zn 13 12,zk 14 0] [1]) (zP 0 (zE [zb 15 .lss 14 13] (zQ (zC 15 (zK [15] .skip) (zK [12,14,13,2,15] (.exit 0))) (zQ (.block 1 (zQ (zr [zi 16 12 14 4,zv 17 4 16,zo 7 (.alloc [z0,z0,zU,zS]),zs (.st 4 (zt 7) (zt 17))] [17,16]) (zr [zm 18 2,zv 19 4 7,zo 20 (.call (zt 18) [zt 19])] [7,20,19,18]))) (zr [zj 21 .add 14 1,zm 14 21] [21]))))))⟩
theorem aAf:aB prog mO []=some sI:=by kernel_rfl
def aH8:HFun:=⟨12,[],zQ (zr [zo 2 (.box (zt 0))] [0]) (zQ (zr [zl 3 1,zf 4 2 0,zv 5 3 4,zc 6 cO [zt 3,zt 5]] [6,5,4,3]) (zr [zl 7 1,zf 8 2 3,zl 9 8,zo 10 (.b2s (zt 9)),zc 11 nK [zt 7,zt 10]] [1,2,11,10,9,8,7]))⟩
theorem aKm:aB prog rG []=some aH8:=by kernel_rfl
def aTA:HFun:=⟨15,[(6,none)],zQ (zr [zo 6 (.mov zF)] [6]) (zQ (zr [zm 7 0,zm 8 1,zb 9 .geq 7 8,zm 10 9,zh 11 0 10 true,zh 12 2 10 true,zg 13 (.bin .leq (zt 11) (zt 12)) 10 true,zo 14 (.pick (zt 10) (zt 13) zF),zm 6 14] [0,1,2,14,13,12,11,10,9,8,7]) .ret)⟩
theorem aRW:aB prog aQ []=some aTA:=by kernel_rfl
def aKn:HFun:=⟨16,[(2,none)],zQ (zr [zo 1 (.box (zt 0)),zo 2 (.mov zF)] [0,2]) (zQ (zr [zf 3 1 0,zl 4 3,zc 5 aQ [zt 4,zw 1,zw 12],zm 6 5,zg 7 (.fad (zt 1) 1) 6 true,zg 8 (.ld none (zt 7)) 6 true,zg 9 (.call (.func aQ) [zt 8,zw 1,zw 2147483647]) 6 true,zo 10 (.pick (zt 6) (zt 9) zF),zm 11 10,zg 12 (.fad (zt 1) 2) 11 true,zg 13 (.ld none (zt 12)) 11 true,zg 14 (.call (.func aA2) [zt 13]) 11 true,zo 15 (.pick (zt 11) (zt 14) zF),zm 2 15] [1,15,14,13,12,11,10,9,8,7,6,5,4,3]) .ret)⟩
theorem aM1:aB prog cI []=some aKn:=by kernel_rfl
def aH9:HFun:=⟨9,[(2,none)],zQ (zr [zo 2 (.mov zF)] [2]) (zQ (zr [zm 3 0,zo 4 (.bin .geq (zt 3) (zu 1)),zm 5 4,zh 6 0 5 true,zg 7 (.bin .lss (zt 6) (zu 2305843009213693951)) 5 true,zo 8 (.pick (zt 5) (zt 7) zF),zm 2 8] [0,8,7,6,5,4,3]) .ret)⟩
theorem aKo:aB prog fG []=some aH9:=by kernel_rfl
def aCK:HFun:=⟨11,[(2,none)],zQ (zr [zo 1 (.box (zt 0)),zo 2 (.mov zF)] [0,2]) (zQ (zr [zf 3 1 0,zl 4 3,zc 5 fG [zt 4],zm 6 5,zg 7 (.fad (zt 1) 1) 6 true,zg 8 (.ld none (zt 7)) 6 true,zg 9 (.call (.func jH) [zt 8,.func qD]) 6 true,zo 10 (.pick (zt 6) (zt 9) zF),zm 2 10] [1,10,9,8,7,6,5,4,3]) .ret)⟩
theorem aFX:aB prog qP []=some aCK:=by kernel_rfl
def yB:HFun:=⟨9,[(4,none)],zQ (zr [zo 3 (.box (zt 1)),zo 4 (.mov zF)] [1,4]) (zQ (zr [zm 5 0,zo 6 (.clo eZ [zt 3]),zc 7 cK [zt 5,zt 6],zo 8 (.un .not (zt 7)),zm 4 8] [0,3,8,7,6,5]) .ret)⟩
theorem aCp:aB prog jH []=some yB:=by kernel_rfl
def aKp:HFun:=⟨21,[(2,none)],zQ (zr [zo 1 (.box (zt 0)),zo 2 (.mov zF)] [0,2]) (zQ (zr [zf 3 1 0,zl 4 3,zc 5 fG [zt 4],zm 6 5,zg 7 (.fad (zt 1) 1) 6 true,zg 8 (.ld none (zt 7)) 6 true,zg 9 (.call (.func fG) [zt 8]) 6 true,zo 10 (.pick (zt 6) (zt 9) zF),zm 11 10,zg 12 (.fad (zt 1) 2) 11 true,zg 13 (.ld none (zt 12)) 11 true,zg 14 (.call (.func aA2) [zt 13]) 11 true,zo 15 (.pick (zt 11) (zt 14) zF),zm 16 15,zg 17 (.fad (zt 1) 3) 16 true,zg 18 (.ld none (zt 17)) 16 true,zg 19 (.call (.func aA2) [zt 18]) 16 true,zo 20 (.pick (zt 16) (zt 19) zF),zm 2 20] [1,20,19,18,17,16,15,14,13,12,11,10,9,8,7,6,5,4,3]) .ret)⟩
theorem aM2:aB prog qD []=some aKp:=by kernel_rfl
def aCL:HFun:=⟨6,[(2,none)],zQ (zr [zo 1 (.box (zt 0)),zo 2 (.mov zF)] [0,2]) (zQ (zr [zf 3 1 0,zv 4 3 3,zc 5 cI [zt 4],zm 2 5] [1,5,4,3]) .ret)⟩
theorem aFY:aB prog qQ []=some aCL:=by kernel_rfl
def aCM:HFun:=⟨5,[(2,none)],zQ (zr [zo 2 (.mov zF)] [2]) (zQ (zr [zm 3 0,zc 4 aQ [zt 3,zw 1,zw 12],zm 2 4] [0,4,3]) .ret)⟩
theorem aFZ:aB prog qR []=some aCM:=by kernel_rfl
def aEM:HFun:=⟨9,[(4,none)],zQ (zr [zo 3 (.box (zt 1)),zo 4 (.mov zF)] [1,4]) (zQ (zr [zm 5 0,zo 6 (.clo jI [zt 3]),zc 7 fA [zt 5,zt 6],zo 8 (.un .not (zt 7)),zm 4 8] [0,3,8,7,6,5]) .ret)⟩
theorem aHG:aB prog sT []=some aEM:=by kernel_rfl
def aAE:HFun:=⟨9,[(4,none)],zQ (zr [zo 3 (.box (zt 1)),zo 4 (.mov zF)] [1,4]) (zQ (zr [zm 5 0,zo 6 (.clo fN [zt 3]),zc 7 cV [zt 5,zt 6],zo 8 (.un .not (zt 7)),zm 4 8] [0,3,8,7,6,5]) .ret)⟩
theorem aDA:aB prog nL []=some aAE:=by kernel_rfl
def aTB:HFun:=⟨5,[(2,none)],zQ (zr [zo 2 (.mov zF)] [2]) (zQ (zr [zm 3 0,zo 4 (.bin .lss (zt 3) (zu 2305843009213693951)),zm 2 4] [0,4,3]) .ret)⟩
theorem aRX:aB prog aA2 []=some aTB:=by kernel_rfl
def uG:HFun:=⟨9,[(4,none)],zQ (zr [zo 3 (.box (zt 1)),zo 4 (.mov zF)] [1,4]) (zQ (zr [zm 5 0,zo 6 (.clo dK [zt 3]),zc 7 bO [zt 5,zt 6],zo 8 (.un .not (zt 7)),zm 4 8] [0,3,8,7,6,5]) .ret)⟩
theorem aAM:aB prog kF []=some uG:=by kernel_rfl
def wA:HFun:=⟨9,[(4,none)],zQ (zr [zo 3 (.box (zt 1)),zo 4 (.mov zF)] [1,4]) (zQ (zr [zm 5 0,zo 6 (.clo eG [zt 3]),zc 7 bY [zt 5,zt 6],zo 8 (.un .not (zt 7)),zm 4 8] [0,3,8,7,6,5]) .ret)⟩
theorem aBA:aB prog fM []=some wA:=by kernel_rfl
def sJ:HFun:=⟨9,[(4,none)],zQ (zr [zo 3 (.box (zt 1)),zo 4 (.mov zF)] [1,4]) (zQ (zr [zm 5 0,zo 6 (.clo cX [zt 3]),zc 7 bI [zt 5,zt 6],zo 8 (.un .not (zt 7)),zm 4 8] [0,3,8,7,6,5]) .ret)⟩
theorem aAg:aB prog eF []=some sJ:=by kernel_rfl
def aHa:HFun:=⟨7,[(2,none)],zQ (zr [zo 1 (.box (zt 0)),zo 2 (.mov zF)] [0,2]) (zQ (zr [zf 3 1 1,zl 4 3,zn 5 4,zj 6 .leq 5 12,zm 2 6] [1,6,5,4,3]) .ret)⟩
theorem aKq:aB prog vL []=some aHa:=by kernel_rfl
def aHb:HFun:=⟨7,[(2,none)],zQ (zr [zo 1 (.box (zt 0)),zo 2 (.mov zF)] [0,2]) (zQ (zr [zf 3 1 3,zl 4 3,zn 5 4,zj 6 .leq 5 208,zm 2 6] [1,6,5,4,3]) .ret)⟩
theorem aKr:aB prog vM []=some aHb:=by kernel_rfl
def uH:HFun:=⟨8,[(3,none)],zQ (zr [zo 2 (.box (zt 0)),zo 3 (.mov zF)] [0,3]) (zQ (zr [zl 4 1,zv 5 4 2,zo 6 (.call (zt 4) [zt 5]),zo 7 (.un .not (zt 6)),zm 3 7] [1,2,7,6,5,4]) .ret)⟩
theorem aAN:aB prog eZ []=some uH:=by kernel_rfl
def aBB:HFun:=⟨8,[(3,none)],zQ (zr [zo 3 (.mov zF)] [3]) (zQ (zr [zl 4 1,zm 5 0,zo 6 (.call (zt 4) [zt 5]),zo 7 (.un .not (zt 6)),zm 3 7] [1,0,7,6,5,4]) .ret)⟩
theorem aEN:aB prog jI []=some aBB:=by kernel_rfl
def wB:HFun:=⟨8,[(3,none)],zQ (zr [zo 3 (.mov zF)] [3]) (zQ (zr [zl 4 1,zm 5 0,zo 6 (.call (zt 4) [zt 5]),zo 7 (.un .not (zt 6)),zm 3 7] [1,0,7,6,5,4]) .ret)⟩
theorem aBC:aB prog fN []=some wB:=by kernel_rfl
def rL:HFun:=⟨8,[(3,none)],zQ (zr [zo 2 (.box (zt 0)),zo 3 (.mov zF)] [0,3]) (zQ (zr [zl 4 1,zv 5 3 2,zo 6 (.call (zt 4) [zt 5]),zo 7 (.un .not (zt 6)),zm 3 7] [1,2,7,6,5,4]) .ret)⟩
theorem yC:aB prog dK []=some rL:=by kernel_rfl
def sK:HFun:=⟨8,[(3,none)],zQ (zr [zo 2 (.box (zt 0)),zo 3 (.mov zF)] [0,3]) (zQ (zr [zl 4 1,zv 5 2 2,zo 6 (.call (zt 4) [zt 5]),zo 7 (.un .not (zt 6)),zm 3 7] [1,2,7,6,5,4]) .ret)⟩
theorem aAh:aB prog eG []=some sK:=by kernel_rfl
def pW:HFun:=⟨8,[(3,none)],zQ (zr [zo 2 (.box (zt 0)),zo 3 (.mov zF)] [0,3]) (zQ (zr [zl 4 1,zv 5 4 2,zo 6 (.call (zt 4) [zt 5]),zo 7 (.un .not (zt 6)),zm 3 7] [1,2,7,6,5,4]) .ret)⟩
theorem wZ:aB prog cX []=some pW:=by kernel_rfl
def aN9:HFun:=⟨84,[(2,none)],zQ (zr [zo 1 (.box (zt 0)),zo 2 (.mov zF)] [0,2]) (zE [zo 3 (.mov (.func vL))] (zE [zo 4 (.mov (.func vM))] (zQ (zQ (zr [zf 5 1 4,zl 6 5,zn 7 6,zj 8 .gtr 7 12,zm 9 8,zg 10 (.fad (zt 1) 9) 9 false,zg 11 (.ld none (zt 10)) 9 false,zg 12 (.lenL (zt 11)) 9 false,zg 13 (.bin .gtr (zt 12) (zw 5)) 9 false,zo 14 (.pick (zt 9) zT (zt 13)),zm 15 14,zg 16 (.fad (zt 1) 9) 15 false,zg 17 (.ld none (zt 16)) 15 false,zh 18 3 15 false,zg 19 (.call (.func fM) [zt 17,zt 18]) 15 false,zg 20 (.un .not (zt 19)) 15 false,zo 21 (.pick (zt 15) zT (zt 20)),zm 22 21,zg 23 (.fad (zt 1) 14) 22 false,zg 24 (.ld none (zt 23)) 22 false,zg 25 (.lenL (zt 24)) 22 false,zg 26 (.bin .gtr (zt 25) (zw 208)) 22 false,zo 27 (.pick (zt 22) zT (zt 26)),zm 28 27,zg 29 (.fad (zt 1) 15) 28 false,zg 30 (.ld none (zt 29)) 28 false,zg 31 (.lenL (zt 30)) 28 false,zg 32 (.bin .gtr (zt 31) (zw 8)) 28 false,zo 33 (.pick (zt 28) zT (zt 32)),zm 34 33,zg 35 (.fad (zt 1) 24) 34 false,zg 36 (.ld none (zt 35)) 34 false,zg 37 (.lenL (zt 36)) 34 false,zg 38 (.bin .gtr (zt 37) (zw 20)) 34 false,zo 39 (.pick (zt 34) zT (zt 38)),zm 40 39,zg 41 (.fad (zt 1) 24) 40 false,zg 42 (.ld none (zt 41)) 40 false,zh 43 4 40 false,zg 44 (.call (.func eF) [zt 42,zt 43]) 40 false,zg 45 (.un .not (zt 44)) 40 false,zo 46 (.pick (zt 40) zT (zt 45)),zm 47 46,zg 48 (.fad (zt 1) 19) 47 false,zg 49 (.ld none (zt 48)) 47 false,zg 50 (.lenL (zt 49)) 47 false,zg 51 (.bin .gtr (zt 50) (zw 6)) 47 false,zo 52 (.pick (zt 47) zT (zt 51))] [3,4,51,50,49,48,47,46,45,44,43,42,41,40,39,38,37,36,35,34,33,32,31,30,29,28,27,26,25,24,23,22,21,20,19,18,17,16,15,14,13,12,11,10,9,8,7,6,5]) (zC 52 (zK [1,52] (zE [zo 2 (.mov zT)] .ret)) (zK [52] .skip))) (zQ (zQ (zr [zf 53 1 2,zl 54 53] [53]) (.block 0 (zQ (zr [zj 56 .eql 54 7,zm 55 56] [56]) (zC 55 (zK [54,55] (zQ (zr [zf 57 1 14,zl 58 57,zn 59 58,zc 60 aQ [zt 59,zw 1,zw 20],zo 61 (.un .not (zt 60)),zm 2 61] [1,61,60,59,58,57]) .ret)) (zK [55] (zQ (zr [zj 63 .eql 54 9,zm 62 63] [63]) (zC 62 (zK [54,62] (zQ (zr [zf 64 1 22,zl 65 64,zn 66 65,zf 67 1 19,zl 68 67,zn 69 68,zb 70 .neq 66 69,zm 2 70] [1,70,69,68,67,66,65,64]) .ret)) (zK [62] (zQ (zr [zj 72 .eql 54 10,zm 71 72] [72]) (zC 71 (zK [54,71] (zQ (zr [zf 73 1 22,zl 74 73,zn 75 74,zc 76 aQ [zt 75,zw 1,zw 6],zo 77 (.un .not (zt 76)),zm 2 77] [1,77,76,75,74,73]) .ret)) (zK [71] (zQ (zr [zj 79 .eql 54 11,zm 78 79] [54,79]) (zC 78 (zK [78] (zQ (zr [zf 80 1 22,zl 81 80,zn 82 81,zj 83 .neq 82 1,zm 2 83] [1,83,82,81,80]) .ret)) (zK [1,78] .skip)))))))))))))) (zE [zo 2 (.mov zF)] .ret)))))⟩
theorem aOq:aB prog aFC []=some aN9:=by kernel_rfl
def aEO:HFun:=⟨75,[(2,none)],zQ (zr [zo 1 (.box (zt 0)),zk 2 0] [0,2]) (zE [zk 3 0] (zQ (zQ (zR (zq (zf 7 1 5) (zq (zl 8 7) (zq (zj 9 .neq 8 0) (zq (zf 10 1 6) (zq (zl 11 10) (zq (zj 12 .neq 11 0) (zq (zf 13 1 7) (zq (zl 14 13) (zq (zj 15 .neq 14 0) (zq (zf 16 1 8) (zq (zl 17 16) (zq (zj 18 .neq 17 0) (zq (zf 19 1 9) (zq (zl 20 19) (zq (zn 21 20) (zq (zj 22 .gtr 21 0) (zq (zf 23 1 10) (zq (zv 24 3 23) (zq (zo 25 (.bld [z0,z0,zU] [])) (zq (zo 26 (.eqa true [.int .i64,.int .i64,.int .u64] (zt 24) (zt 25))) (zq (zf 27 1 13) (zq (zl 28 27) (zq (zj 29 .neq 28 0) (zq (zf 30 1 14) (zq (zl 31 30) (zq (zn 32 31) (zq (zj 33 .gtr 32 0) (zq (zf 34 1 15) (zq (zl 35 34) (zq (zn 36 35) (zq (zj 37 .gtr 36 0) (zq (zf 38 1 16) (zq (zv 39 3 38) (zq (zo 40 (.bld [z0,z0,zU] [])) (zq (zo 41 (.eqa true [.int .i64,.int .i64,.int .u64] (zt 39) (zt 40))) (zq (zf 42 1 19) (zq (zl 43 42) (zq (zn 44 43) (zq (zj 45 .gtr 44 0) (zq (zf 46 1 20) (zq (zl 47 46) (zq (zj 48 .neq 47 0) (zq (zf 49 1 21) (zq (zl 50 49) (zq (zj 51 .neq 50 0) (zq (zf 52 1 22) (zq (zl 53 52) (zq (zn 54 53) (zq (zj 55 .gtr 54 0) (zq (zf 56 1 23) (zq (zl 57 56) (zq (zo 58 (.bin .neq (zt 57) (zu 0))) (zq (zf 59 1 24) (zq (zl 60 59) (zq (zn 61 60) (zq (zj 62 .gtr 61 0) (zA (zo 6 (.mkm false)) [zj 62 .gtr 61 0,zn 61 60,zl 60 59,zf 59 1 24,zo 58 (.bin .neq (zt 57) (zu 0)),zl 57 56,zf 56 1 23,zj 55 .gtr 54 0,zn 54 53,zl 53 52,zf 52 1 22,zj 51 .neq 50 0,zl 50 49,zf 49 1 21,zj 48 .neq 47 0,zl 47 46,zf 46 1 20,zj 45 .gtr 44 0,zn 44 43,zl 43 42,zf 42 1 19,zo 41 (.eqa true [.int .i64,.int .i64,.int .u64] (zt 39) (zt 40)),zo 40 (.bld [z0,z0,zU] []),zv 39 3 38,zf 38 1 16,zj 37 .gtr 36 0,zn 36 35,zl 35 34,zf 34 1 15,zj 33 .gtr 32 0,zn 32 31,zl 31 30,zf 30 1 14,zj 29 .neq 28 0,zl 28 27,zf 27 1 13,zo 26 (.eqa true [.int .i64,.int .i64,.int .u64] (zt 24) (zt 25)),zo 25 (.bld [z0,z0,zU] []),zv 24 3 23,zf 23 1 10,zj 22 .gtr 21 0,zn 21 20,zl 20 19,zf 19 1 9,zj 18 .neq 17 0,zl 17 16,zf 16 1 8,zj 15 .neq 14 0,zl 14 13,zf 13 1 7,zj 12 .neq 11 0,zl 11 10,zf 10 1 6,zj 9 .neq 8 0,zl 8 7,zf 7 1 5] (.perm [zj 62 .gtr 61 0,zn 61 60,zl 60 59,zf 59 1 24,zo 58 (.bin .neq (zt 57) (zu 0)),zl 57 56,zf 56 1 23,zj 55 .gtr 54 0,zn 54 53,zl 53 52,zf 52 1 22,zj 51 .neq 50 0,zl 50 49,zf 49 1 21,zj 48 .neq 47 0,zl 47 46,zf 46 1 20,zj 45 .gtr 44 0,zn 44 43,zl 43 42,zf 42 1 19,zo 41 (.eqa true [.int .i64,.int .i64,.int .u64] (zt 39) (zt 40)),zo 40 (.bld [z0,z0,zU] []),zv 39 3 38,zf 38 1 16,zj 37 .gtr 36 0,zn 36 35,zl 35 34,zf 34 1 15,zj 33 .gtr 32 0,zn 32 31,zl 31 30,zf 30 1 14,zj 29 .neq 28 0,zl 28 27,zf 27 1 13,zo 26 (.eqa true [.int .i64,.int .i64,.int .u64] (zt 24) (zt 25)),zo 25 (.bld [z0,z0,zU] []),zv 24 3 23,zf 23 1 10,zj 22 .gtr 21 0,zn 21 20,zl 20 19,zf 19 1 9,zj 18 .neq 17 0,zl 17 16,zf 16 1 8,zj 15 .neq 14 0,zl 14 13,zf 13 1 7,zj 12 .neq 11 0,zl 11 10,zf 10 1 6,zj 9 .neq 8 0,zl 8 7,zf 7 1 5] [zs (.mup false [.int .i64] (zt 6) (zw 1) (zt 9)),zs (.mup false [.int .i64] (zt 6) (zw 2) (zt 12)),zs (.mup false [.int .i64] (zt 6) (zw 4) (zt 15)),zs (.mup false [.int .i64] (zt 6) (zw 8) (zt 18)),zs (.mup false [.int .i64] (zt 6) (zw 16) (zt 22)),zs (.mup false [.int .i64] (zt 6) (zw 32) (zt 26)),zs (.mup false [.int .i64] (zt 6) (zw 64) (zt 29)),zs (.mup false [.int .i64] (zt 6) (zw 128) (zt 33)),zs (.mup false [.int .i64] (zt 6) (zw 256) (zt 37)),zs (.mup false [.int .i64] (zt 6) (zw 512) (zt 41)),zs (.mup false [.int .i64] (zt 6) (zw 1024) (zt 45)),zs (.mup false [.int .i64] (zt 6) (zw 2048) (zt 48)),zs (.mup false [.int .i64] (zt 6) (zw 4096) (zt 51)),zs (.mup false [.int .i64] (zt 6) (zw 8192) (zt 55)),zs (.mup false [.int .i64] (zt 6) (zw 16384) (zt 58)),zs (.mup false [.int .i64] (zt 6) (zw 32768) (zt 62))] (zq (zm 63 6) (zA (zo 64 (.rgm (zt 63))) [] (.done true) .no))) .no))))))))))))))))))))))))))))))))))))))))))))))))))))))))) [1,63,62,61,60,59,58,57,56,55,54,53,52,51,50,49,48,47,46,45,44,43,42,41,40,39,38,37,36,35,34,33,32,31,30,29,28,27,26,25,24,23,22,21,20,19,18,17,16,15,14,13,12,11,10,9,8,7,6]) (zP 0 (zQ (zr [zo 65 (.nxt (zt 64)),ze 66 65 0] [65]) (zQ (zC 66 (zK [66] .skip) (zK [64,66] (.exit 0))) (.block 1 (zQ (zr [zo 67 (.ent (zt 64)),ze 68 67 0,ze 69 67 1,zm 4 68,zm 5 69] [69,68,67]) (zQ (zr [zm 70 5] [5]) (zC 70 (zK [70] (zr [zm 71 3,zm 72 4,zb 73 .or 71 72,zm 3 73] [4,73,72,71])) (zK [4,70] .skip))))))))) (zQ (zr [zm 74 3,zm 2 74] [3,74]) .ret)))⟩
theorem aHH:aB prog zY []=some aEO:=by kernel_rfl
def aHc:HFun:=⟨136,[(4,none)],zQ (zr [zo 2 (.box (zt 0)),zo 4 (.mov zF)] [0,4]) (zQ (zQ (zr [zf 14 2 0,zl 15 14,zc 16 aQ [zt 15,zw 1,zw 12],zo 17 (.un .not (zt 16)),zm 18 17,zg 19 (.fad (zt 2) 1) 18 false,zg 20 (.ld none (zt 19)) 18 false,zg 21 (.call (.func aQ) [zt 20,zw 1,zw 2147483647]) 18 false,zg 22 (.un .not (zt 21)) 18 false,zo 23 (.pick (zt 18) zT (zt 22)),zm 24 23,zg 25 (.fad (zt 2) 3) 24 false,zg 26 (.ld none (zt 25)) 24 false,zg 27 (.call (.func aQ) [zt 26,zw 0,zw 2147483647]) 24 false,zg 28 (.un .not (zt 27)) 24 false,zo 29 (.pick (zt 24) zT (zt 28))] [28,27,26,25,24,23,22,21,20,19,18,17,16,15,14]) (zC 29 (zK [2,1,29] (zE [zo 4 (.mov zF)] .ret)) (zK [29] .skip))) (zQ (zR (zq (zf 30 2 19) (zq (zl 31 30) (zq (zn 32 31) (zq (zk 5 1) (zq (zk 6 1) (zq (zm 7 32) (.done false))))))) [32,31,30]) (zQ (zr [zf 33 2 7,zl 34 33,zc 35 aQ [zt 34,zw 1,zw 8],zm 8 35] [35,34,33]) (zQ (zQ (zr [zf 36 2 2,zl 37 36,zj 38 .eql 37 3] [37,36]) (zC 38 (zK [5,38] (zE [zk 5 0] (zr [zm 39 8,zm 40 39,zg 41 (.fad (zt 2) 5) 40 true,zg 42 (.ld none (zt 41)) 40 true,zg 43 (.bin .eql (zt 42) (zw 0)) 40 true,zo 44 (.pick (zt 40) (zt 43) zF),zm 45 44,zg 46 (.fad (zt 2) 7) 45 false,zg 47 (.ld none (zt 46)) 45 false,zg 48 (.bin .eql (zt 47) (zw 0)) 45 false,zh 49 48 45 false,zg 50 (.fad (zt 2) 5) 49 true,zg 51 (.ld none (zt 50)) 49 true,zg 52 (.bin .neq (zt 51) (zw 0)) 49 true,zg 53 (.pick (zt 49) (zt 52) zF) 45 false,zo 54 (.pick (zt 45) zT (zt 53)),zm 8 54] [54,53,52,51,50,49,48,47,46,45,44,43,42,41,40,39]))) (zK [38] .skip))) (zQ (zQ (zr [zf 55 2 2,zl 56 55,zj 57 .eql 56 1] [56,55]) (zC 57 (zK [6,7,57] (.reg [zk 6 0,zk 7 20])) (zK [57] .skip))) (zQ (zQ (zR (zq (zf 59 2 5) (zq (zl 60 59) (zq (zm 61 5) (zq (zf 63 2 6) (zq (zl 64 63) (zq (zm 66 8) (zq (zf 67 2 8) (zq (zl 68 67) (zq (zf 70 2 13) (zq (zl 71 70) (zq (zf 73 2 21) (zq (zl 74 73) (zq (zf 76 2 20) (zq (zl 77 76) (zq (zm 78 6) (zq (zm 79 7) (zq (zf 81 2 10) (zq (zv 82 3 81) (zq (zf 84 2 16) (zq (zv 85 3 84) (zq (zf 87 2 23) (zq (zl 88 87) (.plan [zo 58 (.mkm false),zf 59 2 5,zl 60 59,zm 61 5,zc 62 aQ [zt 60,zt 61,zw 12],zs (.mup false [.int .i64] (zt 58) (zw 1) (zt 62)),zf 63 2 6,zl 64 63,zc 65 aQ [zt 64,zw 1,zw 12],zs (.mup false [.int .i64] (zt 58) (zw 2) (zt 65)),zm 66 8,zs (.mup false [.int .i64] (zt 58) (zw 4) (zt 66)),zf 67 2 8,zl 68 67,zc 69 aQ [zt 68,zw 1,zw 3],zs (.mup false [.int .i64] (zt 58) (zw 8) (zt 69)),zf 70 2 13,zl 71 70,zc 72 aQ [zt 71,zw 0,zw 2147483647],zs (.mup false [.int .i64] (zt 58) (zw 64) (zt 72)),zf 73 2 21,zl 74 73,zc 75 aQ [zt 74,zw 0,zw 2147483647],zs (.mup false [.int .i64] (zt 58) (zw 4096) (zt 75)),zf 76 2 20,zl 77 76,zm 78 6,zm 79 7,zc 80 aQ [zt 77,zt 78,zt 79],zs (.mup false [.int .i64] (zt 58) (zw 2048) (zt 80)),zf 81 2 10,zv 82 3 81,zc 83 cI [zt 82],zs (.mup false [.int .i64] (zt 58) (zw 32) (zt 83)),zf 84 2 16,zv 85 3 84,zc 86 cI [zt 85],zs (.mup false [.int .i64] (zt 58) (zw 512) (zt 86)),zf 87 2 23,zl 88 87,zc 89 fG [zt 88],zs (.mup false [.int .i64] (zt 58) (zw 16384) (zt 89)),zm 90 58,zo 91 (.rgm (zt 90))] [[],[],[1],[],[2,1,3],[0,4,2,1,3],[],[6],[7,6,4,2,1,3],[0,8,7,6,4,2,1,3],[],[0,10],[],[12],[13,12,8,7,6,4,2,1,3],[0,14,13,12,8,7,6,4,2,1,3],[],[16],[17,16,14,13,12,8,7,6,4,2,1,3],[0,18,17,16,14,13,12,8,7,6,4,2,1,3],[],[20],[21,20,18,17,16,14,13,12,8,7,6,4,2,1,3],[0,22,21,20,18,17,16,14,13,12,8,7,6,4,2,1,3],[],[24],[],[],[25,24,26,27,22,21,20,18,17,16,14,13,12,8,7,6,4,2,1,3],[0,28,25,24,26,27,22,21,20,18,17,16,14,13,12,8,7,6,4,2,1,3],[],[30],[31,30,28,25,24,26,27,22,21,20,18,17,16,14,13,12,8,7,6,4,2,1,3],[0,32,31,30,28,25,24,26,27,22,21,20,18,17,16,14,13,12,8,7,6,4,2,1,3],[],[34],[35,34,32,31,30,28,25,24,26,27,22,21,20,18,17,16,14,13,12,8,7,6,4,2,1,3],[0,36,35,34,32,31,30,28,25,24,26,27,22,21,20,18,17,16,14,13,12,8,7,6,4,2,1,3],[],[38],[39,38,36,35,34,32,31,30,28,25,24,26,27,22,21,20,18,17,16,14,13,12,8,7,6,4,2,1,3],[0,40,39,38,36,35,34,32,31,30,28,25,24,26,27,22,21,20,18,17,16,14,13,12,8,7,6,4,2,1,3],[0,1,2,3,4,5,6,7,8,9,10,11,12,13,14,15,16,17,18,19,20,21,22,23,24,25,26,27,28,29,30,31,32,33,34,35,36,37,38,39,40,41],[42,0,1,2,3,4,5,6,7,8,9,10,11,12,13,14,15,16,17,18,19,20,21,22,23,24,25,26,27,28,29,30,31,32,33,34,35,36,37,38,39,40,41]] 23 false [39,38,35,34,31,30,27,26,25,24,21,20,17,16,13,12,10,7,6,3,2,1]))))))))))))))))))))))) [5,8,6,7,90,89,88,87,86,85,84,83,82,81,80,79,78,77,76,75,74,73,72,71,70,69,68,67,66,65,64,63,62,61,60,59,58]) (zP 0 (zQ (zr [zo 92 (.nxt (zt 91)),ze 93 92 0] [92]) (zQ (zC 93 (zK [93] .skip) (zK [91,1,93] (.exit 0))) (.block 1 (zQ (zr [zo 94 (.ent (zt 91)),ze 95 94 0,ze 96 94 1,zm 9 95,zm 10 96] [96,95,94]) (zQ (zr [zm 97 1,zm 98 9,zb 99 .and 97 98,zj 100 .neq 99 0,zm 101 100,zh 102 10 101 true,zg 103 (.un .not (zt 102)) 101 true,zo 104 (.pick (zt 101) (zt 103) zF)] [9,10,103,102,101,100,99,98,97]) (zC 104 (zK [91,2,1,104] (zE [zo 4 (.mov zF)] .ret)) (zK [104] .skip))))))))) (zE [zo 11 (.mov (.func qP))] (zE [zo 12 (.mov (.func qQ))] (zE [zo 13 (.mov (.func qR))] (zQ (zr [zf 105 2 19,zl 106 105,zm 107 13,zc 108 sT [zt 106,zt 107],zm 109 108,zg 110 (.fad (zt 2) 15) 109 true,zg 111 (.ld none (zt 110)) 109 true,zg 112 (.call (.func nL) [zt 111,.func aA2]) 109 true,zo 113 (.pick (zt 109) (zt 112) zF),zm 114 113,zg 115 (.fad (zt 2) 4) 114 true,zg 116 (.ld none (zt 115)) 114 true,zg 117 (.call (.func kF) [zt 116,.func cI]) 114 true,zo 118 (.pick (zt 114) (zt 117) zF),zm 119 118,zg 120 (.fad (zt 2) 9) 119 true,zg 121 (.ld none (zt 120)) 119 true,zh 122 11 119 true,zg 123 (.call (.func fM) [zt 121,zt 122]) 119 true,zo 124 (.pick (zt 119) (zt 123) zF),zm 125 124,zg 126 (.fad (zt 2) 22) 125 true,zg 127 (.ld none (zt 126)) 125 true,zg 128 (.call (.func jH) [zt 127,.func qD]) 125 true,zo 129 (.pick (zt 125) (zt 128) zF),zm 130 129,zg 131 (.fad (zt 2) 24) 130 true,zg 132 (.ld none (zt 131)) 130 true,zh 133 12 130 true,zg 134 (.call (.func eF) [zt 132,zt 133]) 130 true,zo 135 (.pick (zt 130) (zt 134) zF),zm 4 135] [2,13,11,12,135,134,133,132,131,130,129,128,127,126,125,124,123,122,121,120,119,118,117,116,115,114,113,112,111,110,109,108,107,106,105]) .ret))))))))))⟩
theorem aKs:aB prog aBc []=some aHc:=by kernel_rfl
end
section
def Id.B (x:Id):List Nat:=idB x.a x.b x.c.toNat
def jN {α:Type} (f:α->List Nat) (l:List α):List Nat:=cB (l.length:Int)++(l.map f).flatten
theorem aX0 {α:Type} {f:α->List Nat} {l:List α} {k:Nat} (h:∀ x∈l,(f x).length<=k):((l.map f).flatten).length<=k*l.length:=by
 induction l with
 | nil=>simp
 | cons x l ih =>
  have h1:=h x List.mem_cons_self
  have h2:=ih fun y hy=>h y (List.mem_cons_of_mem _ hy)
  simp only [List.map_cons,List.flatten_cons,List.length_append,List.length_cons,Nat.mul_succ]
  omega
theorem jO {α:Type} {f:α->List Nat} {l:List α} {k:Nat} (h:∀ x∈l,(f x).length<=k):(jN f l).length<=10+k*l.length:=by
 have h1:=cC (l.length:Int)
 have h2:=aX0 h
 unfold jN
 rw [List.length_append]
 omega
theorem aG0 {α:Type} (f:α->List Nat) (l:List α) (i:Nat) (h:i<l.length):((l.take (i+1)).map f).flatten=((l.take i).map f).flatten++f l[i]:=by
 rw [List.take_succ_eq_append_getElem h,List.map_append,List.flatten_append];simp only [List.map_cons,List.map_nil,List.flatten_cons,List.flatten_nil,List.append_nil]
theorem aCb {α:Type} {f:α->List Nat} {l:List α} {k:Nat} (h:∀ x∈l,(f x).length<=k) (i:Nat) (hi:i<=l.length):(((l.take i).map f).flatten).length<=k*l.length:=by
 refine Nat.le_trans (aX0 (l:=l.take i) fun x hx=>h x (List.mem_of_mem_take hx)) (Nat.mul_le_mul_left k ?_)
 rw [List.length_take];omega
theorem Id.B_len (x:Id):x.B.length<=30:=by
 have h1:=cC x.a
 have h2:=cC x.b
 have h3:=iR x.c.toNat
 simp only [Id.B,idB,List.length_append]
 omega
def bsN (b:List Nat):ByteArray:=⟨(b.map UInt8.ofNat).toArray⟩
theorem gR:∀ b:List Nat,aGm (bl b)=some (b.map UInt8.ofNat)
 | []=>rfl
 | x::b=>by
  have h:=gR b
  simp only [bl] at h
  simp only [bl,List.map_cons,aGm,h,Int.toNat_natCast]
theorem aKt {b:List Nat} (h:okB b):iG (bsN b)=bl b:=by
 simp only [iG,bsN,List.map_map,bl]
 refine List.map_congr_left fun x hx=>?_
 have:=h x hx
 have e:(UInt8.ofNat x).toNat=x:=by rw [UInt8.toNat_ofNat'];omega
 simp only [Function.comp,e]
theorem aQ1 (b:List Nat):(bsN b).size=b.length:=by simp [bsN,ByteArray.size]
section
variable {G:Nat->Option (List AV)}
set_option maxHeartbeats 4000000
theorem aX1 (A:List Nat) (l:List Int) (hA:A.length<=500000) (hl:l.length<=1000) (hn:∀ x∈l,okN x):aD prog G zV [.ptr 0 0,nts l,.bm bA 1 [.ptr 0 0]] [some (.box [.own 1]),some (.arr 1 (bl A))] fun r T'=>T'=[some (.box [.own 2]),none,some (.arr 1 (bl (A++jN cB l)))]:=by
 refine aF aHF (by decide) ?_
 unfold aEL
 dsimp only [zj,zT,zF,zC,zE,zP,zQ,zq,zA,zm,zo,zs,zg,zh,zl,zv,zf,zi,zn,zb,zc,ze,zk,zw,zu,zt,zr,zR,zK,zN,zS,z0,zU]
 have hw:∀ x∈l,(cB x).length<=10:=fun x _=>cC x
 have l1:=cC (l.length:Int)
 simp only [go_sem,↓reduceIte,List.length_map]
 refine aG [0,1] (aA _) (by decide) (by simp) rfl rfl (sH A (l.length:Int) (by omega) (by omega) (by omega)) ?_
 rintro r T' rfl
 simp only [go_sem,↓reduceIte]
 refine aL l.length (fun i=>⟨2,[(2,.bm bA 1 [.ptr 0 0]),(12,nts l),(13,.v (.int .i64 (l.length:Int))),(14,.v (.int .i64 (i:Int)))],[some (.box [.own 2]),none,some (.arr 1 (bl (A++(cB (l.length:Int)++((l.take i).map cB).flatten))))]⟩) (fun _=>True) ?_ trivial ?_ ?_
 ·simp only [go_sem,↓reduceIte,List.take_zero,List.flatten_nil,List.append_nil]
 ·intro i hi _
  have g0:(l.map fun n=>[iv n])[i]?=some [iv l[i]]:=aX _ l i hi
  have hx:=hn l[i] (List.getElem_mem hi)
  have hk:=hw l[i] (List.getElem_mem hi)
  have k1:=aCb hw i (by omega)
  have es:A++(cB (l.length:Int)++((l.take (i+1)).map cB).flatten)=(A++(cB (l.length:Int)++((l.take i).map cB).flatten))++cB l[i]:=by rw [aG0 _ l i hi];simp only [List.append_assoc]
  rw [es]
  have k3:(A++(cB (l.length:Int)++((l.take i).map cB).flatten)).length<=600000:=by rw [List.length_append,List.length_append];omega
  clear es
  generalize A++(cB (l.length:Int)++((l.take i).map cB).flatten)=X at *
  generalize l[i]=x at *
  simp only [go_sem,↓reduceIte,List.length_map,bQ hi,hi,g0]
  refine aG [0,2] (aA _) (by decide) (by simp) rfl rfl (sH X x (by omega) hx.1 hx.2) ?_
  rintro r T' rfl
  simp only [go_sem,↓reduceIte,aH (show i<9223372036854775807 by omega),List.map_append]
 ·intro _
  rw [List.take_length]
  simp only [go_sem,↓reduceIte,List.length_map,bV (Nat.lt_irrefl _),jN]
theorem aX2 (A:List Nat) (l:List Nat) (hA:A.length<=500000) (hl:l.length<=1000) (hn:∀ x∈l,x<18446744073709551616):aD prog G rU [.ptr 0 0,.ls 1 (ul l),.bm cH 1 [.ptr 0 0]] [some (.box [.own 1]),some (.arr 1 (bl A))] fun r T'=>T'=[some (.box [.own 2]),none,some (.arr 1 (bl (A++jN jL l)))]:=by
 refine aF aDz (by decide) ?_
 unfold aAD
 dsimp only [zj,zT,zF,zC,zE,zP,zQ,zq,zA,zm,zo,zs,zg,zh,zl,zv,zf,zi,zn,zb,zc,ze,zk,zw,zu,zt,zr,zR,zK,zN,zS,z0,zU]
 have hw:∀ x∈l,(jL x).length<=10:=fun x _=>iR x
 have l1:=cC (l.length:Int)
 simp only [go_sem,↓reduceIte,List.length_map]
 refine aG [0,1] (aA _) (by decide) (by simp) rfl rfl (sH A (l.length:Int) (by omega) (by omega) (by omega)) ?_
 rintro r T' rfl
 simp only [go_sem,↓reduceIte]
 refine aL l.length (fun i=>⟨2,[(2,.bm cH 1 [.ptr 0 0]),(12,.ls 1 (ul l)),(13,.v (.int .i64 (l.length:Int))),(14,.v (.int .i64 (i:Int)))],[some (.box [.own 2]),none,some (.arr 1 (bl (A++(cB (l.length:Int)++((l.take i).map jL).flatten))))]⟩) (fun _=>True) ?_ trivial ?_ ?_
 ·simp only [go_sem,↓reduceIte,List.take_zero,List.flatten_nil,List.append_nil]
 ·intro i hi _
  have g0:(ul l)[i]?=some [.v (.int .u64 ((l[i]:Nat):Int))]:=aX _ l i hi
  have hx:=hn l[i] (List.getElem_mem hi)
  have hk:=hw l[i] (List.getElem_mem hi)
  have k1:=aCb hw i (by omega)
  have es:A++(cB (l.length:Int)++((l.take (i+1)).map jL).flatten)=(A++(cB (l.length:Int)++((l.take i).map jL).flatten))++jL l[i]:=by rw [aG0 _ l i hi];simp only [List.append_assoc]
  rw [es]
  have k3:(A++(cB (l.length:Int)++((l.take i).map jL).flatten)).length<=600000:=by rw [List.length_append,List.length_append];omega
  clear es
  generalize A++(cB (l.length:Int)++((l.take i).map jL).flatten)=X at *
  generalize l[i]=x at *
  simp only [go_sem,↓reduceIte,List.length_map,bQ hi,hi,g0]
  refine aG [0,2] (aA _) (by decide) (by simp) rfl rfl (aEG X x (by omega) hx) ?_
  rintro r T' rfl
  simp only [go_sem,↓reduceIte,aH (show i<9223372036854775807 by omega),List.map_append]
 ·intro _
  rw [List.take_length]
  simp only [go_sem,↓reduceIte,List.length_map,bV (Nat.lt_irrefl _),jN]
theorem aZc (A:List Nat) (x:Id) (hA:A.length<=900000) (hx:x.ok):aD prog G cO [.ptr 0 0,.ag [.v (.int .i64 x.a),.v (.int .i64 x.b),.v (.int .u64 x.c)]] [some (.box [.own 1]),some (.arr 1 (bl A))] fun r T'=>T'=[some (.box [.own 2]),none,some (.arr 1 (bl (A++x.B)))]:=by
 have:=aZb (G:=G) A x.a x.b x.c.toNat hA hx.1.1 hx.1.2 hx.2.1.1 hx.2.1.2 (by have:=hx.2.2;omega)
 rwa [Int.toNat_of_nonneg hx.2.2.1] at this
theorem aZd (A:List Nat) (l:List Id) (hA:A.length<=500000) (hl:l.length<=1000) (hn:∀ x∈l,x.ok):aD prog G nR [.ptr 0 0,ids l,.bm cO 1 [.ptr 0 0]] [some (.box [.own 1]),some (.arr 1 (bl A))] fun r T'=>T'=[some (.box [.own 2]),none,some (.arr 1 (bl (A++jN Id.B l)))]:=by
 refine aF aAL (by decide) ?_
 unfold uF
 dsimp only [zj,zT,zF,zC,zE,zP,zQ,zq,zA,zm,zo,zs,zg,zh,zl,zv,zf,zi,zn,zb,zc,ze,zk,zw,zu,zt,zr,zR,zK,zN,zS,z0,zU]
 have hw:∀ x∈l,(Id.B x).length<=30:=fun x _=>Id.B_len x
 have l1:=cC (l.length:Int)
 simp only [go_sem,↓reduceIte,List.length_map]
 refine aG [0,1] (aA _) (by decide) (by simp) rfl rfl (sH A (l.length:Int) (by omega) (by omega) (by omega)) ?_
 rintro r T' rfl
 simp only [go_sem,↓reduceIte]
 refine aL l.length (fun i=>⟨2,[(2,.bm cO 1 [.ptr 0 0]),(12,ids l),(13,.v (.int .i64 (l.length:Int))),(14,.v (.int .i64 (i:Int)))],[some (.box [.own 2]),none,some (.arr 1 (bl (A++(cB (l.length:Int)++((l.take i).map Id.B).flatten))))]⟩) (fun _=>True) ?_ trivial ?_ ?_
 ·simp only [go_sem,↓reduceIte,List.take_zero,List.flatten_nil,List.append_nil]
 ·intro i hi _
  have g0:(l.map Id.A)[i]?=some [.v (.int .i64 l[i].a),.v (.int .i64 l[i].b),.v (.int .u64 l[i].c)]:=aX _ l i hi
  have hx:=hn l[i] (List.getElem_mem hi)
  have hk:=hw l[i] (List.getElem_mem hi)
  have k1:=aCb hw i (by omega)
  have es:A++(cB (l.length:Int)++((l.take (i+1)).map Id.B).flatten)=(A++(cB (l.length:Int)++((l.take i).map Id.B).flatten))++Id.B l[i]:=by rw [aG0 _ l i hi];simp only [List.append_assoc]
  rw [es]
  have k3:(A++(cB (l.length:Int)++((l.take i).map Id.B).flatten)).length<=600000:=by rw [List.length_append,List.length_append];omega
  clear es
  generalize A++(cB (l.length:Int)++((l.take i).map Id.B).flatten)=X at *
  generalize l[i]=x at *
  simp only [go_sem,↓reduceIte,List.length_map,bQ hi,hi,g0]
  refine aG [0,2] (aA _) (by decide) (by simp) rfl rfl (aZc X x (by omega) hx) ?_
  rintro r T' rfl
  simp only [go_sem,↓reduceIte,aH (show i<9223372036854775807 by omega),List.map_append]
 ·intro _
  rw [List.take_length]
  simp only [go_sem,↓reduceIte,List.length_map,bV (Nat.lt_irrefl _),jN]
theorem bD8 (A:List Nat) (b:BoxM) (hA:A.length<=600000) (hb:b.ok):aD prog G gH [.ag b.A,.ptr 0 0] [some (.box [.ptr 1 0]),some (.box [.own 2]),some (.arr 1 (bl A))] fun r T'=>T'=[some (.box [.ptr 1 0]),some (.box [.own 3]),none,some (.arr 1 (bl (A++b.B)))]:=by
 refine aF aKk (by decide) ?_
 unfold aH6
 dsimp only [zj,zT,zF,zC,zE,zP,zQ,zq,zA,zm,zo,zs,zg,zh,zl,zv,zf,zi,zn,zb,zc,ze,zk,zw,zu,zt,zr,zR,zK,zN,zS,z0,zU]
 obtain ⟨h1,h2,h3,h4⟩:=hb
 have l1:=iR b.To
 have l2:=iR b.Eph
 have l3:=iR b.Body
 have l4:=iR b.Tag
 simp only [go_sem,↓reduceIte,BoxM.A]
 refine aL 4 (fun i=>match i with
  | 0=>⟨3,[(1,.ptr 0 0),(13,.own 3),(14,.v (.int .i64 4)),(15,.v (.int .i64 0))],[some (.box [.ptr 1 0]),some (.box [.own 2]),some (.arr 1 (bl A)),some (.arr 1 [[uv b.To],[uv b.Eph],[uv b.Body],[uv b.Tag]])]⟩
  | i+1=>⟨3,[(1,.ptr 0 0),(13,.own 3),(14,.v (.int .i64 4)),(15,.v (.int .i64 ((i+1:Nat):Int)))],[some (.box [.ptr 1 0]),some (.box [.own 4]),none,some (.arr 1 [[uv b.To],[uv b.Eph],[uv b.Body],[uv b.Tag]]),some (.arr 1 (bl (A++vY ([b.To,b.Eph,b.Body,b.Tag].take (i+1)))))]⟩) (fun _=>True) ?_ trivial ?_ ?_
 ·simp only [go_sem,↓reduceIte]
 ·intro i hi _
  rcases i with _ | _ | _ | _ | i
  ·simp only [go_sem,↓reduceIte]
   refine aG [1,2] (aA _) (by decide) (by simp) rfl rfl (aEG A b.To (by omega) h1) ?_
   rintro r T' rfl
   simp only [go_sem,↓reduceIte,vY,List.flatten_cons,List.flatten_nil]
  ·simp only [go_sem,↓reduceIte,vY,List.flatten_cons,List.flatten_nil]
   rw [<-List.map_append]
   refine aG [1,4] (aA _) (by decide) (by simp) rfl rfl (aEG (A++jL b.To) b.Eph (by simp only [List.length_append];omega) h2) ?_
   rintro r T' rfl
   simp only [go_sem,↓reduceIte,List.append_assoc,vY,List.flatten_cons,List.flatten_nil,List.map_append]
  ·simp only [go_sem,↓reduceIte,vY,List.flatten_cons,List.flatten_nil]
   rw [<-List.map_append,<-List.map_append]
   refine aG [1,4] (aA _) (by decide) (by simp) rfl rfl (aEG (A++(jL b.To++jL b.Eph)) b.Body (by simp only [List.length_append];omega) h3) ?_
   rintro r T' rfl
   simp only [go_sem,↓reduceIte,List.append_assoc,vY,List.flatten_cons,List.flatten_nil,List.map_append]
  ·simp only [go_sem,↓reduceIte,vY,List.flatten_cons,List.flatten_nil]
   rw [<-List.map_append,<-List.map_append,<-List.map_append]
   refine aG [1,4] (aA _) (by decide) (by simp) rfl rfl (aEG (A++(jL b.To++(jL b.Eph++jL b.Body))) b.Tag (by simp only [List.length_append];omega) h4) ?_
   rintro r T' rfl
   simp only [go_sem,↓reduceIte,List.append_assoc,vY,List.flatten_cons,List.flatten_nil,List.map_append]
  ·omega
 ·intro _
  simp only [go_sem,↓reduceIte,BoxM.B]
theorem aIc (b:BoxM):b.B.length<=40:=aN7 [b.To,b.Eph,b.Body,b.Tag]
theorem aQ2 (A:List Nat) (l:List BoxM) (hA:A.length<=500000) (hl:l.length<=1000) (hn:∀ x∈l,x.ok):aD prog G mE [.ptr 0 0,bxs l,.cl gH [.ptr 2 0]] [some (.box [.own 1]),some (.arr 1 (bl A)),some (.box [.ptr 0 0])] fun r T'=>T'=[some (.box [.own 3]),none,some (.box [.ptr 0 0]),some (.arr 1 (bl (A++jN BoxM.B l)))]:=by
 refine aF aCo (by decide) ?_
 unfold yA
 dsimp only [zj,zT,zF,zC,zE,zP,zQ,zq,zA,zm,zo,zs,zg,zh,zl,zv,zf,zi,zn,zb,zc,ze,zk,zw,zu,zt,zr,zR,zK,zN,zS,z0,zU]
 have hw:∀ x∈l,(BoxM.B x).length<=40:=fun x _=>aIc x
 have l1:=cC (l.length:Int)
 simp only [go_sem,↓reduceIte,List.length_map]
 refine aG [0,1] (aA _) (by decide) (by simp) rfl rfl (sH A (l.length:Int) (by omega) (by omega) (by omega)) ?_
 rintro r T' rfl
 simp only [go_sem,↓reduceIte]
 refine aL l.length (fun i=>⟨3,[(2,.cl gH [.ptr 2 0]),(12,bxs l),(13,.v (.int .i64 (l.length:Int))),(14,.v (.int .i64 (i:Int)))],[some (.box [.own 3]),none,some (.box [.ptr 0 0]),some (.arr 1 (bl (A++(cB (l.length:Int)++((l.take i).map BoxM.B).flatten))))]⟩) (fun _=>True) ?_ trivial ?_ ?_
 ·simp only [go_sem,↓reduceIte,List.take_zero,List.flatten_nil,List.append_nil]
 ·intro i hi _
  have g0:(l.map BoxM.A)[i]?=some [uv l[i].To,uv l[i].Eph,uv l[i].Body,uv l[i].Tag]:=aX _ l i hi
  have hx:=hn l[i] (List.getElem_mem hi)
  have hk:=hw l[i] (List.getElem_mem hi)
  have k1:=aCb hw i (by omega)
  have es:A++(cB (l.length:Int)++((l.take (i+1)).map BoxM.B).flatten)=(A++(cB (l.length:Int)++((l.take i).map BoxM.B).flatten))++BoxM.B l[i]:=by rw [aG0 _ l i hi];simp only [List.append_assoc]
  rw [es]
  have k3:(A++(cB (l.length:Int)++((l.take i).map BoxM.B).flatten)).length<=600000:=by rw [List.length_append,List.length_append];omega
  clear es
  generalize A++(cB (l.length:Int)++((l.take i).map BoxM.B).flatten)=X at *
  generalize l[i]=x at *
  simp only [go_sem,↓reduceIte,List.length_map,bQ hi,hi,g0]
  refine aG [2,0,3] (aA _) (by decide) (by simp) rfl rfl (bD8 X x (by omega) hx) ?_
  rintro r T' rfl
  simp only [go_sem,↓reduceIte,aH (show i<9223372036854775807 by omega),List.map_append]
 ·intro _
  rw [List.take_length]
  simp only [go_sem,↓reduceIte,List.length_map,bV (Nat.lt_irrefl _),jN]
def NodeM.B (n:NodeM):List Nat:=jL n.Pub++jN BoxM.B n.Boxes
theorem aKu {n:NodeM} (h:n.ok):n.B.length<=4020:=by
 have h1:=iR n.Pub
 have h2:=jO (f:=BoxM.B) (l:=n.Boxes) (k:=40) fun x _=>aIc x
 have h3:=h.2.1
 simp only [NodeM.B,List.length_append]
 omega
theorem bB5 (A:List Nat) (n:NodeM) (hA:A.length<=450000) (hn:n.ok):aD prog G rF [.ag n.A,.ptr 0 0,.ptr 1 0] [some (.box [.ptr 2 0]),some (.box [.cl gH [.ptr 0 0]]),some (.box [.own 3]),some (.arr 1 (bl A))] fun r T'=>T'=[some (.box [.ptr 2 0]),some (.box [.cl gH [.ptr 0 0]]),some (.box [.own 4]),none,some (.arr 1 (bl (A++n.B)))]:=by
 refine aF aKl (by decide) ?_
 unfold aH7
 dsimp only [zj,zT,zF,zC,zE,zP,zQ,zq,zA,zm,zo,zs,zg,zh,zl,zv,zf,zi,zn,zb,zc,ze,zk,zw,zu,zt,zr,zR,zK,zN,zS,z0,zU]
 have l1:=iR n.Pub
 simp only [go_sem,↓reduceIte,NodeM.A]
 refine aG [2,3] (aA _) (by decide) (by simp) rfl rfl (aEG A n.Pub (by omega) hn.1) ?_
 rintro r T' rfl
 simp only [go_sem,↓reduceIte]
 rw [<-List.map_append]
 refine aG [2,5,0] (aA _) (by decide) (by simp) rfl rfl (aQ2 (A++jL n.Pub) n.Boxes (by simp only [List.length_append];omega) (by have:=hn.2.1;omega) hn.2.2) ?_
 rintro r T' rfl
 simp only [go_sem,↓reduceIte,NodeM.B,List.append_assoc]
def SealM.B (x:SealM):List Nat:=x.Of.B++aCJ x.Body
theorem aKv {x:SealM} (h:x.ok):x.B.length<=1040:=by
 have h1:=Id.B_len x.Of
 have h2:=cC (x.Body.length:Int)
 have h3:=h.2.1
 simp only [SealM.B,aCJ,List.length_append]
 omega
theorem bB6 (A:List Nat) (x:SealM) (hA:A.length<=600000) (hx:x.ok):aD prog G rG [.ag x.A,.ptr 0 0] [some (.box [.ptr 1 0]),some (.box [.own 2]),some (.arr 1 (bl A))] fun r T'=>T'=[some (.box [.ptr 1 0]),some (.box [.own 3]),none,some (.arr 1 (bl (A++x.B)))]:=by
 refine aF aKm (by decide) ?_
 unfold aH8
 dsimp only [zj,zT,zF,zC,zE,zP,zQ,zq,zA,zm,zo,zs,zg,zh,zl,zv,zf,zi,zn,zb,zc,ze,zk,zw,zu,zt,zr,zR,zK,zN,zS,z0,zU]
 have l1:=Id.B_len x.Of
 have l2:=hx.2.1
 simp only [go_sem,↓reduceIte,SealM.A]
 refine aG [1,2] (aA _) (by decide) (by simp) rfl rfl (aZc A x.Of (by omega) hx.1) ?_
 rintro r T' rfl
 simp only [go_sem,↓reduceIte,↓gR]
 rw [<-List.map_append]
 refine aG [1,4] (aA _) (by decide) (by simp) rfl rfl (aWZ (A++x.Of.B) (bsN x.Body) x.Body (aKt hx.2.2) (aQ1 _) (by simp only [List.length_append];omega) (by omega)) ?_
 rintro r T' rfl
 simp only [go_sem,↓reduceIte,SealM.B,aCJ,List.append_assoc]
theorem aV6 (A:List Nat) (l:List NodeM) (hA:A.length<=400000) (hl:l.length<=10) (hn:∀ x∈l,x.ok):aD prog G pB [.ptr 0 0,.ls 2 (l.map NodeM.A),.cl rF [.ptr 2 0,.ptr 3 0]] [some (.box [.own 1]),some (.arr 1 (bl A)),some (.box [.ptr 0 0]),some (.box [.cl gH [.ptr 2 0]])] fun r T'=>T'=[some (.box [.own 4]),none,some (.box [.ptr 0 0]),some (.box [.cl gH [.ptr 2 0]]),some (.arr 1 (bl (A++jN NodeM.B l)))]:=by
 refine aF aBz (by decide) ?_
 unfold vZ
 dsimp only [zj,zT,zF,zC,zE,zP,zQ,zq,zA,zm,zo,zs,zg,zh,zl,zv,zf,zi,zn,zb,zc,ze,zk,zw,zu,zt,zr,zR,zK,zN,zS,z0,zU]
 have hw:∀ x∈l,(NodeM.B x).length<=4020:=fun x hm=>aKu (hn x hm)
 have l1:=cC (l.length:Int)
 simp only [go_sem,↓reduceIte,List.length_map]
 refine aG [0,1] (aA _) (by decide) (by simp) rfl rfl (sH A (l.length:Int) (by omega) (by omega) (by omega)) ?_
 rintro r T' rfl
 simp only [go_sem,↓reduceIte]
 refine aL l.length (fun i=>⟨4,[(2,.cl rF [.ptr 2 0,.ptr 3 0]),(12,.ls 2 (l.map NodeM.A)),(13,.v (.int .i64 (l.length:Int))),(14,.v (.int .i64 (i:Int)))],[some (.box [.own 4]),none,some (.box [.ptr 0 0]),some (.box [.cl gH [.ptr 2 0]]),some (.arr 1 (bl (A++(cB (l.length:Int)++((l.take i).map NodeM.B).flatten))))]⟩) (fun _=>True) ?_ trivial ?_ ?_
 ·simp only [go_sem,↓reduceIte,List.take_zero,List.flatten_nil,List.append_nil]
 ·intro i hi _
  have g0:(l.map NodeM.A)[i]?=some [uv l[i].Pub,bxs l[i].Boxes]:=aX _ l i hi
  have hx:=hn l[i] (List.getElem_mem hi)
  have hk:=hw l[i] (List.getElem_mem hi)
  have k1:=aCb hw i (by omega)
  have es:A++(cB (l.length:Int)++((l.take (i+1)).map NodeM.B).flatten)=(A++(cB (l.length:Int)++((l.take i).map NodeM.B).flatten))++NodeM.B l[i]:=by rw [aG0 _ l i hi];simp only [List.append_assoc]
  rw [es]
  have k3:(A++(cB (l.length:Int)++((l.take i).map NodeM.B).flatten)).length<=450000:=by rw [List.length_append,List.length_append];omega
  clear es
  generalize A++(cB (l.length:Int)++((l.take i).map NodeM.B).flatten)=X at *
  generalize l[i]=x at *
  simp only [go_sem,↓reduceIte,List.length_map,bQ hi,hi,g0]
  refine aG [2,3,0,4] (aA _) (by decide) (by simp) rfl rfl (bB5 X x (by omega) hx) ?_
  rintro r T' rfl
  simp only [go_sem,↓reduceIte,aH (show i<9223372036854775807 by omega),List.map_append]
 ·intro _
  rw [List.take_length]
  simp only [go_sem,↓reduceIte,List.length_map,bV (Nat.lt_irrefl _),jN]
theorem aV7 (A:List Nat) (l:List SealM) (hA:A.length<=450000) (hl:l.length<=100) (hn:∀ x∈l,x.ok):aD prog G mO [.ptr 0 0,.ls 4 (l.map SealM.A),.cl rG [.ptr 2 0]] [some (.box [.own 1]),some (.arr 1 (bl A)),some (.box [.ptr 0 0])] fun r T'=>T'=[some (.box [.own 3]),none,some (.box [.ptr 0 0]),some (.arr 1 (bl (A++jN SealM.B l)))]:=by
 refine aF aAf (by decide) ?_
 unfold sI
 dsimp only [zj,zT,zF,zC,zE,zP,zQ,zq,zA,zm,zo,zs,zg,zh,zl,zv,zf,zi,zn,zb,zc,ze,zk,zw,zu,zt,zr,zR,zK,zN,zS,z0,zU]
 have hw:∀ x∈l,(SealM.B x).length<=1040:=fun x hm=>aKv (hn x hm)
 have l1:=cC (l.length:Int)
 simp only [go_sem,↓reduceIte,List.length_map]
 refine aG [0,1] (aA _) (by decide) (by simp) rfl rfl (sH A (l.length:Int) (by omega) (by omega) (by omega)) ?_
 rintro r T' rfl
 simp only [go_sem,↓reduceIte]
 refine aL l.length (fun i=>⟨3,[(2,.cl rG [.ptr 2 0]),(12,.ls 4 (l.map SealM.A)),(13,.v (.int .i64 (l.length:Int))),(14,.v (.int .i64 (i:Int)))],[some (.box [.own 3]),none,some (.box [.ptr 0 0]),some (.arr 1 (bl (A++(cB (l.length:Int)++((l.take i).map SealM.B).flatten))))]⟩) (fun _=>True) ?_ trivial ?_ ?_
 ·simp only [go_sem,↓reduceIte,List.take_zero,List.flatten_nil,List.append_nil]
 ·intro i hi _
  have g0:(l.map SealM.A)[i]?=some [.v (.int .i64 l[i].Of.a),.v (.int .i64 l[i].Of.b),.v (.int .u64 l[i].Of.c),.ls 1 (bl l[i].Body)]:=aX _ l i hi
  have hx:=hn l[i] (List.getElem_mem hi)
  have hk:=hw l[i] (List.getElem_mem hi)
  have k1:=aCb hw i (by omega)
  have es:A++(cB (l.length:Int)++((l.take (i+1)).map SealM.B).flatten)=(A++(cB (l.length:Int)++((l.take i).map SealM.B).flatten))++SealM.B l[i]:=by rw [aG0 _ l i hi];simp only [List.append_assoc]
  rw [es]
  have k3:(A++(cB (l.length:Int)++((l.take i).map SealM.B).flatten)).length<=600000:=by rw [List.length_append,List.length_append];omega
  clear es
  generalize A++(cB (l.length:Int)++((l.take i).map SealM.B).flatten)=X at *
  generalize l[i]=x at *
  simp only [go_sem,↓reduceIte,List.length_map,bQ hi,hi,g0]
  refine aG [2,0,3] (aA _) (by decide) (by simp) rfl rfl (bB6 X x (by omega) hx) ?_
  rintro r T' rfl
  simp only [go_sem,↓reduceIte,aH (show i<9223372036854775807 by omega),List.map_append]
 ·intro _
  rw [List.take_length]
  simp only [go_sem,↓reduceIte,List.length_map,bV (Nat.lt_irrefl _),jN]
end
end
section
theorem aQ3:∀ (l:List Nat) (x:Nat),leN (l++[x])=leN l+256^l.length*x
 | [],x=>by simp [leN]
 | y::l,x=>by
  simp only [List.cons_append,leN,aQ3 l x,List.length_cons,Nat.pow_succ]
  rw [Nat.mul_add,<-Nat.mul_assoc,Nat.mul_comm 256 (256^l.length)]
  omega
theorem aQ4 {b:List Nat} {j:Nat} (h:j<b.length):leN (b.take (j+1))=leN (b.take j)+256^j*b[j]:=by
 rw [List.take_succ_eq_append_getElem h,aQ3,List.length_take,Nat.min_eq_left (by omega)]
theorem aX3 (w x j:Nat) (h:w<256^j):w ||| (x*2^(8*j))=w+256^j*x:=by
 have e:(256:Nat)^j=2^(8*j):=by rw [Nat.pow_mul]
 rw [e] at h ⊢
 have:=Nat.shiftLeft_add_eq_or_of_lt h x
 rw [Nat.shiftLeft_eq] at this
 rw [Nat.or_comm,<-this,Nat.mul_comm x];omega
theorem aNa (x j:Nat) (hj:j<=7) (hx:x<256):aU .shl (.int .u64 (x:Int)) (.int .i64 ((8*j:Nat):Int))=some (.int .u64 ((x*2^(8*j):Nat):Int)):=by
 have h1:¬((8*j:Nat):Int)<0:=by omega
 have h2:min (((8*j:Nat):Int)).toNat IntKind.u64.bits=8*j:=by
  simp only [Int.toNat_natCast,IntKind.bits];omega
 have h3:x*2^(8*j)<18446744073709551616:=by
  have:x*2^(8*j)<256*2^(8*j):=Nat.mul_lt_mul_of_pos_right hx (Nat.pow_pos (by decide))
  have h4:2^(8*j)<=2^56:=Nat.pow_le_pow_right (by decide) (by omega)
  omega
 simp only [aU,h1,if_false,h2]
 have:(x:Int)*2^(8*j)=((x*2^(8*j):Nat):Int):=by simp
 rw [this,aS _ h3]
theorem aQ5 (a b:Nat) (ha:a<18446744073709551616) (hb:b<18446744073709551616) (hc:a ||| b<18446744073709551616):aU .or (.int .u64 (a:Int)) (.int .u64 (b:Int))=some (.int .u64 ((a ||| b:Nat):Int)):=by
 have h1:(BitVec.ofInt IntKind.u64.bits (a:Int) ||| BitVec.ofInt IntKind.u64.bits (b:Int)).toNat=a ||| b:=by
  have ea:(BitVec.ofInt 64 (a:Int)).toNat=a:=by simp [BitVec.toNat_ofInt];omega
  have eb:(BitVec.ofInt 64 (b:Int)).toNat=b:=by simp [BitVec.toNat_ofInt];omega
  show (BitVec.ofInt 64 (a:Int) ||| BitVec.ofInt 64 (b:Int)).toNat=a ||| b
  rw [BitVec.toNat_or,ea,eb]
 simp only [aU,if_true,h1]
 rw [aS _ hc]
section
variable {G:Nat->Option (List AV)}
set_option maxHeartbeats 4000000
theorem aId (s w:Fq) (k:Nat) (hk:k<1000000000):aD prog G fK [.ptr 0 0,.own 1] [some (.box [.v (fu s),.v (.int .u64 (k:Int))]),some (.arr 1 [[.v (fu w)]])] fun r T' =>
  T'=[some (.box [.v (fu (hst s w (k+1))),.v (.int .u64 ((k+1:Nat):Int))]),some (.arr 1 [[.v (fu w)]])]:=by
 refine aF aBj (by decide) ?_
 unfold vR
 dsimp only [zj,zT,zF,zC,zE,zP,zQ,zq,zA,zm,zo,zs,zg,zh,zl,zv,zf,zi,zn,zb,zc,ze,zk,zw,zu,zt,zr,zR,zK,zN,zS,z0,zU]
 have hw:=uA w
 have a1:=cY k 1 (by omega)
 have a2:=cY w.val (k+1) (by omega)
 have e:=aZ8 w (k+1) (by show _<2305843009213693951;omega)
 simp only [bAO] at a1
 have a3:IntKind.u64.wrap (((w.val:Nat):Int)+((k+1:Nat):Int))=((w.val+(k+1):Nat):Int):=by rw [<-Int.natCast_add,aS _ (by omega)]
 simp only [go_sem,↓reduceIte]
 refine aL 1 (fun i=>⟨2,[(0,.ptr 0 0),(6,.own 1),(7,.v (.int .i64 1)),(8,.v (.int .i64 i))],[some (.box [.v (fu (if i=0 then s else hst s w (k+1))),.v (.int .u64 ((k+i:Nat):Int))]),some (.arr 1 [[.v (fu w)]])]⟩) (fun _=>True) ?_ trivial ?_ ?_
 ·simp only [go_sem,↓reduceIte]
 ·intro i hi _
  obtain rfl:i=0:=by omega
  simp only [go_sem,↓reduceIte,↓a1,↓a2,a3]
  refine aC (aA _) rfl (aGD 37 s) rfl ?_
  simp only [go_sem,↓reduceIte,a3]
  refine aC (aA _) rfl (aBn G (w.val+(k+1)) (by omega)) rfl ?_
  simp only [go_sem,↓reduceIte,e]
  refine aC (aA _) rfl (aMO (37*s) (w+Fin.ofNat PP (k+1))) rfl ?_
  simp only [go_sem,↓reduceIte]
  refine aC (aA _) rfl (aJt _ 17 (by decide)) rfl ?_
  simp only [go_sem,↓reduceIte,hst]
 ·intro _
  simp only [go_sem,↓reduceIte]
theorem aQ6 (S:ByteArray) (lab ns:List Nat) (hS:iG S=bl lab) (hs:S.size=lab.length) (hb:okB lab) (hl1:1<=lab.length) (hl:lab.length<=7) (hn:∀ n∈ns,n<18446744073709551616) (hnl:ns.length<=10000000):aD prog G kQ [.v (.string S),.ls 1 (ul ns)] [] fun r T'=>r=.v (fu (sG lab ns))/\T'=[]:=by
 refine aF aOb (by decide) ?_
 unfold aMH
 dsimp only [zj,zT,zF,zC,zE,zP,zQ,zq,zA,zm,zo,zs,zg,zh,zl,zv,zf,zi,zn,zb,zc,ze,zk,zw,zu,zt,zr,zR,zK,zN,zS,z0,zU]
 have hm:lab.length<=maxLen:=by unfold maxLen;omega
 have z1:IntKind.u64.wrap (ns.length:Int)=(ns.length:Int):=aS _ (by omega)
 have z2:IntKind.u64.wrap (lab.length:Int)=(lab.length:Int):=aS _ (by omega)
 have s0:(Value.int .u64 ((lab.length:Nat):Int))=fu (Fin.ofNat PP lab.length):=xX (by show _<2305843009213693951;omega)
 have sn:(Value.int .u64 ((ns.length:Nat):Int))=fu (Fin.ofNat PP ns.length):=xX (by show _<2305843009213693951;omega)
 have hlen:(bl lab).length=lab.length:=by simp
 have tk:∀ n,lab.length<=n->(bl lab).take n=bl lab:=fun n h=>List.take_of_length_le (by simpa using h)
 have hW:leN lab<72057594037927936:=aMX hb hl
 have sw:(Value.int .u64 ((leN lab:Nat):Int))=fu (Fin.ofNat PP (leN lab)):=xX (Nat.lt_trans hW (by decide))
 have hmm:(if (lab.length:Int)<7 then (lab.length:Int) else (7:Int))=(lab.length:Int):=by split<;>omega
 have w0:IntKind.i64.wrap (0+(lab.length:Int))=(lab.length:Int):=by rw [aM (by omega) (by omega)];omega
 have hne:¬lab.length=0:=by omega
 have t7:decide ((7:Int)<(lab.length:Int))=false:=decide_eq_false (by omega)
 have t0:decide ((0:Int)<(lab.length:Int))=true:=decide_eq_true (by omega)
 have hlab:aPQ lab ns=Fin.ofNat PP (leN lab)::Fin.ofNat PP ns.length::(ns.map (Fin.ofNat PP)++[0]):=by
  unfold aPQ
  rw [aRR (fun h=>by rw [h] at hl1;simp at hl1) hl]
  simp
 simp only [go_sem,↓reduceIte,hS,hs,hm,z2,s0]
 refine bU (aA _) rfl (aTm _) ?_
 simp only [go_sem,↓reduceIte]
 refine aJ9 rfl (pZ lC) fun r k1 k2 hy hyR=>?_
 simp only [go_sem,↓reduceIte]
 refine aA8 [0,1,2] (aA _) (by decide) (fun i hi=>by simp at hi ⊢;omega) rfl rfl (aF lC (by decide) ?_)
 unfold tX
 dsimp only [zj,zT,zF,zC,zE,zP,zQ,zq,zA,zm,zo,zs,zg,zh,zl,zv,zf,zi,zn,zb,zc,ze,zk,zw,zu,zt,zr,zR,zK,zN,zS,z0,zU]
 simp only [go_sem,↓reduceIte]
 refine bU (aA _) rfl (aTn _) ?_
 simp only [go_sem,↓reduceIte]
 refine aJ9 rfl (pZ cR) fun r2 q1 q2 hz hzR=>?_
 simp only [go_sem,↓reduceIte]
 refine aA8 [0,1,2,3,4,5,6] (aA _) (by decide) (fun i hi=>by simp at hi ⊢;omega) rfl rfl (aF cR (by decide) ?_)
 unfold gD
 dsimp only [zj,zT,zF,zC,zE,zP,zQ,zq,zA,zm,zo,zs,zg,zh,zl,zv,zf,zi,zn,zb,zc,ze,zk,zw,zu,zt,zr,zR,zK,zN,zS,z0,zU]
 simp only [go_sem,↓reduceIte]
 generalize hA0:Fin.ofNat PP lab.length=A0 at *
 refine fS (fun n s=>(n=1/\s=⟨7,[(0,.yl 6),(1,.ptr 4 0),(2,.ptr 5 0),(4,.v (.int .i64 0))],[some (.box [.v (fu A0),.v (.int .u64 0)]),some (.box [.ls 1 (bl lab)]),some (.lp r [(5,.ptr 0 0)]),some (.box [.yl 2]),some (.box [.ls 1 (bl lab)]),some (.box [.v (.int .i64 7)]),some (.lp r2 [(2,.ptr 3 0)])]⟩) \/
  (n=0/\s=⟨7,[(0,.yl 6),(1,.ptr 4 0),(2,.ptr 5 0),(4,.v (.int .i64 7))],[some (.box [.v (fu (hst A0 (Fin.ofNat PP (leN lab)) 1)),.v (.int .u64 ((1:Nat):Int))]),some (.box [.ls 1 (bl lab)]),some (.lp r [(5,.ptr 0 0)]),some (.box [.yl 2]),some (.box [.ls 1 (bl lab)]),some (.box [.v (.int .i64 7)]),some (.lp r2 [(2,.ptr 3 0)])]⟩)) 1 (.inl ⟨rfl,?_⟩) ?_
 ·simp only [go_sem,↓reduceIte]
 rintro n s (⟨rfl,rfl⟩ | ⟨rfl,rfl⟩)
 ·simp only [go_sem,↓reduceIte,List.length_map,t0,hmm,w0,hne,hlen,tk lab.length (Nat.le_refl _)]
  refine hz _ _ _ _ _ rfl rfl ?_
  simp only [go_sem,↓reduceIte,List.length_map]
  refine fS (fun n s=>∃ j:Nat,j<=lab.length/\n=lab.length-j/\s=⟨7,[(2,.ptr 3 0),(4,.v (.int .u64 ((leN (lab.take j):Nat):Int))),(10,.ls 1 (bl lab)),(11,.v (.int .i64 (lab.length:Int))),(12,.v (.int .i64 (j:Int)))],[some (.box [.v (fu A0),.v (.int .u64 0)]),some (.box [.ls 1 (bl lab)]),some (.lp r [(5,.ptr 0 0)]),some (.box [.yl 2]),some (.box [.ls 1 (bl lab)]),some (.box [.v (.int .i64 7)]),none]⟩) lab.length ⟨0,Nat.zero_le _,rfl,?_⟩ ?_
  ·simp only [go_sem,↓reduceIte,List.take_zero,leN]
  rintro n s ⟨j,hj,rfl,rfl⟩
  by_cases hjl:j<lab.length
  ·have g0:(bl lab)[j]?=some [.v (.int .u8 ((lab[j]:Nat):Int))]:=aX U8 lab j hjl
   have hx:=hb lab[j] (List.getElem_mem hjl)
   have hWj:=aJz (pH hb j)
   rw [List.length_take,Nat.min_eq_left (by omega)] at hWj
   have hW7:leN (lab.take j)<72057594037927936:=aMX (pH hb j) (by rw [List.length_take];omega)
   have hW8:leN (lab.take (j+1))<72057594037927936:=aMX (pH hb _) (by rw [List.length_take];omega)
   have hst2:=aQ4 hjl
   rw [hst2] at hW8
   generalize lab[j]=x at g0 hx hst2 hW8
   have v1:IntKind.u64.wrap (x:Int)=(x:Int):=aS x (by omega)
   have v2:IntKind.i64.wrap (8*(j:Int))=((8*j:Nat):Int):=by rw [aM (by omega) (by omega)];omega
   have sh:=aNa x j (by omega) hx
   have ho:=aX3 (leN (lab.take j)) x j hWj
   have hsl:x*2^(8*j)<18446744073709551616:=by
    have:256^j*x=x*2^(8*j):=by rw [Nat.mul_comm,show (256:Nat)^j=2^(8*j) by rw [Nat.pow_mul]]
    omega
   have or1:=aQ5 (leN (lab.take j)) (x*2^(8*j)) (by omega) hsl (by omega)
   rw [ho,<-hst2] at or1
   simp only [go_sem,↓reduceIte,List.length_map,bQ hjl,hjl,g0,v1,v2,↓sh,↓or1,aH (show j<9223372036854775807 by omega)]
   exact ⟨lab.length-(j+1),by omega,j+1,by omega,rfl,rfl⟩
  ·obtain rfl:j=lab.length:=by omega
   rw [List.take_length]
   simp only [go_sem,↓reduceIte,bV (Nat.lt_irrefl _),sw]
   refine hy _ _ _ _ _ rfl rfl ?_
   simp only [go_sem,↓reduceIte]
   refine aG [0,7] (aA _) (by decide) (by simp) rfl rfl (aId A0 (Fin.ofNat PP (leN lab)) 0 (by decide)) ?_
   rintro r' T' hT
   subst hT
   simp only [go_sem,↓reduceIte]
   exact ⟨0,by decide,.inr rfl⟩
 ·simp only [go_sem,↓reduceIte,List.length_map,t7,q1,q2,k1,k2,z1,sn]
  refine aG [0,3] (aA _) (by decide) (by simp) rfl rfl (aId (hst A0 (Fin.ofNat PP (leN lab)) 1) (Fin.ofNat PP ns.length) 1 (by decide)) ?_
  rintro r' T' hT
  subst hT
  have hfin:sG lab ns=hst (aA9 (hst (hst A0 (Fin.ofNat PP (leN lab)) 1) (Fin.ofNat PP ns.length) 2) 2 (ns.map (Fin.ofNat PP))) 0 (ns.length+3):=by
   unfold sG
   rw [hlab,hA0]
   simp only [aA9,aC8,List.length_map]
   congr 1
   omega
  rw [hfin]
  generalize hst (hst A0 (Fin.ofNat PP (leN lab)) 1) (Fin.ofNat PP ns.length) 2=B at *
  simp only [go_sem,↓reduceIte,List.length_map]
  refine aL ns.length (fun i=>⟨0,[(4,.v (.int .u64 0)),(5,.ptr 0 0),(15,.cl jG [.ptr 1 0]),(25,.ls 1 (ul ns)),(26,.v (.int .i64 (ns.length:Int))),(27,.v (.int .i64 (i:Int)))],[some (.box [.v (fu (aA9 B 2 ((ns.take i).map (Fin.ofNat PP)))),.v (.int .u64 ((2+i:Nat):Int))]),some (.box [.ls 1 (bl lab)])]⟩) (fun _=>True) ?_ trivial ?_ ?_
  ·simp only [go_sem,↓reduceIte]
   rfl
  ·intro i hi _
   have g0:(ul ns)[i]?=some [.v (.int .u64 ((ns[i]:Nat):Int))]:=by rw [aX _ ns i hi]
   have hni:=hn ns[i] (List.getElem_mem hi)
   have key:hst (aA9 B 2 ((ns.take i).map (Fin.ofNat PP))) (Fin.ofNat PP ns[i]) (2+i+1)=aA9 B 2 ((ns.take (i+1)).map (Fin.ofNat PP)):=by
    rw [List.take_succ_eq_append_getElem hi,List.map_append,List.map_cons,List.map_nil,aC8]
    congr 1
    simp;omega
   have sN:(Value.int .u64 ((ns[i]%FP:Nat):Int))=fu (Fin.ofNat PP ns[i]):=rfl
   generalize aA9 B 2 ((ns.take i).map (Fin.ofNat PP))=X at *
   generalize aA9 B 2 ((ns.take (i+1)).map (Fin.ofNat PP))=Y at *
   simp only [go_sem,↓reduceIte,List.length_map,bQ hi,g0]
   refine aC (aA _) rfl (aBn G ns[i] hni) rfl ?_
   simp only [go_sem,↓reduceIte,sN]
   refine aG [0,2] (aA _) (by decide) (by simp) rfl rfl (aId X (Fin.ofNat PP ns[i]) (2+i) (by omega)) ?_
   rintro r' T' hT
   subst hT
   simp only [go_sem,↓reduceIte,key,aH (show i<9223372036854775807 by omega)]
   rfl
  ·intro _
   rw [List.take_length]
   simp only [go_sem,↓reduceIte,bV (Nat.lt_irrefl _)]
   refine aG [0,2] (aA _) (by decide) (by simp) rfl rfl (aId (aA9 B 2 (ns.map (Fin.ofNat PP))) 0 (2+ns.length) (by omega)) ?_
   rintro r' T' hT
   subst hT
   have e3:2+ns.length+1=ns.length+3:=by omega
   simp only [go_sem,↓reduceIte,e3]
end
end
section
def aEP:HFun:=⟨20,[(10,none),(11,none)],zQ (zr [zN 10,zk 11 0] [11,10]) (zQ (zr [zm 12 0,zm 13 1,zm 14 2,zm 15 3,zm 16 4,zc 17 oT [zt 12,zt 13,zt 14,zt 15,zt 16],ze 18 17 0,ze 19 17 1,zm 10 18,zm 11 19] [0,1,2,3,4,19,18,17,16,15,14,13,12]) .ret)⟩
theorem aHI:aB prog jZ []=some aEP:=by kernel_rfl
def aCN:HFun:=⟨17,[(8,none),(9,none)],zQ (zr [zN 8,zk 9 0] [9,8]) (zQ (zr [zm 10 0,zm 11 1,zm 12 2,zm 13 3,zc 14 oT [zt 10,zu 0,zt 11,zt 12,zt 13],ze 15 14 0,ze 16 14 1,zm 8 15,zm 9 16] [0,1,2,3,16,15,14,13,12,11,10]) .ret)⟩
theorem aG1:aB prog mZ []=some aCN:=by kernel_rfl
def aQ7:HFun:=⟨26,[(2,none)],zQ (zr [zo 1 (.box (zt 0)),zo 2 (.mov (.const (.pointer none)))] [0,2]) (zQ (zQ (zr [zf 5 1 0,zl 6 5,zc 7 vH [zt 6],zm 3 7] [7,6,5]) (.own 3 (some 2) 35)) (zQ (zQ (zr [zm 8 3,zo 9 (.nilS false 0 (zt 8))] [8]) (zC 9 (zK [3,1,9] (zE [zo 2 (.mov (.const (.pointer none)))] .ret)) (zK [9] .skip))) (zQ (zE [zk 4 0] (zP 0 (zQ (zQ (zr [zm 10 4,zf 11 1 1,zl 12 11,zn 13 12,zb 14 .lss 10 13] [13,12,11,10]) (zC 14 (zK [14] .skip) (zK [1,4,14] (.exit 0)))) (zQ (.block 1 (zQ (zr [zm 17 3,zf 18 1 1,zl 19 18,zm 20 4,zi 21 19 20 27,zv 22 27 21,zc 23 oW [zt 17,zt 22],zj 24 .neq 23 0] [23,22,21,20,19,18,17]) (zC 24 (zK [4,3,1,24] (zE [zo 2 (.mov (.const (.pointer none)))] .ret)) (zK [24] .skip)))) (zr [zm 15 4,zj 16 .add 15 1,zm 4 16] [16,15]))))) (zQ (zr [zm 25 3,zm 2 25] [3,25]) .ret))))⟩
theorem aQ8:aB prog aEh [(3,some 2,35)]=some aQ7:=by kernel_rfl
def aEQ:HFun:=⟨87,[(10,none),(11,none)],zQ (zr [zN 10,zk 11 0] [11,10]) (zQ (zr [zm 19 2,zc 20 iY [zt 19],zc 21 mN [zt 20],zc 22 iH [zt 21],zm 12 22] [22,21,20,19]) (zQ (zQ (zr [zm 23 3,zj 24 .lss 23 1,zm 25 24,zh 26 3 25 false,zh 27 2 25 false,zg 28 (.lenL (zt 27)) 25 false,zg 29 (.bin .gtr (zt 26) (zt 28)) 25 false,zo 30 (.pick (zt 25) zT (zt 29)),zm 31 30,zh 32 2 31 false,zg 33 (.lenL (zt 32)) 31 false,zg 34 (.bin .gtr (zt 33) (zw 12)) 31 false,zo 35 (.pick (zt 31) zT (zt 34)),zm 36 35,zh 37 12 36 false,zg 38 (.lenL (zt 37)) 36 false,zh 39 2 36 false,zg 40 (.lenL (zt 39)) 36 false,zg 41 (.bin .neq (zt 38) (zt 40)) 36 false,zo 42 (.pick (zt 36) zT (zt 41))] [12,41,40,39,38,37,36,35,34,33,32,31,30,29,28,27,26,25,24,23]) (zC 42 (zK [0,2,3,4,1,42] (zQ (zE [zN 10,zk 11 1] (.own 10 none 4)) .ret)) (zK [42] .skip))) (zQ (zr [zm 44 0,zm 45 2,zc 46 qN [zt 44,zt 45],zm 43 46,ze 47 43 0,ze 48 43 1,zm 13 47,zm 14 48] [0,48,47,43,46,45,44]) (zQ (zQ (zr [zm 49 14,zj 50 .neq 49 0] [49]) (zC 50 (zK [13,2,1,4,3,50] (zQ (zQ (zr [zm 51 14,zN 10,zm 11 51] [14,51]) (.own 10 none 4)) .ret)) (zK [14,50] .skip))) (zQ (zE [zN 15] (.own 15 none 1)) (zQ (zQ (zr [zm 52 3,zj 53 .sub 52 1,zk 54 0] [3,52]) (zP 0 (zE [zb 55 .lss 54 53] (zQ (zC 55 (zK [55] .skip) (zK [53,54,55] (.exit 0))) (zQ (.block 1 (zQ (zr [zm 56 15,zm 57 4,zc 58 lA [zt 57],zo 59 (.bsl 1 [zU] [(0,(1,zt 58))] 1),zo 60 (.app (zt 56) (zt 59) 1 8),zm 15 60] [60,59,58,57,56]) (.own 15 none 1))) (zr [zj 61 .add 54 1,zm 54 61] [61])))))) (zQ (zE [zN 16] (.own 16 none 4)) (zQ (zQ (zr [zm 62 1,zm 63 15,zm 64 2,zn 65 64,zc 66 mY [zt 62,zt 63,zt 65],zn 67 66,zk 68 0] [1,15,2,65,64,63,62]) (zP 2 (zE [zb 69 .lss 68 67] (zQ (zC 69 (zK [69] .skip) (zK [68,66,67,4,13,69] (.exit 2))) (zQ (.block 3 (zQ (zr [zm 70 68,zi 71 66 68 2,zv 72 2 71,zo 18 (.alloc [zU,zU]),zm 17 70,zs (.st 2 (zt 18) (zt 72))] [72,71,70]) (zQ (zR (zq (zm 73 16) (zq (zm 74 13) (zq (zm 75 17) (zq (zi 76 74 75 1) (zq (zl 77 76) (zq (zm 78 4) (zq (zf 80 18 1) (zq (zl 81 80) (zA (zc 79 lA [zt 78]) [zl 81 80,zf 80 18 1,zl 77 76,zi 76 74 75 1,zm 75 17,zm 74 13,zm 73 16] (zA (zc 82 aDe [zt 77,zt 79,zt 81]) [zm 73 16] (zA (zo 83 (.bsl 4 [zU,zU,zU,zU] [(0,(4,zt 82))] 1)) [zm 73 16] (zA (zo 84 (.app (zt 73) (zt 83) 4 32)) [] (zA (zm 16 84) [] (.done false) .no) .no) .no) .no) .no))))))))) [17,18,84,83,82,81,80,79,78,77,76,75,74,73]) (.own 16 none 4)))) (zr [zj 85 .add 68 1,zm 68 85] [85])))))) (zQ (zQ (zr [zm 86 16,zm 10 86,zk 11 0] [16,86]) (.own 10 none 4)) .ret)))))))))⟩
theorem aHJ:aB prog oT [(10,none,4),(15,none,1),(16,none,4)]=some aEQ:=by kernel_rfl
def aHd:HFun:=⟨15,[(2,none)],zQ (zr [zo 2 (.mov (.const (.pointer none)))] [2]) (zQ (zr [zm 4 0,zc 5 dM [zt 4],zo 6 (.mkm true),zo 7 (.bld [zS,.map none,zS] [(0,(1,zt 5)),(1,(1,zt 6))]),zo 8 (.box (zt 7)),zm 3 8] [0,8,7,6,5,4]) (zQ (zr [zm 9 3,zo 10 (.nilc (zt 9)),zf 11 10 0,zl 12 11,zc 13 fV [zt 12,.func nB]] [13,12,11,10,9]) (zQ (zr [zm 14 3,zm 2 14] [3,14]) .ret)))⟩
theorem aKw:aB prog vH []=some aHd:=by kernel_rfl
def mL:HFun:=⟨61,[(2,none)],zQ (zr [zN 2] [2]) (zQ (zQ (zr [zm 6 0,zn 7 6,zj 8 .lss 7 2] [7,6]) (zC 8 (zK [8] (zQ (zQ (zr [zm 9 0,zm 2 9] [0,9]) (.own 2 none 1)) .ret)) (zK [8] .skip))) (zQ (zE [zk 3 1] (zP 0 (zQ (zQ (zr [zm 10 3,zm 11 0,zn 12 11,zb 13 .lss 10 12] [12,11,10]) (zC 13 (zK [13] .skip) (zK [3,13] (.exit 0)))) (zQ (.block 1 (zQ (zR (zq (zm 16 0) (zq (zm 17 3) (zq (zi 18 16 17 1) (zq (zl 19 18) (zq (zm 20 0) (zq (zm 21 3) (zq (zj 22 .sub 21 1) (zq (zi 23 20 22 1) (zq (zl 24 23) (zq (zb 25 .eql 19 24) (.done false))))))))))) [24,23,22,21,20,19,18,17,16]) (zC 25 (zK [25] (zQ (zr [zm 26 0,zm 27 3,zo 28 (.slc (zt 26) (some (zt 27)) none 1),zm 4 28] [28,27,26]) (zQ (zE [zk 5 1] (zP 2 (zQ (zQ (zr [zm 29 5,zm 30 4,zn 31 30,zb 32 .lss 29 31] [31,30,29]) (zC 32 (zK [32] .skip) (zK [4,5,32] (.exit 2)))) (zQ (.block 3 (zQ (zR (zq (zm 35 4) (zq (zm 36 5) (zq (zi 37 35 36 1) (zq (zl 38 37) (zq (zm 39 4) (zq (zm 40 5) (zq (zj 41 .sub 40 1) (zq (zi 42 39 41 1) (zq (zl 43 42) (zq (zb 44 .neq 38 43) (.done false))))))))))) [43,42,41,40,39,38,37,36,35]) (zC 44 (zK [44] (zQ (zr [zm 45 0,zm 46 3,zm 47 4,zm 48 5,zi 49 47 48 1,zl 50 49,zi 51 45 46 1,zs (.st 1 (zt 51) (zt 50))] [51,50,49,48,47,46,45]) (zr [zm 52 3,zj 53 .add 52 1,zm 3 53] [53,52]))) (zK [44] .skip)))) (zr [zm 33 5,zj 34 .add 33 1,zm 5 34] [34,33]))))) (zQ (zr [zm 54 0,zm 55 3,zo 56 (.slc (zt 54) (some (zt 55)) none 1),zs (.clr (zt 56) 1 [z0])] [56,55,54]) (zQ (zQ (zr [zm 57 0,zm 58 3,zo 59 (.slc (zt 57) none (some (zt 58)) 1),zm 2 59] [0,3,59,58,57]) (.own 2 none 1)) .ret))))) (zK [25] .skip)))) (zr [zm 14 3,zj 15 .add 14 1,zm 3 15] [15,14]))))) (zQ (zQ (zr [zm 60 0,zm 2 60] [0,60]) (.own 2 none 1)) .ret)))⟩
theorem rZ:aB prog iH [(2,none,1)]=some mL:=by kernel_rfl
def sL:HFun:=⟨9,[(2,none)],zQ (zr [zN 2] [2]) (zQ (zr [zm 4 0,zc 5 lP [zt 4],zm 3 5] [0,5,4]) (zQ (zr [zm 6 3,zc 7 kE [zt 6]] [7,6]) (zQ (zr [zm 8 3,zm 2 8] [3,8]) .ret)))⟩
theorem aAi:aB prog mN []=some sL:=by kernel_rfl
def nE:HFun:=⟨4,[(2,none)],zQ (zr [zo 1 (.box (zt 0)),zo 2 (.mov (.const .nilFunc))] [0,2]) (zQ (zr [zo 3 (.clo bH [zt 1]),zm 2 3] [1,3]) .ret)⟩
theorem sV:aB prog iY []=some nE:=by kernel_rfl
def aCO:HFun:=⟨32,[(4,none),(5,none)],zQ (zr [zN 4,zk 5 0] [5,4]) (zQ (zE [zN 6] (.own 6 none 1)) (zQ (zQ (zr [zm 11 1,zn 12 11,zk 13 0] [1]) (zP 0 (zE [zb 14 .lss 13 12] (zQ (zC 14 (zK [14] .skip) (zK [11,13,12,0,14] (.exit 0))) (zQ (.block 1 (zQ (zr [zi 15 11 13 1,zl 16 15,zm 8 16] [16,15]) (zQ (zr [zm 18 0,zm 19 8,zc 20 kD [zt 18,zt 19],zm 17 20,ze 21 17 0,ze 22 17 1,zo 9 (.alloc [z0,z0,zU,zU,zU]),zs (.st 5 (zt 9) (zt 21)),zm 10 22] [8,22,21,17,20,19,18]) (zQ (zQ (zr [zm 23 10,zo 24 (.un .not (zt 23))] [10,23]) (zC 24 (zK [6,9,12,11,0,13,24] (zQ (zE [zN 4,zk 5 17] (.own 4 none 1)) .ret)) (zK [24] .skip))) (zQ (zr [zm 25 6,zf 26 9 3,zl 27 26,zo 28 (.bsl 1 [zU] [(0,(1,zt 27))] 1),zo 29 (.app (zt 25) (zt 28) 1 8),zm 6 29] [9,29,28,27,26,25]) (.own 6 none 1)))))) (zr [zj 30 .add 13 1,zm 13 30] [30])))))) (zQ (zQ (zr [zm 31 6,zm 4 31,zk 5 0] [6,31]) (.own 4 none 1)) .ret)))⟩
theorem aG2:aB prog qN [(4,none,1),(6,none,1)]=some aCO:=by kernel_rfl
def iS:HFun:=⟨4,[(2,none)],zQ (zr [zo 1 (.box (zt 0)),zo 2 (.mov (.const .nilFunc))] [0,2]) (zQ (zr [zo 3 (.clo dF [zt 1]),zm 2 3] [1,3]) .ret)⟩
theorem nF:aB prog dX []=some iS:=by kernel_rfl
def iA:HFun:=⟨8,[(2,none)],zQ (zr [zN 2] [2]) (zQ (zQ (zr [zm 3 0,zo 4 (.nilS false 1 (zt 3))] [3]) (zC 4 (zK [0,4] (zQ (zE [zN 2] (.own 2 none 5)) .ret)) (zK [4] .skip))) (zQ (zQ (zr [zo 5 (.bsl 5 [] [] 0),zm 6 0,zo 7 (.app (zt 5) (zt 6) 5 40),zm 2 7] [0,7,6,5]) (.own 2 none 5)) .ret))⟩
theorem mP:aB prog dM [(2,none,5)]=some iA:=by kernel_rfl
def aCP:HFun:=⟨10,[(4,none)],zQ (zr [zo 2 (.box (zt 0)),zo 3 (.box (zt 1)),zk 4 0] [0,1,4]) (zQ (zr [zf 5 2 0,zl 6 5,zf 7 3 0,zl 8 7,zb 9 .sub 6 8,zm 4 9] [2,3,9,8,7,6,5]) .ret)⟩
theorem aG3:aB prog nB []=some aCP:=by kernel_rfl
def aCQ:HFun:=⟨72,[(2,some (some 27))],zQ (zr [zo 1 (.box (zt 0)),zo 2 (.alloc [z0,z0,z0,z0,zS,z0,z0,z0,z0,zS,z0,z0,zU,z0,zS,zS,z0,z0,zU,zS,z0,z0,zS,zU,zS,zU,zU])] [0]) (zQ (zR (zq (zf 5 1 4) (zq (zl 6 5) (zq (zf 8 1 14) (zq (zl 9 8) (zq (zf 11 1 15) (zq (zl 12 11) (zq (zf 14 1 19) (zq (zl 15 14) (zq (zf 17 1 22) (zq (zl 18 17) (zA (zc 7 bB [zt 6]) [zl 18 17,zf 17 1 22,zl 15 14,zf 14 1 19,zl 12 11,zf 11 1 15,zl 9 8,zf 8 1 14] (zq (zf 20 1 4) (zA (zc 10 cT [zt 9]) [zf 20 1 4,zl 18 17,zf 17 1 22,zl 15 14,zf 14 1 19,zl 12 11,zf 11 1 15] (zA (zc 13 cW [zt 12]) [zf 20 1 4,zl 18 17,zf 17 1 22,zl 15 14,zf 14 1 19] (zA (zc 16 fL [zt 15]) [zf 20 1 4,zl 18 17,zf 17 1 22] (zA (zc 19 bG [zt 18]) [zf 20 1 4] (zA (zs (.st 1 (zt 20) (zt 7))) [] (zq (zf 21 1 14) (zA (zs (.st 1 (zt 21) (zt 10))) [] (zq (zf 22 1 15) (zA (zs (.st 1 (zt 22) (zt 13))) [] (zq (zf 23 1 19) (zA (zs (.st 1 (zt 23) (zt 16))) [] (zq (zf 24 1 22) (zA (zs (.st 1 (zt 24) (zt 19))) [] (.done false) .no)) .no)) .no)) .no)) .no) .no) .no) .no) .no)) .no))))))))))) [24,23,22,21,20,19,18,17,16,15,14,13,12,11,10,9,8,7,6,5]) (zQ (zR (zq (zf 25 1 9) (zq (zl 26 25) (zq (zf 28 1 24) (zq (zl 29 28) (zA (zc 27 dN [zt 26]) [zl 29 28,zf 28 1 24] (zq (zf 31 1 9) (zA (zc 30 cP [zt 29]) [zf 31 1 9] (zA (zs (.st 1 (zt 31) (zt 27))) [] (zq (zf 32 1 24) (zA (zs (.st 1 (zt 32) (zt 30))) [] (.done false) .no)) .no) .no)) .no))))) [32,31,30,29,28,27,26,25]) (zQ (zQ (zr [zf 33 1 9,zl 34 33,zn 35 34,zk 36 0] [34,33]) (zP 0 (zE [zb 37 .lss 36 35] (zQ (zC 37 (zK [37] .skip) (zK [36,35,37] (.exit 0))) (zQ (.block 1 (zQ (zr [zm 38 36,zm 3 38] [38]) (zR (zq (zf 39 1 9) (zq (zl 40 39) (zq (zm 41 3) (zq (zf 42 1 9) (zq (zl 43 42) (zq (zm 44 3) (zq (zi 45 43 44 2) (zq (zf 46 45 1) (zq (zl 47 46) (zA (zc 48 bG [zt 47]) [zm 41 3,zl 40 39,zf 39 1 9] (zq (zi 49 40 41 2) (zq (zf 50 49 1) (zA (zs (.st 1 (zt 50) (zt 48))) [] (.done false) .no))) .no)))))))))) [3,50,49,48,47,46,45,44,43,42,41,40,39]))) (zr [zj 51 .add 36 1,zm 36 51] [51])))))) (zQ (zQ (zr [zf 52 1 24,zl 53 52,zn 54 53,zk 55 0] [53,52]) (zP 2 (zE [zb 56 .lss 55 54] (zQ (zC 56 (zK [56] .skip) (zK [55,54,56] (.exit 2))) (zQ (.block 3 (zQ (zr [zm 57 55,zm 4 57] [57]) (zR (zq (zf 58 1 24) (zq (zl 59 58) (zq (zm 60 4) (zq (zf 61 1 24) (zq (zl 62 61) (zq (zm 63 4) (zq (zi 64 62 63 4) (zq (zf 65 64 3) (zq (zl 66 65) (zA (zc 67 cT [zt 66]) [zm 60 4,zl 59 58,zf 58 1 24] (zq (zi 68 59 60 4) (zq (zf 69 68 3) (zA (zs (.st 1 (zt 69) (zt 67))) [] (.done false) .no))) .no)))))))))) [4,69,68,67,66,65,64,63,62,61,60,59,58]))) (zr [zj 70 .add 55 1,zm 55 70] [70])))))) (zQ (zr [zv 71 27 1,zs (.st 27 (zt 2) (zt 71))] [1,71]) .ret)))))⟩
theorem aG4:aB prog nC []=some aCQ:=by kernel_rfl
def uI:HFun:=⟨24,[(4,some (some 5)),(5,none)],zQ (zr [zo 4 (.alloc [z0,z0,zU,zU,zU]),zo 5 (.mov zF)] [5]) (zQ (zQ (zr [zm 8 0,zo 9 (.nilc (zt 8)),zf 10 9 0,zl 11 10,zn 12 11,zk 13 0] [0,10,9,8]) (zP 0 (zE [zb 14 .lss 13 12] (zQ (zC 14 (zK [14] .skip) (zK [11,13,12,1,14] (.exit 0))) (zQ (.block 1 (zQ (zr [zi 15 11 13 5,zv 16 5 15,zo 7 (.alloc [z0,z0,zU,zU,zU]),zs (.st 5 (zt 7) (zt 16))] [16,15]) (zQ (zr [zf 17 7 0,zl 18 17,zm 19 1,zb 20 .eql 18 19] [19,18,17]) (zC 20 (zK [13,1,11,12,20] (zQ (zr [zv 21 5 7,zs (.st 5 (zt 4) (zt 21)),zo 5 (.mov zT)] [7,21]) .ret)) (zK [7,20] .skip))))) (zr [zj 22 .add 13 1,zm 13 22] [22])))))) (zQ (zr [zo 23 (.bld [z0,z0,zU,zU,zU] []),zs (.st 5 (zt 4) (zt 23)),zo 5 (.mov zF)] [23]) .ret))⟩
theorem aAO:aB prog kD []=some uI:=by kernel_rfl
def sM:HFun:=⟨10,[(4,none)],zQ (zr [zo 2 (.box (zt 0)),zo 3 (.box (zt 1)),zN 4] [0,1,4]) (zQ (zr [zf 5 3 4,zl 6 5,zc 7 bB [zt 6],zo 8 (.clo bX [zt 2]),zc 9 bW [zt 7,zt 8],zm 4 9] [3,2,9,8,7,6,5]) .ret)⟩
theorem aAj:aB prog jC []=some sM:=by kernel_rfl
def aAF:HFun:=⟨16,[],zR (zq (zm 4 0) (zq (zm 5 1) (zq (zj 6 .quo 5 64) (zq (zo 7 (.nilc (zt 4))) (zq (zo 8 (.iadA (zt 7) (zt 6) 4 1)) (zq (zl 9 8) (zq (zm 10 1) (zq (zj 11 .rem 10 64) (zq (zo 12 (.bin .shl (zu 1) (zt 11))) (zq (zb 13 .or 9 12) (zq (zo 14 (.nilc (zt 4))) (zq (zo 15 (.iadA (zt 14) (zt 6) 4 1)) (zA (zs (.st 1 (zt 15) (zt 13))) [] (.done false) .no))))))))))))) [0,1,15,14,13,12,11,10,9,8,7,6,5,4]⟩
theorem aDB:aB prog rS []=some aAF:=by kernel_rfl
def yD:HFun:=⟨20,[],zQ (zr [zo 3 (.box (zt 1))] [1]) (zE [zk 5 0] (zP 0 (zE [zj 6 .lss 5 4] (zQ (zC 6 (zK [6] .skip) (zK [5,3,0,6] (.exit 0))) (zQ (.block 1 (zQ (zr [zm 7 5,zm 4 7] [7]) (zR (zq (zm 8 0) (zq (zm 9 4) (zq (zo 10 (.nilc (zt 8))) (zq (zo 11 (.iadA (zt 10) (zt 9) 4 1)) (zq (zl 12 11) (zq (zm 13 4) (zq (zo 14 (.iadA (zt 3) (zt 13) 4 1)) (zq (zl 15 14) (zq (zb 16 .or 12 15) (zq (zo 17 (.nilc (zt 8))) (zq (zo 18 (.iadA (zt 17) (zt 9) 4 1)) (zA (zs (.st 1 (zt 18) (zt 16))) [] (.done false) .no)))))))))))) [4,18,17,16,15,14,13,12,11,10,9,8]))) (zr [zj 19 .add 5 1,zm 5 19] [19]))))))⟩
theorem aCq:aB prog jE []=some yD:=by kernel_rfl
def aAG:HFun:=⟨16,[(4,none)],zQ (zr [zo 4 (.mov zF)] [4]) (zQ (zr [zm 5 0,zm 6 1,zj 7 .quo 6 64,zo 8 (.nilc (zt 5)),zo 9 (.iadA (zt 8) (zt 7) 4 1),zl 10 9,zm 11 1,zj 12 .rem 11 64,zb 13 .shr 10 12,zo 14 (.bin .and (zt 13) (zu 1)),zo 15 (.bin .eql (zt 14) (zu 1)),zm 4 15] [0,1,15,14,13,12,11,10,9,8,7,6,5]) .ret)⟩
theorem aDC:aB prog rT []=some aAG:=by kernel_rfl
def oH:HFun:=⟨5,[(2,none)],zQ (zr [zN 2] [2]) (zQ (zr [zm 3 0,zc 4 dO [.const (zS),zt 3],zm 2 4] [0,4,3]) .ret)⟩
theorem uJ:aB prog jF []=some oH:=by kernel_rfl
def rM:HFun:=⟨5,[(2,none)],zQ (zr [zN 2] [2]) (zQ (zr [zm 3 0,zc 4 gA [.const (zS),zt 3],zm 2 4] [0,4,3]) .ret)⟩
theorem yE:aB prog lP []=some rM:=by kernel_rfl
def lR:HFun:=⟨16,[],zQ (zr [zl 5 1,zn 6 5,zk 7 0] [1]) (zP 0 (zE [zb 8 .lss 7 6] (zQ (zC 8 (zK [8] .skip) (zK [5,7,6,0,8] (.exit 0))) (zQ (.block 1 (zQ (zr [zi 9 5 7 1,zl 10 9,zm 4 10] [10,9]) (zQ (zr [zm 11 0,zm 12 4,zo 13 (.call (zt 11) [zt 12]),zo 14 (.un .not (zt 13))] [4,13,12,11]) (zC 14 (zK [7,0,5,6,14] .ret) (zK [14] .skip))))) (zr [zj 15 .add 7 1,zm 7 15] [15])))))⟩
theorem jX:aB prog bH []=some lR:=by kernel_rfl
def gS:HFun:=⟨19,[],zQ (zr [zl 4 1,zn 5 4,zj 6 .sub 5 1,zm 3 6] [6,5,4]) (zP 0 (zQ (zQ (zr [zm 7 3,zj 8 .geq 7 0] [7]) (zC 8 (zK [8] .skip) (zK [0,3,1,8] (.exit 0)))) (zQ (.block 1 (zQ (zr [zm 11 0,zm 12 3,zl 13 1,zm 14 3,zi 15 13 14 1,zl 16 15,zo 17 (.call (zt 11) [zt 12,zt 16]),zo 18 (.un .not (zt 17))] [17,16,15,14,13,12,11]) (zC 18 (zK [3,1,0,18] .ret) (zK [18] .skip)))) (zr [zm 9 3,zj 10 .sub 9 1,zm 3 10] [10,9]))))⟩
theorem fO:aB prog dF []=some gS:=by kernel_rfl
def iB:HFun:=⟨8,[(2,none)],zQ (zr [zN 2] [2]) (zQ (zQ (zr [zm 3 0,zo 4 (.nilS false 1 (zt 3))] [3]) (zC 4 (zK [0,4] (zQ (zE [zN 2] (.own 2 none 2)) .ret)) (zK [4] .skip))) (zQ (zQ (zr [zo 5 (.bsl 2 [] [] 0),zm 6 0,zo 7 (.app (zt 5) (zt 6) 2 32),zm 2 7] [0,7,6,5]) (.own 2 none 2)) .ret))⟩
theorem mQ:aB prog dN [(2,none,2)]=some iB:=by kernel_rfl
def fP:HFun:=⟨8,[(2,none)],zQ (zr [zN 2] [2]) (zQ (zQ (zr [zm 3 0,zo 4 (.nilS false 1 (zt 3))] [3]) (zC 4 (zK [0,4] (zQ (zE [zN 2] (.own 2 none 4)) .ret)) (zK [4] .skip))) (zQ (zQ (zr [zo 5 (.bsl 4 [] [] 0),zm 6 0,zo 7 (.app (zt 5) (zt 6) 4 48),zm 2 7] [0,7,6,5]) (.own 2 none 4)) .ret))⟩
theorem kU:aB prog cP [(2,none,4)]=some fP:=by kernel_rfl
def pX:HFun:=⟨16,[(3,none)],zQ (zr [zo 2 (.box (zt 0)),zo 3 (.mov zF)] [0,3]) (zQ (zR (zq (zl 7 1) (zq (zo 8 (.nilc (zt 7))) (zq (zf 9 8 1) (zq (zl 10 9) (zq (zv 11 3 2) (zq (zo 12 (.lku true [.int .i64,.int .i64,.int .u64] (z0) (zt 10) (zt 11) true)) (zq (zm 6 12) (zq (ze 13 6 0) (zq (ze 14 6 1) (zq (zm 4 13) (zq (zm 5 14) (.done false)))))))))))) [1,2,4,14,13,6,12,11,10,9,8,7]) (zQ (zr [zm 15 5,zm 3 15] [5,15]) .ret))⟩
theorem xA:aB prog bX []=some pX:=by kernel_rfl
def iC:HFun:=⟨13,[(4,none)],zQ (zQ (zr [zo 2 (.box (zt 0)),zN 4] [0]) (.own 2 (some 0) 1)) (zQ (zQ (zr [zm 6 1] [1]) (.block 0 (.rng (zt 6) [7] [2] (zr [zm 5 7] [7]) (.block 1 (zr [zl 8 2,zm 9 5,zo 10 (.bsl 1 [zU] [(0,(1,zt 9))] 1),zo 11 (.app (zt 8) (zt 10) 1 8),zs (.st 1 (zt 2) (zt 11))] [2,5,11,10,9,8]))))) (zQ (zr [zl 12 2,zm 4 12] [2,12]) .ret))⟩
theorem mR:aB prog dO [(2,some 0,1)]=some iC:=by kernel_rfl
def aBD:HFun:=⟨17,[(4,none)],zQ (zr [zo 4 (.mov zF)] [4]) (zQ (zr [zm 5 0,zc 6 fT [zt 5],zm 7 6,zh 8 1 7 true,zg 9 (.call (.func fT) [zt 8]) 7 true,zg 10 (.un .not (zt 9)) 7 true,zo 11 (.pick (zt 7) (zt 10) zF),zm 12 11,zh 13 0 12 false,zh 14 1 12 false,zg 15 (.bin .lss (zt 13) (zt 14)) 12 false,zo 16 (.pick (zt 12) zT (zt 15)),zm 4 16] [0,1,16,15,14,13,12,11,10,9,8,7,6,5]) .ret)⟩
theorem aER:aB prog pG []=some aBD:=by kernel_rfl
def fH:HFun:=⟨9,[(4,none)],zQ (zr [zo 4 (.mov zF)] [4]) (zQ (zr [zm 5 0,zm 6 1,zc 7 dA [zt 5,zt 6],zj 8 .geq 7 0,zm 4 8] [0,1,8,7,6,5]) .ret)⟩
theorem kO:aB prog cK []=some fH:=by kernel_rfl
def jP:HFun:=⟨9,[(4,none)],zQ (zr [zo 4 (.mov zF)] [4]) (zQ (zr [zm 5 0,zm 6 1,zc 7 gC [zt 5,zt 6],zj 8 .geq 7 0,zm 4 8] [0,1,8,7,6,5]) .ret)⟩
theorem oO:aB prog fA []=some jP:=by kernel_rfl
def eC:HFun:=⟨9,[(4,none)],zQ (zr [zo 4 (.mov zF)] [4]) (zQ (zr [zm 5 0,zm 6 1,zc 7 aY [zt 5,zt 6],zj 8 .geq 7 0,zm 4 8] [0,1,8,7,6,5]) .ret)⟩
theorem jB:aB prog bO []=some eC:=by kernel_rfl
def eO:HFun:=⟨9,[(4,none)],zQ (zr [zo 4 (.mov zF)] [4]) (zQ (zr [zm 5 0,zm 6 1,zc 7 cQ [zt 5,zt 6],zj 8 .geq 7 0,zm 4 8] [0,1,8,7,6,5]) .ret)⟩
theorem jT:aB prog bY []=some eO:=by kernel_rfl
def dL:HFun:=⟨9,[(4,none)],zQ (zr [zo 4 (.mov zF)] [4]) (zQ (zr [zm 5 0,zm 6 1,zc 7 bS [zt 5,zt 6],zj 8 .geq 7 0,zm 4 8] [0,1,8,7,6,5]) .ret)⟩
theorem iT:aB prog bI []=some dL:=by kernel_rfl
def gJ:HFun:=⟨19,[(4,none)],zQ (zr [zk 4 0] [4]) (zQ (zQ (zr [zm 6 0,zn 7 6,zk 8 0] [6]) (zP 0 (zE [zb 9 .lss 8 7] (zQ (zC 9 (zK [9] .skip) (zK [8,7,0,1,9] (.exit 0))) (zQ (.block 1 (zQ (zr [zm 10 8,zm 5 10] [10]) (zQ (zr [zm 11 1,zm 12 0,zm 13 5,zi 14 12 13 4,zv 15 4 14,zo 16 (.call (zt 11) [zt 15])] [15,14,13,12,11]) (zC 16 (zK [8,1,0,7,16] (zQ (zr [zm 17 5,zm 4 17] [5,17]) .ret)) (zK [5,16] .skip))))) (zr [zj 18 .add 8 1,zm 8 18] [18])))))) (zE [zk 4 (-1)] .ret))⟩
theorem lS:aB prog dA []=some gJ:=by kernel_rfl
def lD:HFun:=⟨19,[(4,none)],zQ (zr [zk 4 0] [4]) (zQ (zQ (zr [zm 6 0,zn 7 6,zk 8 0] [6]) (zP 0 (zE [zb 9 .lss 8 7] (zQ (zC 9 (zK [9] .skip) (zK [8,7,0,1,9] (.exit 0))) (zQ (.block 1 (zQ (zr [zm 10 8,zm 5 10] [10]) (zQ (zr [zm 11 1,zm 12 0,zm 13 5,zi 14 12 13 1,zl 15 14,zo 16 (.call (zt 11) [zt 15])] [15,14,13,12,11]) (zC 16 (zK [8,1,0,7,16] (zQ (zr [zm 17 5,zm 4 17] [5,17]) .ret)) (zK [5,16] .skip))))) (zr [zj 18 .add 8 1,zm 8 18] [18])))))) (zE [zk 4 (-1)] .ret))⟩
theorem qG:aB prog gC []=some lD:=by kernel_rfl
def fQ:HFun:=⟨19,[(4,none)],zQ (zr [zk 4 0] [4]) (zQ (zQ (zr [zm 6 0,zn 7 6,zk 8 0] [6]) (zP 0 (zE [zb 9 .lss 8 7] (zQ (zC 9 (zK [9] .skip) (zK [8,7,0,1,9] (.exit 0))) (zQ (.block 1 (zQ (zr [zm 10 8,zm 5 10] [10]) (zQ (zr [zm 11 1,zm 12 0,zm 13 5,zi 14 12 13 2,zv 15 2 14,zo 16 (.call (zt 11) [zt 15])] [15,14,13,12,11]) (zC 16 (zK [8,1,0,7,16] (zQ (zr [zm 17 5,zm 4 17] [5,17]) .ret)) (zK [5,16] .skip))))) (zr [zj 18 .add 8 1,zm 8 18] [18])))))) (zE [zk 4 (-1)] .ret))⟩
theorem kV:aB prog cQ []=some fQ:=by kernel_rfl
def eH:HFun:=⟨19,[(4,none)],zQ (zr [zk 4 0] [4]) (zQ (zQ (zr [zm 6 0,zn 7 6,zk 8 0] [6]) (zP 0 (zE [zb 9 .lss 8 7] (zQ (zC 9 (zK [9] .skip) (zK [8,7,0,1,9] (.exit 0))) (zQ (.block 1 (zQ (zr [zm 10 8,zm 5 10] [10]) (zQ (zr [zm 11 1,zm 12 0,zm 13 5,zi 14 12 13 4,zv 15 4 14,zo 16 (.call (zt 11) [zt 15])] [15,14,13,12,11]) (zC 16 (zK [8,1,0,7,16] (zQ (zr [zm 17 5,zm 4 17] [5,17]) .ret)) (zK [5,16] .skip))))) (zr [zj 18 .add 8 1,zm 8 18] [18])))))) (zE [zk 4 (-1)] .ret))⟩
theorem jQ:aB prog bS []=some eH:=by kernel_rfl
def mM:HFun:=⟨8,[(2,none)],zQ (zr [zN 2] [2]) (zQ (zQ (zr [zm 3 0,zo 4 (.nilS false 1 (zt 3))] [3]) (zC 4 (zK [0,4] (zQ (zE [zN 2] (.own 2 none 1)) .ret)) (zK [4] .skip))) (zQ (zQ (zr [zo 5 (.bsl 1 [] [] 0),zm 6 0,zo 7 (.app (zt 5) (zt 6) 1 1),zm 2 7] [0,7,6,5]) (.own 2 none 1)) .ret))⟩
theorem sA:aB prog cT [(2,none,1)]=some mM:=by kernel_rfl
def oI:HFun:=⟨8,[(2,none)],zQ (zr [zN 2] [2]) (zQ (zQ (zr [zm 3 0,zo 4 (.nilS false 1 (zt 3))] [3]) (zC 4 (zK [0,4] (zQ (zE [zN 2] (.own 2 none 1)) .ret)) (zK [4] .skip))) (zQ (zQ (zr [zo 5 (.bsl 1 [] [] 0),zm 6 0,zo 7 (.app (zt 5) (zt 6) 1 8),zm 2 7] [0,7,6,5]) (.own 2 none 1)) .ret))⟩
theorem uK:aB prog fL [(2,none,1)]=some oI:=by kernel_rfl
def jA:HFun:=⟨8,[(2,none)],zQ (zr [zN 2] [2]) (zQ (zQ (zr [zm 3 0,zo 4 (.nilS false 1 (zt 3))] [3]) (zC 4 (zK [0,4] (zQ (zE [zN 2] (.own 2 none 4)) .ret)) (zK [4] .skip))) (zQ (zQ (zr [zo 5 (.bsl 4 [] [] 0),zm 6 0,zo 7 (.app (zt 5) (zt 6) 4 32),zm 2 7] [0,7,6,5]) (.own 2 none 4)) .ret))⟩
theorem nT:aB prog bG [(2,none,4)]=some jA:=by kernel_rfl
def wC:HFun:=⟨234,[(4,none)],zQ (zr [zo 3 (.box (zt 1)),zk 4 0] [1,4]) (zQ (zQ (zr [zv 23 27 3,zc 24 aDh [zt 23],zm 5 24] [24,23]) (zQ (zr [zm 25 5,zj 26 .neq 25 0] [25]) (zC 26 (zK [3,0,26] (zQ (zr [zm 27 5,zm 4 27] [5,27]) .ret)) (zK [5,26] .skip)))) (zQ (zR (zq (zv 28 27 3) (zq (zv 30 27 3) (zA (zc 29 nC [zt 28]) [zv 30 27 3] (zA (zc 31 aEi [zt 30]) [] (zq (zo 32 (.bld [z0,z0,z0,z0,zS,z0,z0,z0,z0,zS,z0,z0,zU,z0,zS,zS,z0,z0,zU,zS,z0,z0,zS,zU,zS,zU,zU,z0,z0,zU,zU,zU,zU,zU,z0] [(0,(27,zt 29)),(27,(3,zt 31)),(34,(1,zw 1))])) (zA (zo 6 (.alloc [z0,z0,z0,z0,zS,z0,z0,z0,z0,zS,z0,z0,zU,z0,zS,zS,z0,z0,zU,zS,z0,z0,zS,zU,zS,zU,zU,z0,z0,zU,zU,zU,zU,zU,z0])) [zo 32 (.bld [z0,z0,z0,z0,zS,z0,z0,z0,z0,zS,z0,z0,zU,z0,zS,zS,z0,z0,zU,zS,z0,z0,zS,zU,zS,zU,zU,z0,z0,zU,zU,zU,zU,zU,z0] [(0,(27,zt 29)),(27,(3,zt 31)),(34,(1,zw 1))])] (zA (zs (.st 35 (zt 6) (zt 32))) [] (.done true) .no) .no)) (zA (zo 6 (.alloc [z0,z0,z0,z0,zS,z0,z0,z0,z0,zS,z0,z0,zU,z0,zS,zS,z0,z0,zU,zS,z0,z0,zS,zU,zS,zU,zU,z0,z0,zU,zU,zU,zU,zU,z0])) [zv 30 27 3] (zA (zc 31 aEi [zt 30]) [] (zq (zo 32 (.bld [z0,z0,z0,z0,zS,z0,z0,z0,z0,zS,z0,z0,zU,z0,zS,zS,z0,z0,zU,zS,z0,z0,zS,zU,zS,zU,zU,z0,z0,zU,zU,zU,zU,zU,z0] [(0,(27,zt 29)),(27,(3,zt 31)),(34,(1,zw 1))])) (zA (zs (.st 35 (zt 6) (zt 32))) [] (.done true) .no)) .no) .no)) (zA (zo 6 (.alloc [z0,z0,z0,z0,zS,z0,z0,z0,z0,zS,z0,z0,zU,z0,zS,zS,z0,z0,zU,zS,z0,z0,zS,zU,zS,zU,zU,z0,z0,zU,zU,zU,zU,zU,z0])) [zv 30 27 3,zv 28 27 3] (zA (zc 29 nC [zt 28]) [zv 30 27 3] (zA (zc 31 aEi [zt 30]) [] (zq (zo 32 (.bld [z0,z0,z0,z0,zS,z0,z0,z0,z0,zS,z0,z0,zU,z0,zS,zS,z0,z0,zU,zS,z0,z0,zS,zU,zS,zU,zU,z0,z0,zU,zU,zU,zU,zU,z0] [(0,(27,zt 29)),(27,(3,zt 31)),(34,(1,zw 1))])) (zA (zs (.st 35 (zt 6) (zt 32))) [] (.done true) .no)) .no) .no) .no)))) [32,31,30,29,28]) (zQ (zQ (zR (zq (zm 34 0) (zq (zo 35 (.nilc (zt 34))) (zq (zf 36 35 1) (zq (zl 37 36) (zq (zf 38 6 27) (zq (zv 39 3 38) (zq (zo 40 (.lku true [.int .i64,.int .i64,.int .u64] (z0) (zt 37) (zt 39) true)) (zq (zm 33 40) (zq (ze 41 33 0) (zq (ze 42 33 1) (zq (zm 7 41) (zq (zm 8 42) (.done false))))))))))))) [7,42,41,33,40,39,38,37,36,35,34]) (zQ (zr [zm 43 8] [8]) (zC 43 (zK [0,3,6,43] (zE [zk 4 5] .ret)) (zK [43] .skip)))) (zQ (zQ (zr [zm 44 0,zo 45 (.nilc (zt 44)),zf 46 45 2,zl 47 46,zn 48 47,zj 49 .geq 48 200] [48,47,46,45,44]) (zC 49 (zK [0,3,6,49] (zE [zk 4 3] .ret)) (zK [49] .skip))) (zQ (zr [zm 51 0,zf 52 3 0,zl 53 52,zc 54 kD [zt 51,zt 53],zm 50 54,ze 55 50 0,ze 56 50 1,zo 9 (.alloc [z0,z0,zU,zU,zU]),zs (.st 5 (zt 9) (zt 55)),zm 10 56] [56,55,50,54,53,52,51]) (zQ (zQ (zr [zm 57 10,zo 58 (.un .not (zt 57))] [10,57]) (zC 58 (zK [9,3,0,6,58] (zE [zk 4 17] .ret)) (zK [58] .skip))) (zQ (zQ (zr [zv 59 5 9,zv 60 27 3,zc 61 aB7 [zt 59,zt 60],zo 62 (.un .not (zt 61))] [9,61,60,59]) (zC 62 (zK [3,0,6,62] (zE [zk 4 12] .ret)) (zK [62] .skip))) (zQ (zQ (zr [zf 63 3 2,zl 64 63,zj 65 .eql 64 1,zm 66 65,zh 67 0 66 true,zg 68 (.nilc (zt 67)) 66 true,zg 69 (.fad (zt 68) 2) 66 true,zg 70 (.ld none (zt 69)) 66 true,zg 71 (.lenL (zt 70)) 66 true,zg 72 (.bin .gtr (zt 71) (zw 0)) 66 true,zo 73 (.pick (zt 66) (zt 72) zF)] [72,71,70,69,68,67,66,65,64,63]) (zC 73 (zK [0,3,6,73] (zE [zk 4 1] .ret)) (zK [73] .skip))) (zQ (zQ (zr [zm 74 0,zv 75 27 3,zc 76 jC [zt 74,zt 75],zn 77 76,zj 78 .gtr 77 0] [77,76,75,74]) (zC 78 (zK [3,0,6,78] (zE [zk 4 10] .ret)) (zK [78] .skip))) (zE [zo 11 (.alloc [zU,zU,zU,zU]),zo 12 (.alloc [zU,zU,zU,zU])] (zE [zk 13 0] (zQ (zQ (zr [zf 79 3 4,zl 80 79,zn 81 80,zk 82 0] [79]) (zP 0 (zE [zb 83 .lss 82 81] (zQ (zC 83 (zK [83] .skip) (zK [80,82,81,83] (.exit 0))) (zQ (.block 1 (zQ (zr [zi 84 80 82 3,zv 85 3 84,zo 15 (.alloc [z0,z0,zU]),zs (.st 3 (zt 15) (zt 85))] [85,84]) (zQ (zR (zq (zm 86 0) (zq (zo 87 (.nilc (zt 86))) (zq (zf 88 87 2) (zq (zl 89 88) (zq (zm 90 0) (zq (zo 91 (.nilc (zt 90))) (zq (zf 92 91 1) (zq (zl 93 92) (zq (zv 94 3 15) (zq (zo 95 (.lku true [.int .i64,.int .i64,.int .u64] (z0) (zt 93) (zt 94) false)) (zq (zi 96 89 95 35) (zq (zm 16 96) (.done false))))))))))))) [96,95,94,93,92,91,90,89,88,87,86]) (zQ (zR (zq (zm 97 0) (zq (zo 98 (.nilc (zt 97))) (zq (zf 99 98 1) (zq (zl 100 99) (zq (zv 101 3 15) (zq (zo 102 (.lku true [.int .i64,.int .i64,.int .u64] (z0) (zt 100) (zt 101) false)) (zA (zc 103 rS [zt 11,zt 102]) [] (.done false) .no))))))) [15,103,102,101,100,99,98,97]) (zQ (zr [zm 104 16,zo 105 (.nilc (zt 104)),zf 106 105 30,zv 107 4 106,zc 108 jE [zt 12,zt 107]] [108,107,106,105,104]) (zQ (zr [zm 109 13,zm 110 16,zo 111 (.nilc (zt 110)),zf 112 111 0,zf 113 112 3,zl 114 113,zo 115 (.mm true (zt 109) (zt 114)),zm 13 115] [115,114,113,112,111,110,109]) (zR (zq (zf 116 6 34) (zq (zl 117 116) (zq (zm 118 16) (zq (zo 119 (.nilc (zt 118))) (zq (zf 120 119 34) (zq (zl 121 120) (zq (zj 122 .add 121 1) (zq (zo 123 (.mm true (zt 117) (zt 122))) (zq (zf 124 6 34) (zA (zs (.st 1 (zt 124) (zt 123))) [] (.done false) .no)))))))))) [16,124,123,122,121,120,119,118,117,116]))))))) (zr [zj 125 .add 82 1,zm 82 125] [125])))))) (zQ (zr [zv 126 4 11,zo 17 (.alloc [zU,zU,zU,zU]),zs (.st 4 (zt 17) (zt 126))] [126]) (zQ (zE [zk 127 0] (zP 2 (zE [zj 128 .lss 127 4] (zQ (zC 128 (zK [128] .skip) (zK [127,128] (.exit 2))) (zQ (.block 3 (zQ (zr [zm 129 127,zm 18 129] [129]) (zR (zq (zm 130 18) (zq (zo 131 (.iadA (zt 17) (zt 130) 4 1)) (zq (zl 132 131) (zq (zm 133 18) (zq (zo 134 (.iadA (zt 12) (zt 133) 4 1)) (zq (zl 135 134) (zq (zb 136 .and 132 135) (zq (zo 137 (.iadA (zt 17) (zt 130) 4 1)) (zA (zs (.st 1 (zt 137) (zt 136))) [] (.done false) .no))))))))) [18,137,136,135,134,133,132,131,130]))) (zr [zj 138 .add 127 1,zm 127 138] [138])))))) (zQ (zQ (zr [zv 139 4 17,zo 140 (.bld [zU,zU,zU,zU] []),zo 141 (.eqa true [.int .u64,.int .u64,.int .u64,.int .u64] (zt 139) (zt 140)),zm 142 141,zg 143 (.fad (zt 3) 3) 142 false,zg 144 (.ld none (zt 143)) 142 false,zh 145 13 142 false,zg 146 (.bin .lss (zt 144) (zt 145)) 142 false,zo 147 (.pick (zt 142) zT (zt 146))] [17,13,146,145,144,143,142,141,140,139]) (zC 147 (zK [12,6,0,3,11,147] (zE [zk 4 6] .ret)) (zK [147] .skip))) (zQ (zr [zv 148 4 12,zf 149 6 30,zs (.st 4 (zt 149) (zt 148))] [12,149,148]) (zQ (zr [zf 150 6 30,zv 151 4 11,zc 152 jE [zt 150,zt 151]] [11,152,151,150]) (zE [zk 19 0] (zE [zo 20 (.mov zF)] (zQ (zQ (zr [zm 153 0,zo 154 (.nilc (zt 153)),zf 155 154 2,zl 156 155,zn 157 156,zk 158 0] [156,155,154,153]) (zP 4 (zE [zb 159 .lss 158 157] (zQ (zC 159 (zK [159] .skip) (zK [158,157,159] (.exit 4))) (zQ (.block 5 (zQ (zr [zm 160 158,zm 21 160] [160]) (zQ (zr [zm 161 0,zo 162 (.nilc (zt 161)),zf 163 162 2,zl 164 163,zm 165 21,zi 166 164 165 35,zm 22 166] [166,165,164,163,162,161]) (zQ (zR (zq (zm 167 22) (zq (zo 168 (.nilc (zt 167))) (zq (zf 169 168 0) (zq (zf 170 169 0) (zq (zl 171 170) (zq (zf 172 3 0) (zq (zl 173 172) (zq (zb 174 .eql 171 173) (zq (zm 175 174) (zq (zg 176 (.fad (zt 6) 30) 175 true) (zq (zh 177 21 175 true) (zA (zg 178 (.call (.func rT) [zt 176,zt 177]) 175 true) [] (zq (zo 179 (.pick (zt 175) (zt 178) zF)) (.done false)) .no)))))))))))) [21,178,177,176,175,174,173,172,171,170,169,168,167]) (zC 179 (zK [179] (zQ (zr [zm 180 19,zm 181 22,zo 182 (.nilc (zt 181)),zf 183 182 0,zf 184 183 1,zl 185 184,zo 186 (.mm true (zt 180) (zt 185)),zm 19 186] [186,185,184,183,182,181,180]) (zR (zq (zm 187 20) (zq (zm 188 187) (zq (zh 189 22 188 false) (zq (zg 190 (.nilc (zt 189)) 188 false) (zq (zg 191 (.fad (zt 190) 0) 188 false) (zq (zg 192 (.fad (zt 191) 1) 188 false) (zq (zg 193 (.ld none (zt 192)) 188 false) (zq (zg 194 (.fad (zt 3) 1) 188 false) (zq (zg 195 (.ld none (zt 194)) 188 false) (zq (zg 196 (.bin .sub (zt 195) (zw 1)) 188 false) (zq (zg 197 (.bin .eql (zt 193) (zt 196)) 188 false) (zq (zo 198 (.pick (zt 188) zT (zt 197))) (zA (zm 20 198) [] (.done false) .no))))))))))))) [22,198,197,196,195,194,193,192,191,190,189,188,187]))) (zK [22,179] .skip)))))) (zr [zj 199 .add 158 1,zm 158 199] [199])))))) (zQ (zQ (zr [zm 200 19,zf 201 3 1,zl 202 201,zb 203 .geq 200 202,zm 204 203,zg 205 (.fad (zt 3) 1) 204 false,zg 206 (.ld none (zt 205)) 204 false,zg 207 (.bin .gtr (zt 206) (zw 1)) 204 false,zh 208 207 204 false,zh 209 20 208 true,zg 210 (.un .not (zt 209)) 208 true,zg 211 (.pick (zt 208) (zt 210) zF) 204 false,zo 212 (.pick (zt 204) zT (zt 211))] [19,3,20,211,210,209,208,207,206,205,204,203,202,201,200]) (zC 212 (zK [0,6,212] (zE [zk 4 11] .ret)) (zK [212] .skip))) (zQ (zR (zq (zm 213 0) (zq (zo 214 (.nilc (zt 213))) (zq (zf 215 214 1) (zq (zl 216 215) (zq (zf 217 6 27) (zq (zv 218 3 217) (zq (zm 219 0) (zq (zo 220 (.nilc (zt 219))) (zq (zf 221 220 2) (zq (zl 222 221) (zq (zn 223 222) (zA (zs (.mup true [.int .i64,.int .i64,.int .u64] (zt 216) (zt 218) (zt 223))) [] (.done false) .no)))))))))))) [223,222,221,220,219,218,217,216,215,214,213]) (zQ (zR (zq (zm 224 0) (zq (zm 225 0) (zq (zo 226 (.nilc (zt 225))) (zq (zf 227 226 2) (zq (zl 228 227) (zq (zv 229 35 6) (zA (zo 230 (.bsl 35 [z0,z0,z0,z0,zS,z0,z0,z0,z0,zS,z0,z0,zU,z0,zS,zS,z0,z0,zU,zS,z0,z0,zS,zU,zS,zU,zU,z0,z0,zU,zU,zU,zU,zU,z0] [(0,(35,zt 229))] 1)) [zl 228 227,zf 227 226 2,zo 226 (.nilc (zt 225)),zm 225 0,zm 224 0] (zA (zo 231 (.app (zt 228) (zt 230) 35 392)) [zm 224 0] (zq (zo 232 (.nilc (zt 224))) (zq (zf 233 232 2) (zA (zs (.st 1 (zt 233) (zt 231))) [] (.done false) .no))) .no) .no))))))) [0,6,233,232,231,230,229,228,227,226,225,224]) (zE [zk 4 0] .ret))))))))))))))))))))))))⟩
theorem aBE:aB prog oW []=some wC:=by kernel_rfl
end
section
section
variable {G:Nat->Option (List AV)}
set_option maxHeartbeats 4000000
theorem aV8 (S:ByteArray) (lab ns:List Nat) (hS:iG S=bl lab) (hs:S.size=lab.length) (hb:okB lab) (hl1:1<=lab.length) (hl:lab.length<=7) (hn:∀ n∈ns,n<18446744073709551616) (hnl:ns.length<=10000000):aD prog G wR [.v (.string S),.ls 1 (ul ns)] [] fun r T'=>r=.v (.int .u64 ((aDw lab ns:Nat):Int))/\T'=[]:=by
 refine aF aFS (by decide) ?_
 unfold aCE
 dsimp only [zj,zT,zF,zC,zE,zP,zQ,zq,zA,zm,zo,zs,zg,zh,zl,zv,zf,zi,zn,zb,zc,ze,zk,zw,zu,zt,zr,zR,zK,zN,zS,z0,zU]
 have hlt:=aEz lab ns
 have r1:aU .rem (fu (sG lab ns)) (.int .u64 2305843009213693949)=some (.int .u64 (((sG lab ns).val%2305843009213693949:Nat):Int)):=qE _ 2305843009213693949 (by decide)
 have a1:aU .add (.int .u64 1) (.int .u64 (((sG lab ns).val%2305843009213693949:Nat):Int))=some (.int .u64 ((aDw lab ns:Nat):Int)):=cY 1 _ (by unfold aDw at hlt;omega)
 simp only [go_sem,↓reduceIte]
 refine aC (aA _) rfl (aQ6 S lab ns hS hs hb hl1 hl hn hnl) rfl ?_
 simp only [go_sem,↓reduceIte,↓r1,↓a1]
theorem aV9 (b:List Nat) (hb:okB b) (hl:b.length<=1000000):aD prog G dO [.v (.slice none 0 0),.cl jG [.ptr 0 0]] [some (.box [.ls 1 (bl b)])] fun r T'=>r=.own 1/\T'=[some (.box [.ls 1 (bl b)]),some (.arr 1 (ul (dG b)))]:=by
 refine aF mR (by decide) ?_
 unfold iC
 dsimp only [zj,zT,zF,zC,zE,zP,zQ,zq,zA,zm,zo,zs,zg,zh,zl,zv,zf,zi,zn,zb,zc,ze,zk,zw,zu,zt,zr,zR,zK,zN,zS,z0,zU]
 simp only [go_sem,↓reduceIte]
 refine aJ9 rfl (pZ lC) fun r k1 k2 hy hyR=>?_
 simp only [go_sem,↓reduceIte]
 refine aA8 [0,1,2,3] (aA _) (by decide) (fun i hi=>by simp at hi ⊢;omega) rfl rfl (aF lC (by decide) ?_)
 unfold tX
 dsimp only [zj,zT,zF,zC,zE,zP,zQ,zq,zA,zm,zo,zs,zg,zh,zl,zv,zf,zi,zn,zb,zc,ze,zk,zw,zu,zt,zr,zR,zK,zN,zS,z0,zU]
 simp only [go_sem,↓reduceIte]
 refine bU (aA _) rfl (aTn _) ?_
 simp only [go_sem,↓reduceIte]
 refine aJ9 rfl (pZ cR) fun r2 q1 q2 hz hzR=>?_
 simp only [go_sem,↓reduceIte]
 refine aA8 [0,1,2,3,4,5,6,7] (aA _) (by decide) (fun i hi=>by simp at hi ⊢;omega) rfl rfl (aF cR (by decide) ?_)
 unfold gD
 dsimp only [zj,zT,zF,zC,zE,zP,zQ,zq,zA,zm,zo,zs,zg,zh,zl,zv,zf,zi,zn,zb,zc,ze,zk,zw,zu,zt,zr,zR,zK,zN,zS,z0,zU]
 simp only [go_sem,↓reduceIte]
 refine fS (fun n s=>∃ (i:Nat) (A:List Nat),n=b.length+7-i/\i<=b.length+6/\A.length<=i/\A++dG (b.drop i)=dG b/\(s=⟨8,[(0,.yl 7),(1,.ptr 5 0),(2,.ptr 6 0),(4,.v (.int .i64 (i:Int)))],[some (.box [.ls 1 (bl b)]),some (.box [.own 2]),some (.arr 1 (ul A)),some (.lp r [(2,.ptr 1 0)]),some (.box [.yl 3]),some (.box [.ls 1 (bl b)]),some (.box [.v (.int .i64 7)]),some (.lp r2 [(2,.ptr 4 0)])]⟩ \/
   s=⟨8,[(0,.yl 7),(1,.ptr 5 0),(2,.ptr 6 0),(4,.v (.int .i64 (i:Int)))],[some (.box [.ls 1 (bl b)]),some (.box [.own 8]),none,some (.lp r [(2,.ptr 1 0)]),some (.box [.yl 3]),some (.box [.ls 1 (bl b)]),some (.box [.v (.int .i64 7)]),some (.lp r2 [(2,.ptr 4 0)]),some (.arr 1 (ul A))]⟩)) (b.length+7) ⟨0,[],by omega,by omega,Nat.le_refl _,by simp,.inl ?_⟩ ?_
 ·simp only [go_sem,↓reduceIte]
 rintro n s ⟨i,A,rfl,hi,hA,hw,hsx⟩
 by_cases hlt:i<b.length
 ·obtain ⟨e,he1,he2,he3⟩:∃ e:Nat,e=min 7 (b.length-i)/\1<=e/\e<=7:=⟨min 7 (b.length-i),rfl,by omega,by omega⟩
  have hmm:(if ((b.length-i:Nat):Int)<7 then ((b.length-i:Nat):Int) else (7:Int))=(e:Int):=by split<;>omega
  have w1:IntKind.i64.wrap ((i:Int)+(e:Int))=((i+e:Nat):Int):=by rw [aM (by omega) (by omega)];omega
  have l1:i<=i+e:=by omega
  have l2:i+e<=b.length:=by omega
  have l3:¬i+e=i:=by omega
  have l4:i<=b.length:=by omega
  have l5:i+e-i=e:=by omega
  have hc1:((bl b).drop i).take e=bl ((b.drop i).take e):=by simp only [bl,List.map_drop,List.map_take]
  have hce:((b.drop i).take e).length=e:=by simp;omega
  have okc:okB ((b.drop i).take e):=pH (aEt hb i) _
  have hc7:(b.drop i).take 7=(b.drop i).take e:=by
   rcases Nat.lt_or_ge (i+7) b.length with h | h
   ·rw [show e=7 by omega]
   ·rw [List.take_of_length_le (by simp;omega),List.take_of_length_le (by simp;omega)]
  have hstep:=aBp (b:=b.drop i) (fun h=>by have:=congrArg List.length h;simp at this;omega)
  rw [hc7,List.drop_drop] at hstep
  rw [hstep] at hw
  generalize hcc:(b.drop i).take e=c at *
  have hct:c.take e=c:=List.take_of_length_le (by omega)
  have hin:∀ j,j<e->∃ x:Nat,(bl c)[j]?=some [.v (.int .u8 (x:Int))]/\IntKind.u64.wrap (x:Int)=(x:Int)/\IntKind.i64.wrap (8*(j:Int))=((8*j:Nat):Int)/\aU .shl (.int .u64 (x:Int)) (.int .i64 ((8*j:Nat):Int))=some (.int .u64 ((x*2^(8*j):Nat):Int)) /\
    aU .or (.int .u64 ((leN (c.take j):Nat):Int)) (.int .u64 ((x*2^(8*j):Nat):Int))=some (.int .u64 ((leN (c.take (j+1)):Nat):Int)):=fun j hj=>by
   have hjl:j<c.length:=by omega
   have hx:=okc c[j] (List.getElem_mem hjl)
   have hWj:=aJz (pH okc j)
   rw [List.length_take,Nat.min_eq_left (by omega)] at hWj
   have hW7:leN (c.take j)<72057594037927936:=aMX (pH okc j) (by rw [List.length_take];omega)
   have hW8:leN (c.take (j+1))<72057594037927936:=aMX (pH okc _) (by rw [List.length_take];omega)
   have hst2:=aQ4 hjl
   rw [hst2] at hW8
   refine ⟨c[j],aX U8 c j hjl,aS _ (by omega),by rw [aM (by omega) (by omega)];omega,aNa _ j (by omega) hx,?_⟩
   have ho:=aX3 (leN (c.take j)) c[j] j hWj
   have hsl:c[j]*2^(8*j)<18446744073709551616:=by
    have:256^j*c[j]=c[j]*2^(8*j):=by rw [Nat.mul_comm,show (256:Nat)^j=2^(8*j) by rw [Nat.pow_mul]]
    omega
   have or1:=aQ5 (leN (c.take j)) (c[j]*2^(8*j)) (by omega) hsl (by omega)
   rw [ho,<-hst2] at or1
   exact or1
  have b2:A.length+1<=maxLen:=by unfold maxLen;omega
  have b3:(A.length+1)*8<=140737488355328:=by omega
  have w7:IntKind.i64.wrap ((i:Int)+7)=((i+7:Nat):Int):=by rw [aM (by omega) (by omega)];omega
  have hsnoc:ul A++[[AV.v (.int .u64 ((leN c:Nat):Int))]]=ul (A++[leN c]):=by simp only [ul,List.map_append,List.map_cons,List.map_nil]
  rcases hsx with rfl | rfl
  ·simp only [go_sem,↓reduceIte,List.length_map,bQ hlt,hmm,w1,l1,l2,l3,l4,l5,hc1]
   refine hz _ _ _ _ _ rfl rfl ?_
   simp only [go_sem,↓reduceIte,List.length_map,hce]
   refine fS (fun n s=>∃ j:Nat,j<=e/\n=e-j/\s=⟨8,[(2,.ptr 4 0),(4,.v (.int .u64 ((leN (c.take j):Nat):Int))),(10,.ls 1 (bl c)),(11,.v (.int .i64 (e:Int))),(12,.v (.int .i64 (j:Int)))],[some (.box [.ls 1 (bl b)]),some (.box [.own 2]),some (.arr 1 (ul A)),some (.lp r [(2,.ptr 1 0)]),some (.box [.yl 3]),some (.box [.ls 1 (bl b)]),some (.box [.v (.int .i64 7)]),none]⟩) e ⟨0,Nat.zero_le _,rfl,?_⟩ ?_
   ·simp only [go_sem,↓reduceIte,List.take_zero,leN]
   rintro n s ⟨j,hj,rfl,rfl⟩
   by_cases hje:j<e
   ·obtain ⟨x,g0,v1,v2,sh,or1⟩:=hin j hje
    simp only [go_sem,↓reduceIte,List.length_map,bQ hje,hje,hce,g0,v1,v2,↓sh,↓or1,aH (show j<9223372036854775807 by omega)]
    exact ⟨e-(j+1),by omega,j+1,by omega,rfl,rfl⟩
   ·obtain rfl:j=e:=by omega
    rw [hct]
    simp only [go_sem,↓reduceIte,bV (Nat.lt_irrefl _)]
    refine hy _ _ _ _ _ rfl rfl ?_
    simp only [go_sem,↓reduceIte,List.length_map,b2,b3,w7]
    exact ⟨b.length+7-(i+7),by omega,i+7,A++[leN c],by omega,by omega,by simp;omega,by rw [List.append_assoc];exact hw,.inr (by rw [hsnoc])⟩
  ·simp only [go_sem,↓reduceIte,List.length_map,bQ hlt,hmm,w1,l1,l2,l3,l4,l5,hc1]
   refine hz _ _ _ _ _ rfl rfl ?_
   simp only [go_sem,↓reduceIte,List.length_map,hce]
   refine fS (fun n s=>∃ j:Nat,j<=e/\n=e-j/\s=⟨9,[(2,.ptr 4 0),(4,.v (.int .u64 ((leN (c.take j):Nat):Int))),(10,.ls 1 (bl c)),(11,.v (.int .i64 (e:Int))),(12,.v (.int .i64 (j:Int)))],[some (.box [.ls 1 (bl b)]),some (.box [.own 8]),none,some (.lp r [(2,.ptr 1 0)]),some (.box [.yl 3]),some (.box [.ls 1 (bl b)]),some (.box [.v (.int .i64 7)]),none,some (.arr 1 (ul A))]⟩) e ⟨0,Nat.zero_le _,rfl,?_⟩ ?_
   ·simp only [go_sem,↓reduceIte,List.take_zero,leN]
   rintro n s ⟨j,hj,rfl,rfl⟩
   by_cases hje:j<e
   ·obtain ⟨x,g0,v1,v2,sh,or1⟩:=hin j hje
    simp only [go_sem,↓reduceIte,List.length_map,bQ hje,hje,hce,g0,v1,v2,↓sh,↓or1,aH (show j<9223372036854775807 by omega)]
    exact ⟨e-(j+1),by omega,j+1,by omega,rfl,rfl⟩
   ·obtain rfl:j=e:=by omega
    rw [hct]
    simp only [go_sem,↓reduceIte,bV (Nat.lt_irrefl _)]
    refine hy _ _ _ _ _ rfl rfl ?_
    simp only [go_sem,↓reduceIte,List.length_map,b2,b3,w7]
    exact ⟨b.length+7-(i+7),by omega,i+7,A++[leN c],by omega,by omega,by simp;omega,by rw [List.append_assoc];exact hw,.inr (by rw [hsnoc])⟩
 ·have hnil:dG (b.drop i)=[]:=by rw [List.drop_of_length_le (by omega)];rfl
  rw [hnil,List.append_nil] at hw
  rw [<-hw]
  rcases hsx with rfl | rfl
  ·simp only [go_sem,↓reduceIte,List.length_map,bV hlt,q1,q2,k1,k2]
  ·simp only [go_sem,↓reduceIte,List.length_map,bV hlt,q1,q2,k1,k2]
theorem aVa (b:List Nat) (hb:okB b) (hl:b.length<=1000000):aD prog G jF [.cl jG [.ptr 0 0]] [some (.box [.ls 1 (bl b)])] fun r T'=>r=.own 1/\T'=[some (.box [.ls 1 (bl b)]),some (.arr 1 (ul (dG b)))]:=by
 refine aF uJ (by decide) ?_
 unfold oH
 dsimp only [zj,zT,zF,zC,zE,zP,zQ,zq,zA,zm,zo,zs,zg,zh,zl,zv,zf,zi,zn,zb,zc,ze,zk,zw,zu,zt,zr,zR,zK,zN,zS,z0,zU]
 simp only [go_sem,↓reduceIte]
 refine aG [0] (aA _) (by decide) (by simp) rfl rfl (aV9 b hb hl) ?_
 rintro r T' ⟨rfl,rfl⟩
 simp only [go_sem,↓reduceIte]
theorem aQ9 (S:ByteArray) (lab b:List Nat) (hS:iG S=bl lab) (hs:S.size=lab.length) (hb:okB lab) (hl1:1<=lab.length) (hl:lab.length<=7) (hbb:okB b) (hbl:b.length<=1000000):aD prog G sP [.v (.string S),.ls 1 (bl b)] [] fun r T'=>r=.v (fu (aTx lab b))/\T'=[]:=by
 refine aF aHy (by decide) ?_
 unfold aEC
 dsimp only [zj,zT,zF,zC,zE,zP,zQ,zq,zA,zm,zo,zs,zg,zh,zl,zv,zf,zi,zn,zb,zc,ze,zk,zw,zu,zt,zr,zR,zK,zN,zS,z0,zU]
 have hwl:=aJA b
 have hw:=aMY hbb
 have z1:IntKind.u64.wrap (b.length:Int)=(b.length:Int):=aS _ (by omega)
 have b2:(dG b).length+1<=maxLen:=by unfold maxLen;omega
 have b3:((dG b).length+1)*8<=140737488355328:=by omega
 simp only [go_sem,↓reduceIte]
 refine bU (aA _) rfl (aTm _) ?_
 simp only [go_sem,↓reduceIte]
 refine aG [0] (aA _) (by decide) (by simp) rfl rfl (aVa b hbb hbl) ?_
 rintro r T' ⟨rfl,rfl⟩
 have e1:ul (dG b)++[[AV.v (.int .u64 (b.length:Int))]]=ul (dG b++[b.length]):=by simp only [ul,List.map_append,List.map_cons,List.map_nil]
 simp only [go_sem,↓reduceIte,List.length_map,z1,b2,b3]
 rw [e1]
 refine bJ (aA _) rfl rfl (aQ6 S lab (dG b++[b.length]) hS hs hb hl1 hl (fun n hn=>?_) (by simp;omega)) ?_
 ·rcases List.mem_append.1 hn with h | h
  ·exact Nat.lt_trans (hw n h) (by decide)
  ·rw [List.mem_singleton.1 h];omega
 simp only [go_sem,↓reduceIte]
 rfl
end
end
end Hud
