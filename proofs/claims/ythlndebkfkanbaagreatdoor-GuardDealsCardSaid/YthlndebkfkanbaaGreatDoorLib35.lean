import Derived.Test.YthlndebkfkanbaaGreatDoorLib34
set_option linter.all false
namespace Hud
open Go
section
section
variable {G:Nat->Option (List AV)}
set_option maxHeartbeats 2000000
end
end
section
section
variable {G:Nat->Option (List AV)}
set_option maxHeartbeats 1000000
end
end
section
def pw (x i:Fq):Prop:=(x+i)^(NN/2)=1
instance (x i:Fq):Decidable (pw x i):=inferInstanceAs (Decidable (_=_))
section
variable {G:Nat->Option (List AV)}
set_option maxHeartbeats 2000000
end
end
section
theorem aQX {l:List Nat} (h:SR 0 l.length l):l.Pairwise (· <= ·):=by
 rw [List.pairwise_iff_getElem]
 intro i j hi hj hij
 have:=h i j (Nat.zero_le _) (by omega) hj
 simpa [List.getD_eq_getElem?_getD,hi,hj] using this
section
variable {G:Nat->Option (List AV)}
set_option maxHeartbeats 2000000
end
end
section
open Go.Proofs.Tryz
def pP:HFun:=⟨11,[],zQ (zr [zm 3 0,zn 4 3,zm 2 4] [4,3]) (zr [zm 5 0,zm 6 2,zm 7 2,zo 8 (.conv .u64 (zt 7)),zc 9 rW [zt 8],zc 10 cA [zt 5,zw 0,zt 6,zt 9]] [0,2,10,9,8,7,6,5])⟩
theorem uZ:aB prog kE []=some pP:=by kernel_rfl
def lG:HFun:=⟨134,[],zE [zo 8 (.mov zT)] (zE [zo 9 (.mov zT)] (zP 0 (.block 1 (zQ (zr [zm 19 2,zm 20 1,zb 21 .sub 19 20,zm 10 21] [21,20,19]) (zQ (zQ (zr [zm 22 10,zj 23 .leq 22 12] [22]) (zC 23 (zK [3,8,9,10,23] (zQ (zr [zm 24 0,zm 25 1,zm 26 2,zc 27 dP [zt 24,zt 25,zt 26]] [0,1,2,27,26,25,24]) .ret)) (zK [23] .skip))) (zQ (zQ (zr [zm 28 3,zj 29 .eql 28 0] [28]) (zC 29 (zK [8,9,10,3,29] (zQ (zr [zm 30 0,zm 31 1,zm 32 2,zc 33 rX [zt 30,zt 31,zt 32]] [0,1,2,33,32,31,30]) .ret)) (zK [29] .skip))) (zQ (zQ (zr [zm 34 8,zo 35 (.un .not (zt 34))] [34]) (zC 35 (zK [35] (zQ (zr [zm 36 0,zm 37 1,zm 38 2,zc 39 oN [zt 36,zt 37,zt 38]] [39,38,37,36]) (zr [zm 40 3,zj 41 .sub 40 1,zm 3 41] [41,40]))) (zK [35] .skip))) (zQ (zr [zm 43 0,zm 44 1,zm 45 2,zc 46 pR [zt 43,zt 44,zt 45],zm 42 46,ze 47 42 0,ze 48 42 1,zm 11 47,zm 12 48] [48,47,42,46,45,44,43]) (zQ (zQ (zr [zm 49 12,zj 50 .eql 49 2] [49]) (zC 50 (zK [12,50] (zQ (zr [zm 51 0,zm 52 1,zm 53 2,zc 54 pF [zt 51,zt 52,zt 53]] [54,53,52,51]) (zQ (zr [zm 55 2,zj 56 .sub 55 1,zm 57 11,zm 58 1,zb 59 .sub 57 58,zb 60 .sub 56 59,zm 11 60] [60,59,58,57,56,55]) (.reg [zk 12 1])))) (zK [50] .skip))) (zQ (zQ (zr [zm 61 8,zm 62 61,zh 63 9 62 true,zo 64 (.pick (zt 62) (zt 63) zF),zm 65 64,zh 66 12 65 true,zg 67 (.bin .eql (zt 66) (zw 1)) 65 true,zo 68 (.pick (zt 65) (zt 67) zF)] [12,67,66,65,64,63,62,61]) (zC 68 (zK [68] (zQ (zr [zm 69 0,zm 70 1,zm 71 2,zc 72 kS [zt 69,zt 70,zt 71]] [71,70,69]) (zC 72 (zK [1,0,11,10,2,9,8,3,72] .ret) (zK [72] .skip)))) (zK [68] .skip))) (zQ (zQ (zR (zq (zm 73 1) (zq (zj 74 .gtr 73 0) (zq (zm 75 74) (zq (zh 76 0 75 true) (zq (zh 77 1 75 true) (zq (zg 78 (.bin .sub (zt 77) (zw 1)) 75 true) (zq (zg 79 (.iad (zt 76) (zt 78) 1) 75 true) (zq (zg 80 (.ld none (zt 79)) 75 true) (zq (zh 81 0 75 true) (zq (zh 82 11 75 true) (zq (zg 83 (.iad (zt 81) (zt 82) 1) 75 true) (zq (zg 84 (.ld none (zt 83)) 75 true) (zA (zg 85 (.call (.func pG) [zt 80,zt 84]) 75 true) [] (zq (zg 86 (.un .not (zt 85)) 75 true) (zq (zo 87 (.pick (zt 75) (zt 86) zF)) (.done false))) .no))))))))))))) [86,85,84,83,82,81,80,79,78,77,76,75,74,73]) (zC 87 (zK [10,87] (zQ (zr [zm 88 0,zm 89 1,zm 90 2,zm 91 11,zc 92 nS [zt 88,zt 89,zt 90,zt 91],zm 13 92] [1,11,92,91,90,89,88]) (zQ (zr [zm 93 13,zm 1 93] [13,93]) (.exit 1)))) (zK [9,8,87] .skip))) (zQ (zr [zm 95 0,zm 96 1,zm 97 2,zm 98 11,zc 99 rI [zt 95,zt 96,zt 97,zt 98],zm 94 99,ze 100 94 0,ze 101 94 1,zm 14 100,zm 15 101] [11,101,100,94,99,98,97,96,95]) (zQ (zr [zm 102 15,zm 9 102] [15,102]) (zQ (zr [zm 103 14,zm 104 1,zb 105 .sub 103 104,zm 106 2,zm 107 14,zb 108 .sub 106 107,zm 16 105,zm 17 108] [108,107,106,105,104,103]) (zQ (zr [zm 109 10,zj 110 .quo 109 8,zm 18 110] [10,110,109]) (zQ (zr [zm 111 16,zm 112 17,zb 113 .lss 111 112] [112,111]) (zC 113 (zK [17,113] (zQ (zr [zm 114 16,zm 115 18,zb 116 .geq 114 115,zm 8 116] [16,18,116,115,114]) (zQ (zr [zm 117 0,zm 118 1,zm 119 14,zm 120 3,zc 121 cA [zt 117,zt 118,zt 119,zt 120]] [1,121,120,119,118,117]) (zr [zm 122 14,zj 123 .add 122 1,zm 1 123] [14,123,122])))) (zK [16,113] (zQ (zr [zm 124 17,zm 125 18,zb 126 .geq 124 125,zm 8 126] [17,18,126,125,124]) (zQ (zr [zm 127 0,zm 128 14,zj 129 .add 128 1,zm 130 2,zm 131 3,zc 132 cA [zt 127,zt 129,zt 130,zt 131]] [2,132,131,130,129,128,127]) (zr [zm 133 14,zm 2 133] [14,133])))))))))))))))))))))⟩
theorem qM:aB prog cA []=some lG:=by kernel_rfl
def iF:HFun:=⟨49,[],zQ (zr [zm 8 1,zj 9 .add 8 1,zm 6 9] [9,8]) (zP 0 (zQ (zQ (zr [zm 10 6,zm 11 2,zb 12 .lss 10 11] [11,10]) (zC 12 (zK [12] .skip) (zK [6,2,0,1,12] (.exit 0)))) (zQ (.block 1 (zQ (zr [zm 15 6,zm 7 15] [15]) (zP 2 (zQ (zQ (zR (zq (zm 16 7) (zq (zm 17 1) (zq (zb 18 .gtr 16 17) (zq (zm 19 18) (zq (zh 20 0 19 true) (zq (zh 21 7 19 true) (zq (zg 22 (.iad (zt 20) (zt 21) 1) 19 true) (zq (zg 23 (.ld none (zt 22)) 19 true) (zq (zh 24 0 19 true) (zq (zh 25 7 19 true) (zq (zg 26 (.bin .sub (zt 25) (zw 1)) 19 true) (zq (zg 27 (.iad (zt 24) (zt 26) 1) 19 true) (zq (zg 28 (.ld none (zt 27)) 19 true) (zA (zg 29 (.call (.func pG) [zt 23,zt 28]) 19 true) [] (zq (zo 30 (.pick (zt 19) (zt 29) zF)) (.done false)) .no)))))))))))))) [29,28,27,26,25,24,23,22,21,20,19,18,17,16]) (zC 30 (zK [30] .skip) (zK [7,30] (.exit 2)))) (zQ (.block 3 (zR (zq (zm 33 0) (zq (zm 34 7) (zq (zm 35 0) (zq (zm 36 7) (zq (zj 37 .sub 36 1) (zq (zm 38 0) (zq (zm 39 7) (zq (zj 40 .sub 39 1) (zq (zi 41 38 40 1) (zq (zl 42 41) (zq (zm 43 0) (zq (zm 44 7) (zq (zi 45 43 44 1) (zq (zl 46 45) (zq (zi 47 33 34 1) (zA (zs (.st 1 (zt 47) (zt 42))) [zj 37 .sub 36 1,zm 36 7,zm 35 0] (zq (zi 48 35 37 1) (zA (zs (.st 1 (zt 48) (zt 46))) [] (.done false) .no)) .no)))))))))))))))) [48,47,46,45,44,43,42,41,40,39,38,37,36,35,34,33])) (zr [zm 31 7,zj 32 .sub 31 1,zm 7 32] [32,31])))))) (zr [zm 13 6,zj 14 .add 13 1,zm 6 14] [14,13]))))⟩
theorem mV:aB prog dP []=some iF:=by kernel_rfl
def kP:HFun:=⟨13,[(4,none)],zQ (zQ (zr [zo 2 (.box (zt 0)),zN 4] [0]) (.own 2 (some 0) 1)) (zQ (zQ (zr [zm 6 1] [1]) (.block 0 (.rng (zt 6) [7] [2] (zr [zm 5 7] [7]) (.block 1 (zr [zl 8 2,zm 9 5,zo 10 (.bsl 1 [z0] [(0,(1,zt 9))] 1),zo 11 (.app (zt 8) (zt 10) 1 8),zs (.st 1 (zt 2) (zt 11))] [2,5,11,10,9,8]))))) (zQ (zr [zl 12 2,zm 4 12] [2,12]) .ret))⟩
theorem pS:aB prog gA [(2,some 0,1)]=some kP:=by kernel_rfl
end
end Hud
