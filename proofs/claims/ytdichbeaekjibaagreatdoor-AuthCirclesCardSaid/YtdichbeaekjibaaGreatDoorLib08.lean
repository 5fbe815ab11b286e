import Derived.Test.YtdichbeaekjibaaGreatDoorLib07
set_option linter.all false
namespace Hud
open Go
section
open W
def EQ:cF oT []=some ⟨6,[(2,none)],S [R0 2 1 [M F],R 3 3 [0] [ne v0 v0,J 2 v5],.ret]⟩:=s_
def Av:cF nQ []=some ⟨7,[(2,none)],S [R0 2 1 [M (u 0)],R 3 4 [0] [B .shl (u 1) (c1 aE2 (cw .u64 v0)),J 2 v6],.ret]⟩:=s_
def BV:cF oS []=some ⟨33,[(2,none)],S [R0 2 1 [M (u 0)],D 3 9 [] [B .xor (l (y v0)) (B .shl (l (y v0)) (u 13)),s 1 (y t3) (t 10)],D 12 9 [] [B .xor (l (y v0)) (B .shr (l (y v0)) (u 7)),s 1 (y (t 12)) (t 19)],D 21 9 [] [B .xor (l (y v0)) (B .shl (l (y v0)) (u 17)),s 1 (y (t 21)) (t 28)],R 30 3 [0] [A 2 (l (y v0))],.ret]⟩:=s_
end
section
open W
def Aw:cF kH []=some ⟨6,[(2,none)],S [R0 2 1 [M F],R 3 3 [0] [ne v0 v0,J 2 v5],.ret]⟩:=s_
def pJ:cF bK []=some ⟨14,[],S [R0 5 2 [n v0,J 4 v6],R 7 7 [0,4,1] [c5 bO v0 w0 v4 (c1 aE2 (cw .u64 v4)) v1]]⟩:=s_
def sP:cF bO []=some ⟨148,[],S [E0 [A 10 T],E0 [A 11 T],lo 0 (bw 1 (S [R0 21 3 [A 12 (sb v2 v1)],S [R0 24 1 [le v12 (w 12)],If 25 [3,10,11,12] (S [R 26 5 [0,1,2,4] [c4 eK v0 v1 v2 v4],.ret])],S [R0 31 1 [eq v3 w0],If 32 [10,11,12,3] (S [R 33 5 [0,1,2,4] [c4 gO v0 v1 v2 v4],.ret])],S [R0 38 1 [o v10],If 39 [] (S [R0 40 5 [c4 eM v0 v1 v2 v4],R0 45 2 [A 3 (sb v3 w1)]])],R 48 5 [54,53,47] [c4 fK v0 v1 v2 v4,J 47 (v 52),J 53 (e 0 (t 47)),e 1 (t 47),A 13 (t 53),A 14 (t 54)],S [R0 55 1 [eq v14 w2],If 56 [14] (S [R0 57 5 [c4 fB v0 v1 v2 v4],R0 62 6 [A 13 (sb (sb v2 w1) (sb v13 v1))],E0 [A 14 w1]])],S [R 68 7 [14] [N (N v10 v11) (eq v14 w1)],If 75 [] (S [R0 76 4 [c4 dA v0 v1 v2 v4],If 80 [1,4,0,13,12,2,11,10,3] .ret])],S [D 81 16 [] [N (gt v1 w0) (o (ls (d2 v4 (L 3 (i 3 v0 (sb v1 w1))) (L 3 (i 3 v0 v13))) w0))],Iz 97 [12] (S [R 98 6 [1,13] [A 15 (c5 cQ v0 v1 v2 v13 v4)],R 104 1 [15] [A 1 v15],ex 1]) [11,10]],R 106 6 [13,113,112,105] [c5 dL v0 v1 v2 v13 v4,J 105 (v 111),J 112 (e 0 (t 105)),e 1 (t 105),A 16 (t 112),A 17 (t 113)],R 114 1 [17] [A 11 v17],R0 115 6 [sb v16 v1,sb v2 v16,A 18 (t 117),A 19 (t 120)],R 121 2 [12] [A 20 (qu v12 (w 8))],R0 123 2 [ls v18 v19],Ie 125 [19] (S [R 126 3 [18,20] [A 10 (ge v18 v20)],R 129 6 [1] [c5 bO v0 v1 v16 v3 v4],R 135 2 [16] [A 1 (ad v16 w1)]]) [18] (S [R 137 3 [19,20] [A 10 (ge v19 v20)],R 140 7 [2] [c5 bO v0 (ad v16 w1) v2 v3 v4],R 147 1 [16] [A 2 v16]])]))]⟩:=s_
def oU:cF eK []=some ⟨53,[],S [R0 10 2 [A 8 (ad v1 w1)],fo 0 12 2 (ls v8 v2) [8,2,0,3,1] 8 (S [R0 17 1 [A 9 v8],lo 2 (S [S [D 18 16 [] [N (gt v9 v1) (ls (d2 v3 (L 3 (i 3 v0 v9)) (L 3 (i 3 v0 (sb v9 w1)))) w0)],Ie 34 [] .skip [9] (ex 2)],bw 3 (D 37 16 [] [v0,v9,v0,sb v9 w1,L 3 (i 3 v0 (sb v9 w1)),L 3 (i 3 v0 v9),K [zo 41 (.bin .sub (zt 40) (zw 1)),zm 40 9,zm 39 0] (s 3 (i 3 (t 37) (t 38)) (t 46)),s 3 (i 3 (t 39) (t 41)) (t 50)]),R0 35 2 [A 9 (sb v9 w1)]])])]⟩:=s_
def rS:cF gO []=some ⟨60,[],S [R0 13 1 [A 8 v1],i0 9,R 14 3 [2,1] [A 10 (sb v2 v1)],S [R0 17 3 [A 11 (qu (sb v10 w1) w2)],lo 0 (S [S [R0 20 1 [ge v11 w0],Ie 21 [] .skip [11] (ex 0)],bw 1 (R0 24 6 [c5 dR v0 v11 v10 v8 v3]),R0 22 2 [A 11 (sb v11 w1)]])],R 30 2 [10] [A 12 (sb v10 w1)],lo 2 (S [S [R0 32 1 [ge v12 w0],Ie 33 [] .skip [0,8,12,3,9] (ex 2)],bw 3 (S [D 36 18 [] [v0,v8,v0,ad v8 v12,L 3 (i 3 v0 (ad v8 v12)),L 3 (i 3 v0 v8),K [zo 41 (.bin .add (zt 39) (zt 40)),zm 40 12,zm 39 8,zm 38 0] (s 3 (i 3 (t 36) (t 37)) (t 47)),s 3 (i 3 (t 38) (t 41)) (t 51)],R0 54 6 [c5 dR v0 v9 v12 v8 v3]]),R0 34 2 [A 12 (sb v12 w1)]])]⟩:=s_
def oV:cF eM []=some ⟨67,[],Z [3] (S [R 13 3 [2] [A 8 (sb v2 v1)],R0 16 1 [ge v8 (w 8)],Iz 17 [] (S [R0 18 2 [cw .u64 v8,J 9 (s 1 (al [zU]) (t 19))],R0 20 2 [A 10 (c1 nQ v8)],R0 22 6 [A 11 (sb (ad v1 (mu (qu v8 (w 4)) w2)) w1)],fo 0 28 7 (le v11 (ad (ad v1 (mu (qu v8 (w 4)) w2)) w1)) [9,10,0,11,1,8] 11 (S [R0 38 5 [A 12 (cw .i64 (B .and (c1 oS t9) (sb v10 (u 1))))],S [R0 43 2 [ge v12 v8],If 45 [] (R0 46 3 [A 12 (sb v12 v8)])],D 49 18 [12] [v0,v11,v0,ad v1 v12,L 3 (i 3 v0 (ad v1 v12)),L 3 (i 3 v0 v11),K [zo 54 (.bin .add (zt 52) (zt 53)),zm 53 12,zm 52 1,zm 51 0] (s 3 (i 3 (t 49) (t 50)) (t 60)),s 3 (i 3 (t 51) (t 54)) (t 64)]])]) [8,1,0]])⟩:=s_
def pW:cF fK []=some ⟨63,[(8,none),(9,none)],S [R0 8 2 [M w0,M w0],R 15 3 [2] [A 10 (sb v2 v1)],E 11 [al [z0]],R0 18 5 [A 12 (ad v1 (mu (qu v10 (w 4)) w1))],R0 23 5 [A 13 (ad v1 (mu (qu v10 (w 4)) w2))],R 28 5 [1] [A 14 (ad v1 (mu (qu v10 (w 4)) w3))],S [R0 33 1 [ge v10 (w 8)],Iz 34 [] (S [S [R 35 1 [10] [ge v10 (w 50)],If 36 [] (S [R0 37 4 [A 12 (c4 bW v0 v12 (t 11) v3)],R0 41 4 [A 13 (c4 bW v0 v13 (t 11) v3)],R0 45 4 [A 14 (c4 bW v0 v14 (t 11) v3)]])],R 49 6 [0,12,14,3] [A 13 (c6 eF v0 v12 v13 v14 (t 11) v3)]]) [10,0,12,3,14]],R 55 0 [11] [l (t 11)],bw 0 (S [R0 58 1 [eq (t 55) w0,J 57 (v 58)],Ie 57 [55] (S [R 59 1 [13] [A 8 v13,A 9 w1],.ret]) [] (S [R 61 1 [55] [eq (t 55) (w 12),J 60 (v 61)],Ie 60 [] (S [R 62 1 [13] [A 8 v13,A 9 w2],.ret]) [] (S [R 56 1 [13] [A 8 v13,A 9 w0],.ret])])])]⟩:=s_
def pK:cF fB []=some ⟨34,[],Z [3] (S [R 10 1 [1] [A 8 v1],R 11 2 [2] [A 9 (sb v2 w1)],lo 0 (S [S [R0 13 2 [ls v8 v9],Ie 15 [] .skip [0,8,9] (ex 0)],bw 1 (S [D 16 14 [] [v0,v8,v0,v9,L 3 (i 3 v0 v9),L 3 (i 3 v0 v8),K [zm 19 9,zm 18 0] (s 3 (i 3 (t 16) (t 17)) (t 23)),s 3 (i 3 (t 18) (t 19)) (t 27)],R0 30 2 [A 8 (ad v8 w1)],R0 32 2 [A 9 (sb v9 w1)]])])])⟩:=s_
def lS:cF dA []=some ⟨141,[(8,none)],S [R0 8 1 [M F],R0 13 2 [A 9 (ad v1 w1)],S [i0 10,fo 0 15 1 (ls v10 (w 5)) [9,2,3,0,1,10] 10 (S [lo 2 (S [S [D 19 17 [] [N (ls v9 v2) (o (ls (d2 v3 (L 3 (i 3 v0 v9)) (L 3 (i 3 v0 (sb v9 w1)))) w0))],Ie 36 [] .skip [] (ex 2)],bw 3 (R0 37 2 [A 9 (ad v9 w1)])]),S [R0 39 2 [eq v9 v2],If 41 [2,1,0,9,3,10] (S [E0 [A 8 T],.ret])],S [R0 42 3 [ls (sb v2 v1) (w 50)],If 45 [0,9,3,2,10,1] (S [E0 [A 8 F],.ret])],D 46 16 [] [v0,v9,v0,sb v9 w1,L 3 (i 3 v0 (sb v9 w1)),L 3 (i 3 v0 v9),K [zo 50 (.bin .sub (zt 49) (zw 1)),zm 49 9,zm 48 0] (s 3 (i 3 (t 46) (t 47)) (t 55)),s 3 (i 3 (t 48) (t 50)) (t 59)],S [R0 62 3 [ge (sb v9 v1) w2],If 65 [] (S [R0 66 2 [A 11 (sb v9 w1)],lo 4 (S [S [R0 68 1 [ge v11 w1],Ie 69 [] .skip [11] (ex 4)],bw 5 (S [S [D 72 12 [] [o (ls (d2 v3 (L 3 (i 3 v0 v11)) (L 3 (i 3 v0 (sb v11 w1)))) w0)],If 84 [11] (ex 4)],D 85 16 [] [v0,v11,v0,sb v11 w1,L 3 (i 3 v0 (sb v11 w1)),L 3 (i 3 v0 v11),K [zo 89 (.bin .sub (zt 88) (zw 1)),zm 88 11,zm 87 0] (s 3 (i 3 (t 85) (t 86)) (t 94)),s 3 (i 3 (t 87) (t 89)) (t 98)]]),R0 70 2 [A 11 (sb v11 w1)]])])],R0 101 3 [ge (sb v2 v9) w2],If 104 [] (S [R0 105 2 [A 12 (ad v9 w1)],fo 6 107 2 (ls v12 v2) [12] 12 (S [S [D 112 12 [] [o (ls (d2 v3 (L 3 (i 3 v0 v12)) (L 3 (i 3 v0 (sb v12 w1)))) w0)],If 124 [12] (ex 6)],D 125 16 [] [v0,v12,v0,sb v12 w1,L 3 (i 3 v0 (sb v12 w1)),L 3 (i 3 v0 v12),K [zo 129 (.bin .sub (zt 128) (zw 1)),zm 128 12,zm 127 0] (s 3 (i 3 (t 125) (t 126)) (t 134)),s 3 (i 3 (t 127) (t 129)) (t 138)]])])])],E0 [A 8 F],.ret]⟩:=s_
def oF:cF cQ []=some ⟨90,[(10,none)],S [R0 10 1 [M w0],D 13 14 [3] [v0,v1,v0,v3,L 3 (i 3 v0 v3),L 3 (i 3 v0 v1),K [zm 16 3,zm 15 0] (s 3 (i 3 (t 13) (t 14)) (t 20)),s 3 (i 3 (t 15) (t 16)) (t 24)],R 27 4 [2] [ad v1 w1,sb v2 w1,A 11 (t 28),A 12 (t 30)],lo 0 (bw 1 (S [lo 2 (S [S [D 31 16 [] [N (le v11 v12) (o (ls (d2 v4 (L 3 (i 3 v0 v1)) (L 3 (i 3 v0 v11))) w0))],Ie 47 [] .skip [] (ex 2)],bw 3 (R0 48 2 [A 11 (ad v11 w1)])]),lo 4 (S [S [D 50 15 [] [N (le v11 v12) (ls (d2 v4 (L 3 (i 3 v0 v1)) (L 3 (i 3 v0 v12))) w0)],Ie 65 [] .skip [] (ex 4)],bw 5 (R0 66 2 [A 12 (sb v12 w1)])]),S [R0 68 2 [gt v11 v12],If 70 [0,12,1,4] (ex 0)],D 71 14 [] [v0,v11,v0,v12,L 3 (i 3 v0 v12),L 3 (i 3 v0 v11),K [zm 74 12,zm 73 0] (s 3 (i 3 (t 71) (t 72)) (t 78)),s 3 (i 3 (t 73) (t 74)) (t 82)],R0 85 2 [A 11 (ad v11 w1)],R0 87 2 [A 12 (sb v12 w1)]])),R 89 1 [11] [A 10 v11],.ret]⟩:=s_
def rC:cF dL []=some ⟨178,[(10,none),(11,none)],S [R0 10 2 [M w0,M F],D 14 14 [3] [v0,v1,v0,v3,L 3 (i 3 v0 v3),L 3 (i 3 v0 v1),K [zm 17 3,zm 16 0] (s 3 (i 3 (t 14) (t 15)) (t 21)),s 3 (i 3 (t 16) (t 17)) (t 25)],R 28 4 [2] [ad v1 w1,sb v2 w1,A 12 (t 29),A 13 (t 31)],lo 0 (S [S [D 32 15 [] [N (le v12 v13) (ls (d2 v4 (L 3 (i 3 v0 v12)) (L 3 (i 3 v0 v1))) w0)],Ie 47 [] .skip [] (ex 0)],bw 1 (R0 48 2 [A 12 (ad v12 w1)])]),lo 2 (S [S [D 50 16 [] [N (le v12 v13) (o (ls (d2 v4 (L 3 (i 3 v0 v13)) (L 3 (i 3 v0 v1))) w0))],Ie 66 [] .skip [] (ex 2)],bw 3 (R0 67 2 [A 13 (sb v13 w1)])]),S [R0 69 2 [gt v12 v13],If 71 [12,4] (S [D 72 14 [0,1] [v0,v13,v0,v1,L 3 (i 3 v0 v1),L 3 (i 3 v0 v13),K [zm 75 1,zm 74 0] (s 3 (i 3 (t 72) (t 73)) (t 79)),s 3 (i 3 (t 74) (t 75)) (t 83)],R 86 1 [13] [A 10 v13,A 11 T],.ret])],D 87 14 [] [v0,v12,v0,v13,L 3 (i 3 v0 v13),L 3 (i 3 v0 v12),K [zm 90 13,zm 89 0] (s 3 (i 3 (t 87) (t 88)) (t 94)),s 3 (i 3 (t 89) (t 90)) (t 98)],R0 101 2 [A 12 (ad v12 w1)],R0 103 2 [A 13 (sb v13 w1)],lo 4 (bw 5 (S [lo 6 (S [S [D 105 15 [] [N (le v12 v13) (ls (d2 v4 (L 3 (i 3 v0 v12)) (L 3 (i 3 v0 v1))) w0)],Ie 120 [] .skip [] (ex 6)],bw 7 (R0 121 2 [A 12 (ad v12 w1)])]),lo 8 (S [S [D 123 16 [] [N (le v12 v13) (o (ls (d2 v4 (L 3 (i 3 v0 v13)) (L 3 (i 3 v0 v1))) w0))],Ie 139 [] .skip [] (ex 8)],bw 9 (R0 140 2 [A 13 (sb v13 w1)])]),S [R0 142 2 [gt v12 v13],If 144 [12,4] (ex 4)],D 145 14 [] [v0,v12,v0,v13,L 3 (i 3 v0 v13),L 3 (i 3 v0 v12),K [zm 148 13,zm 147 0] (s 3 (i 3 (t 145) (t 146)) (t 152)),s 3 (i 3 (t 147) (t 148)) (t 156)],R0 159 2 [A 12 (ad v12 w1)],R0 161 2 [A 13 (sb v13 w1)]])),D 163 14 [0,1] [v0,v13,v0,v1,L 3 (i 3 v0 v1),L 3 (i 3 v0 v13),K [zm 166 1,zm 165 0] (s 3 (i 3 (t 163) (t 164)) (t 170)),s 3 (i 3 (t 165) (t 166)) (t 174)],R 177 1 [13] [A 10 v13,A 11 F],.ret]⟩:=s_
def rT:cF dR []=some ⟨82,[],S [R 12 1 [1] [A 10 v1],lo 0 (bw 1 (S [R0 13 3 [A 11 (ad (mu w2 v10) w1)],S [R0 16 2 [ge v11 v2],If 18 [11,2,4,0,3,10] (ex 0)],S [D 19 21 [] [N (ls (ad v11 w1) v2) (ls (d2 v4 (L 3 (i 3 v0 (ad v3 v11))) (L 3 (i 3 v0 (ad (ad v3 v11) w1)))) w0)],If 40 [] (R0 41 2 [A 11 (ad v11 w1)])],S [D 43 15 [] [o (ls (d2 v4 (L 3 (i 3 v0 (ad v3 v10))) (L 3 (i 3 v0 (ad v3 v11)))) w0)],If 58 [0,3,10,11,4,2] .ret],D 59 22 [10] [v0,ad v3 v10,v0,ad v3 v11,L 3 (i 3 v0 (ad v3 v11)),L 3 (i 3 v0 (ad v3 v10)),K [zo 66 (.bin .add (zt 64) (zt 65)),zm 65 11,zm 64 3,zm 63 0] (s 3 (i 3 (t 59) (t 62)) (t 72)),s 3 (i 3 (t 63) (t 66)) (t 78)],R 81 1 [11] [A 10 v11]]))]⟩:=s_
def oG:cF bW []=some ⟨18,[(8,none)],S [R0 8 1 [M w0],R 9 9 [0,1,2,3] [c6 eF v0 (sb v1 w1) v1 (ad v1 w1) v2 v3,J 8 v17],.ret]⟩:=s_
def tH:cF eF []=some ⟨41,[(12,none)],S [R0 12 1 [M w0],R 14 6 [21,20,13] [c5 cY v0 v1 v2 v4 v5,J 13 v19,J 20 (e 0 (t 13)),e 1 (t 13),A 1 (t 20),A 2 (t 21)],R 23 6 [3,30,29,22] [c5 cY v0 v2 v3 v4 v5,J 22 v28,J 29 (e 0 (t 22)),e 1 (t 22),A 2 (t 29),A 3 (t 30)],R 32 6 [0,4,5,1,39,38,31] [c5 cY v0 v1 v2 v4 v5,J 31 v37,J 38 (e 0 (t 31)),e 1 (t 31),A 1 (t 38),A 2 (t 39)],R 40 1 [2] [A 12 v2],.ret]⟩:=s_
def tI:cF cY []=some ⟨32,[(10,none),(11,none)],S [R0 10 2 [M w0,M w0],S [D 12 10 [4,0] [ls (d2 v4 (L 3 (i 3 v0 v2)) (L 3 (i 3 v0 v1))) w0],Iz 22 [] (S [R 23 5 [3] [ad (l (y v3)) w1,s 1 (y (t 23)) (t 26)],R 28 2 [2,1] [v2,v1,A 10 (t 28),A 11 (t 29)],.ret]) [3]],R 30 2 [1,2] [v1,v2,A 10 (t 30),A 11 (t 31)],.ret]⟩:=s_
end
section
open W
def LV:cF uV []=some ⟨13,[(4,none)],S [R0 4 1 [M w0],S [R0 5 1 [ls v0 w0],If 6 [] (R0 7 3 [ad v0 w1,A 0 (x (.un .neg (zt 8)))])],R 10 3 [0,1] [A 4 (rm v0 v1)],.ret]⟩:=s_
def N2:cF qW []=some ⟨21,[(4,none)],S [R0 4 1 [M (u 0)],R 8 5 [0,1,14,13,7] [c2 vD (c1 gV v0) (c1 gV v1),J 7 v12,J 13 (e 0 t7),e 1 t7,J 5 v13,v14],R 15 6 [6,5] [A 4 (c1 gV (ad (c1 gV v6) (B .shl v5 (u 3))))],.ret]⟩:=s_
def SL:cF AX []=some ⟨59,[(4,none)],S [R0 4 1 [M (u 0)],R0 10 2 [A 0 (rm v0 (u 2305843009213693951))],R0 12 2 [A 1 (rm v1 (u 2305843009213693951))],E0 [A 5 (u 4294967296)],D 14 7 [] [A 6 (mu (rm v0 v5) (rm v1 v5))],D 21 15 [] [A 7 (ad (mu (qu v0 v5) (rm v1 v5)) (mu (rm v0 v5) (qu v1 v5)))],D 36 7 [0,1] [A 8 (mu (qu v0 v5) (qu v1 v5))],E0 [A 9 (u 536870912)],D 43 16 [6,7,9,5,8] [A 4 (rm (ad (ad (ad (rm v6 (u 2305843009213693951)) (mu (rm v7 v9) v5)) (qu v7 v9)) (mu (u 8) v8)) (u 2305843009213693951))],.ret]⟩:=s_
def SM:cF GA []=some ⟨40,[(4,none)],S [E0 [A 4 (u 0)],R0 9 4 [v0,q1 zUU (cw .u64 (x (.lenS (zt 9)))),J 5 (s 2 (al zUU) (t 12))],S [R 13 2 [0] [v0,c1 AB (x (.s2b (zt 13)))],bw 0 (.rng (zt 15) [16] [5] (.seq (.reg [⟨some 6,.mov (zt 16),none⟩]) (.kill [16])) (.block 1 (.seq (.reg [⟨some 17,.mov (zt 6),none⟩,⟨some 18,.bsl 1 [zU] [(0,(1,zt 17))] 1,none⟩,⟨some 19,.call (.func jZ) [zt 5,zt 18],none⟩]) (.kill [6,5,19,18,17]))))],R0 20 5 [c2 jZ t5 (ba 1 [zU] (cw .u64 (n v1)))],S [R 26 0 [1] [A 25 t1,n (t 25),A 27 w0],ra 2 27 (t 26) 28 [25,27,26] 35 (S [R0 29 2 [A 8 (l (i 1 (t 25) (t 27)))],R 31 4 [8] [c2 jZ t5 (ba 1 [zU] (c1 gV v8))]])],R0 36 2 [c2 jZ t5 (ba 1 [zU] (u 0))],R 38 2 [5] [A 4 (l (f 0 t5))],.ret]⟩:=s_
def HW:cF aE2 []=some ⟨8,[(2,none)],S [R0 2 1 [M w0],.cond (.const (.bool false)) (S [R 3 3 [0] [c1 Il (cw .u32 v0),J 2 v5],.ret]) .skip,R 6 2 [0] [A 2 (c1 uZ v0)],.ret]⟩:=s_
def N3:cF Br []=some ⟨11,[(4,none)],S [R0 4 1 [M (u 0)],R 5 6 [0,1] [c1 gV (ad (c1 gV v0) (c1 gV v1)),J 4 v10],.ret]⟩:=s_
def FN:cF vD []=some ⟨51,[(4,none),(5,none)],S [R0 4 2 [M (u 0),M (u 0)],R0 14 2 [A 6 (B .and v0 (u 4294967295))],R0 16 2 [A 7 (B .shr v0 (u 32))],R0 18 2 [A 8 (B .and v1 (u 4294967295))],R0 20 2 [A 9 (B .shr v1 (u 32))],R0 22 3 [A 10 (mu v6 v8)],R 25 6 [8,10] [A 11 (ad (mu v7 v8) (B .shr v10 (u 32)))],R0 31 2 [A 12 (B .and v11 (u 4294967295))],R 33 2 [11] [A 13 (B .shr v11 (u 32))],R 35 5 [6] [A 12 (ad v12 (mu v6 v9))],R 40 8 [7,9,13,12] [A 4 (ad (ad (mu v7 v9) v13) (B .shr v12 (u 32)))],R 48 3 [0,1] [A 5 (mu v0 v1)],.ret]⟩:=s_
def N4:cF gV []=some ⟨13,[(2,none)],S [R0 2 1 [M (u 0)],R0 3 5 [A 0 (ad (B .and v0 (u 2305843009213693951)) (B .shr v0 (u 61)))],S [R0 8 1 [ge v0 (u 2305843009213693951)],If 9 [] (R0 10 2 [A 0 (sb v0 (u 2305843009213693951))])],R 12 1 [0] [A 2 v0],.ret]⟩:=s_
def UO:cF E8 []=some ⟨58,[(4,none)],S [R0 4 1 [M (u 0)],R0 10 8 [v0,A 5 (a 1 8 (c1 Bo (x (.s2b (zt 10)))) (ba 1 [zU] (cw .u64 (n v1))))],S [i0 6,fo 0 18 3 (ls v6 (n v1)) [1,6] 6 (R0 24 8 [A 5 (a 1 8 v5 (ba 1 [zU] (rm (l (i 1 v1 v6)) (u 2305843009213693951))))])],R0 32 3 [A 5 (a 1 8 v5 (ba 1 [zU] (u 0)))],R 35 3 [0] [v0,A 7 (cw .u64 (x (.lenS (zt 35))))],S [i0 8,fo 2 38 3 (ls v8 (n v5)) [5,8] 8 (S [D 44 11 [7] [v7,J 46 (l (i 1 v5 v8)),cw .u64 (ad v8 w1),J 45 (K [zo 52 (.conv .u64 (zt 51)),zo 51 (.bin .add (zt 50) (zw 1)),zm 50 8,zl 49 48,zi 48 46 47 1,zm 47 8,zm 46 5] (c2 AX (u 37) (t 44))),J 53 (A 9 (c2 GB (t 45) (c2 GB (t 49) (t 52))))],R 55 2 [9] [A 7 (c2 wD v9 (u 17))]])],R 57 1 [7] [A 4 v7],.ret]⟩:=s_
def LW:cF AB []=some ⟨4,[(2,none)],S [R 2 1 [0] [J 1 (b t0),M (kc (.const .nilFunc))],R 3 1 [1] [x (.clo nS [zt 1]),J 2 v3],.ret]⟩:=s_
def FO:cF jZ []=some ⟨37,[],S [R 7 0 [1] [A 6 t1,n t6,A 8 w0],ra 0 8 t7 9 [6,8,7,0] 36 (S [R0 10 2 [A 5 (l (i 1 t6 t8))],R0 12 7 [ad (l (f 1 (y v0))) (u 1),s 1 (f 1 (y (t 12))) (t 16)],D 19 17 [5] [v0,l (f 0 (y v0)),J 25 (ad v5 (l (f 1 (y v0)))),J 24 (K [zo 30 (.bin .add (zt 25) (zt 29)),zl 29 28,zf 28 27 1,zo 27 (.nilc (zt 26)),zm 26 0,zm 25 5,zm 19 0] (c2 qW (u 37) (t 23))),J 31 (K [zm 19 0] (c1 gV (t 30))),K [zm 19 0] (c2 Br (t 24) (t 31)),K [zm 19 0] (c2 xU (t 32) (u 17)),s 1 (f 0 (y (t 19))) (t 33)]])]⟩:=s_
def FQ:cF uZ []=some ⟨25,[(2,none)],S [i0 2,S [R0 3 1 [ge v0 (u 4294967296)],If 4 [2] (S [R0 5 2 [A 0 (B .shr v0 (u 32))],E0 [A 2 (w 32)]])],S [R0 7 1 [ge v0 (u 65536)],If 8 [] (S [R0 9 2 [A 0 (B .shr v0 (u 16))],R0 11 2 [A 2 (ad v2 (w 16))]])],S [R0 13 1 [ge v0 (u 256)],If 14 [] (S [R0 15 2 [A 0 (B .shr v0 (u 8))],R0 17 2 [A 2 (ad v2 (w 8))]])],R 19 6 [0] [v2,cw .u8 v0,A 2 (ad (t 19) (cw .i64 (x (.ixS (.const (.string (Hud.bs [0,1,2,2,3,3,3,3,4,4,4,4,4,4,4,4,5,5,5,5,5,5,5,5,5,5,5,5,5,5,5,5,6,6,6,6,6,6,6,6,6,6,6,6,6,6,6,6,6,6,6,6,6,6,6,6,6,6,6,6,6,6,6,6,7,7,7,7,7,7,7,7,7,7,7,7,7,7,7,7,7,7,7,7,7,7,7,7,7,7,7,7,7,7,7,7,7,7,7,7,7,7,7,7,7,7,7,7,7,7,7,7,7,7,7,7,7,7,7,7,7,7,7,7,7,7,7,7,8,8,8,8,8,8,8,8,8,8,8,8,8,8,8,8,8,8,8,8,8,8,8,8,8,8,8,8,8,8,8,8,8,8,8,8,8,8,8,8,8,8,8,8,8,8,8,8,8,8,8,8,8,8,8,8,8,8,8,8,8,8,8,8,8,8,8,8,8,8,8,8,8,8,8,8,8,8,8,8,8,8,8,8,8,8,8,8,8,8,8,8,8,8,8,8,8,8,8,8,8,8,8,8,8,8,8,8,8,8,8,8,8,8,8,8,8,8,8,8,8,8,8,8,8,8,8,8]))) (zt 21)))))],.ret]⟩:=s_
def N5:cF xU []=some ⟨18,[(4,none)],S [E0 [A 4 (u 0)],E 5 [s 1 (al [zU]) (u 1)],S [R 8 2 [0,1] [c2 yQ v0 v1],bw 0 (.rng (zt 10) [11,12] [5] (.seq (.seq (.reg [⟨some 6,.mov (zt 11),none⟩]) (.kill [11])) (.seq (.reg [⟨some 7,.mov (zt 12),none⟩]) (.kill [12]))) (.block 1 (.seq (.seq (.reg [⟨some 13,.mov (zt 7),none⟩]) (.kill [7])) (.cond (zt 13) (.seq (.kill [13]) (.seq (.reg [⟨some 14,.ld none (zt 5),none⟩,⟨some 15,.mov (zt 6),none⟩,⟨some 16,.call (.func qW) [zt 14,zt 15],none⟩,⟨none,.st 1 (zt 5) (zt 16),none⟩]) (.kill [5,6,16,15,14]))) (.seq (.kill [5,6,13]) .skip)))))],R 17 1 [5] [A 4 (l t5)],.ret]⟩:=s_
def N6:cF Bo [(2,none,1),(3,none,1)]=some ⟨37,[(2,none)],S [R0 2 1 [M z],S [iz 3,ow 3 1],S [i0 4,lo 0 (S [S [R0 7 3 [ls v4 (n v0)],Ie 10 [] .skip [4,0] (ex 0)],bw 1 (S [E0 [A 5 (u 0)],S [R0 13 6 [A 6 (sb (mm false (n v0) (ad v4 (w 7))) w1)],lo 2 (S [S [R0 19 2 [ge v6 v4],Ie 21 [] .skip [6] (ex 2)],bw 3 (R0 24 8 [A 5 (ad (mu v5 (u 256)) (cw .u64 (l (i 1 v0 v6))))]),R0 22 2 [A 6 (sb v6 w1)]])],R 32 4 [5] [A 3 (a 1 8 v3 (ba 1 [zU] v5))],ow 3 1]),R0 11 2 [A 4 (ad v4 (w 7))]])],S [R 36 1 [3] [A 2 v3],ow 2 1],.ret]⟩:=s_
def SN:cF GB []=some ⟨11,[(4,none)],S [R0 4 1 [M (u 0)],R 5 6 [0,1] [rm (ad (rm v0 (u 2305843009213693951)) (rm v1 (u 2305843009213693951))) (u 2305843009213693951),J 4 v10],.ret]⟩:=s_
def SO:cF wD []=some ⟨25,[(4,none)],S [R0 4 1 [M (u 0)],E0 [A 5 (u 1)],R 8 2 [0] [A 6 (rm v0 (u 2305843009213693951))],S [R 10 1 [1] [A 7 v1],lo 0 (S [S [R0 11 1 [gt v7 (u 0)],Ie 12 [] .skip [7,6] (ex 0)],bw 1 (S [S [R0 15 2 [eq (rm v7 (u 2)) (u 1)],If 17 [] (R0 18 3 [A 5 (c2 AX v5 v6)])],R0 21 3 [A 6 (c2 AX v6 v6)]]),R0 13 2 [A 7 (qu v7 (u 2))]])],R 24 1 [5] [A 4 v5],.ret]⟩:=s_
def qG:cF nS []=some ⟨29,[],S [R 2 0 [0] [b t0],R 7 1 [1] [c2 lX (l t1) (w 7)],bw 0 (.rng (zt 8) [9] [2] (.seq (.reg [⟨some 3,.mov (zt 9),none⟩]) (.kill [9])) (.block 1 (.seq (.reg [⟨some 4,.mov (zu 0),none⟩]) (.seq (.seq (.seq (.reg [⟨some 10,.mov (zt 3),none⟩,⟨some 11,.lenL (zt 10),none⟩,⟨some 12,.mov (zw 0),none⟩]) (.kill [3])) (.block 2 (.loop [] (.seq (.reg [⟨some 13,.bin .lss (zt 12) (zt 11),none⟩]) (.seq (.cond (zt 13) (.seq (.kill [13]) .skip) (.seq (.kill [12,10,11,13]) (.exit 2))) (.seq (.block 3 (.seq (.seq (.reg [⟨some 14,.mov (zt 12),none⟩,⟨some 15,.iad (zt 10) (zt 12) 1,none⟩,⟨some 16,.ld none (zt 15),none⟩,⟨some 5,.mov (zt 14),none⟩,⟨some 6,.mov (zt 16),none⟩]) (.kill [16,15,14])) (.seq (.reg [⟨some 17,.mov (zt 4),none⟩,⟨some 18,.mov (zt 6),none⟩,⟨some 19,.conv .u64 (zt 18),none⟩,⟨some 20,.mov (zt 5),none⟩,⟨some 21,.bin .mul (zw 8) (zt 20),none⟩,⟨some 22,.bin .shl (zt 19) (zt 21),none⟩,⟨some 23,.bin .or (zt 17) (zt 22),none⟩,⟨some 4,.mov (zt 23),none⟩]) (.kill [6,5,23,22,21,20,19,18,17])))) (.seq (.reg [⟨some 24,.bin .add (zt 12) (zw 1),none⟩,⟨some 12,.mov (zt 24),none⟩]) (.kill [24])))))))) (.seq (.seq (.reg [⟨some 25,.ld none (zt 2),none⟩,⟨some 26,.mov (zt 4),none⟩,⟨some 27,.call (zt 25) [zt 26],none⟩,⟨some 28,.un .not (zt 27),none⟩]) (.kill [2,4,27,26,25])) (.cond (zt 28) (.seq (.kill [28]) .ret) (.seq (.kill [28]) .skip)))))))]⟩:=s_
def yU:cF lX []=some ⟨9,[(4,none)],S [R 4 1 [0,1] [J 2 (b t0),b t1,M (kc (.const .nilFunc))],S [R0 5 1 [ls (l t3) w1],If 6 [] (R0 7 1 [x .bad,Y .bad])],R 8 1 [2,3] [A 4 (x (.clo kS [zt 2,zt 3]))],.ret]⟩:=s_
def HX:cF yQ []=some ⟨6,[(4,none)],S [R 4 1 [0,1] [J 2 (b t0),b t1,M (kc (.const .nilFunc))],R 5 1 [2,3] [x (.clo vE [zt 2,zt 3]),J 4 v5],.ret]⟩:=s_
def fN:cF kS []=some ⟨31,[],S [i0 4,lo 0 (S [S [R0 6 3 [ls v4 (n (l t1))],Ie 9 [] .skip [2,1,4,0] (ex 0)],bw 1 (S [D 13 6 [] [l t2,l t1,v4,A 5 (mm false (t 13) (n (x (.slc (zt 14) (some (zt 15)) none 1))))],R 19 11 [5] [v0,l t1,v4,ad v4 v5,ad v4 v5,o (d1 (t 19) (x (.slx (zt 20) (some (zt 21)) (zt 24) (zt 27) 1)))],If 30 [4,2,0,1] .ret]),R0 10 3 [A 4 (ad v4 (l t2))]])]⟩:=s_
def yA:cF vE []=some ⟨22,[],S [R 5 2 [1] [c1 gV (l t1),J 4 v6],lo 0 (S [S [R0 7 9 [N (gt (l t2) (u 0)) (d2 v0 v4 (eq (B .and (l t2) (u 1)) (u 1)))],Ie 16 [] .skip [4,0,2] (ex 0)],bw 1 (R0 19 3 [A 4 (c2 qW v4 v4)]),R0 17 2 [s 1 t2 (B .shr (l t2) (u 1))]])]⟩:=s_
end
end Hud
namespace Hud
def Xf(m:Nat):Nat->Nat->Nat->Nat->Nat|0,_,_,a=>a|f+1,b,e,a=>if e=0 then a else Xf m f (b*b%m) (e/2) (if e%2=1 then a*b%m else a)
def SP (m:Nat):∀(f b e acc:Nat),e<2^f->Xf m f b e acc%m=acc*b^e%m
 |0,b,e,acc,h=>by
  have:e=0:=ox;subst this;simp[Xf]
 | f+1,b,e,acc,h=>by
  simp only[Xf];split;rename_i h0;subst h0;simp;rw[SP m f _ (e/2) _ (by rw[QM]at h;omega)];have h2:b^e=(b*b)^(e/2)*b^(e%2):=by rw[<-Nat.pow_two,<-IA,<-aBX];congr 1;omega
  rw[CY,Kn,Mn,<-Kn,<-CY,h2];rcases Nat.mod_two_eq_zero_or_one e with h3|h3;rw[h3];simp;rw[h3];simp only[if_true,Nat.pow_one];rw[CY,Mn,<-CY];congr 1;rw[aBZ,QP b]
def PP:Nat:=2305843009213693951
def NN:Nat:=2305843009213693950
def Wb:V_:=[2,3,5,7,11,13,31,41,61,151,331,1321]
def aGX:37^NN%PP=1:=by have:=SP PP 61 37 NN 1 d_;rw[Km]at this;rw[<-this];decide +kernel
def aJR:∀r∈Wb,37^(NN/r)%PP≠1:=by
 intro r b;have a:∀r∈Wb,Xf PP 61 37 (NN/r) 1%PP≠1:=oh;have:=SP PP 61 37 (NN/r) 1 (QJ (Ml _ _) d_);rw[Km]at this;rw[<-this];exact a r b
def N7:∀r∈Wb,1<r/\∀d,d ∣ r->d=1\/d=r:=by
 have a:∀r∈Wb,1<r/\∀d,d<r->1<d->r%d≠0:=oh;intro r c;obtain⟨h1,h2⟩:=a r c;refine⟨h1,λd b=>?_⟩;have f:=Nat.le_of_dvd o_ b;have h0:d≠0:=λe=>by subst e;rw[Nat.zero_dvd]at b;omega
 by_cases h:d=1;exact .inl h;by_cases g:d=r;exact .inr g;exact absurd (Nat.mod_eq_zero_of_dvd b) (h2 d o_ o_)
def aFg:NN=2*(3^2*(5^2*(7*(11*(13*(31*(41*(61*(151*(331*1321)))))))))):=d_
def aHM{r m:Nat}(a:∀d,d ∣ r->d=1\/d=r):Nat.Coprime m r\/r ∣ m:=by rcases a (Nat.gcd m r) (Nat.gcd_dvd_right m r) with h|h;exact .inl h;exact .inr (h ▸ Nat.gcd_dvd_left m r)
def aCO {e:Nat} (o:e ∣ NN) (l:e<NN):∃r∈Wb,e ∣ NN/r:=by
 obtain⟨m,j⟩:=o;have g:m≠1:=λh=>by subst h;omega
 have i:∃r∈Wb,r ∣ m:=by
  refine QB λf=>g ?_;have a:∀r∈Wb,Nat.Coprime m r:=λr b=>(aHM (N7 r b).2).resolve_right λh=>f ⟨r,b,h⟩;have c:Nat.Coprime m NN:=by
   rw[aFg];exact Me (a 2 d_) <| Me (Nat.Coprime.pow_right _ (a 3 d_)) <| Me (Nat.Coprime.pow_right _ (a 5 d_)) <|
    Me (a 7 d_) <| Me (a 11 d_) <| Me (a 13 d_) <| Me (a 31 d_) <|
    Me (a 41 d_) <| Me (a 61 d_) <| Me (a 151 d_) <| Me (a 331 d_) (a 1321 d_)
  have:Nat.gcd m NN=m:=Nat.gcd_eq_left ⟨e,by rw[QP];exact j⟩;rw[<-this];exact c
 obtain⟨r,b,k,n⟩:=i;refine⟨r,b,k,?_⟩;have d:0<r:=by have:=(N7 r b).1;omega
 rw[j,n,Nat.mul_left_comm,Nat.mul_div_cancel_left _ d]
def UP{g m:Nat}(c:1<m):∀(a b:Nat),g^a%m=1->g^b%m=1->g^Nat.gcd a b%m=1:=by
 intro a b
 induction a,b using Nat.gcd.induction with
 |H0 n=>intro _ h;simpa using h|H1 a b e ih=>
  intro h1 h2;rw[Nat.gcd_rec];refine ih ?_ h1;have d:b=a*(b/a)+b%a:=(QL b a).symm;rw[d,aBX,IA,CY,Kn,h1,Nat.one_pow,EZ c,Km,Mn]at h2;exact h2
def aHN{d:Nat}(h0:0<d)(c:d<NN):37^d%PP≠1:=by intro h;have i:=UP (g:=37) (m:=PP) d_ d NN h aGX;have a:=Nat.gcd_dvd_right d NN;have e:Nat.gcd d NN<=d:=Nat.le_of_dvd h0 (Nat.gcd_dvd_left d NN);obtain⟨r,b,k,f⟩:=aCO a o_;apply aJR r b;rw[f,IA,Kn,i,Nat.one_pow];decide
def aCP(i:Nat):Nat.Coprime (37^i) PP:=Nat.Coprime.pow_left i d_
def aHO{i j:Nat}(c:i<j)(l:j<NN):37^i%PP≠37^j%PP:=by
 intro h;have b:PP ∣ 37^j-37^i:=Nat.dvd_of_mod_eq_zero (Nat.sub_mod_eq_zero_of_mod_eq h.symm);have e:37^j-37^i=37^i*(37^(j-i)-1):=by rw[Nat.mul_sub,<-aBX,Bb];congr 2;omega
 rw[e]at b;have a:=Nat.Coprime.dvd_of_dvd_mul_left (aCP i).symm b;apply aHN (d:=j-i) o_ o_;have h1:1<=37^(j-i):=Nat.one_le_pow _ _ d_;obtain⟨k,g⟩:=a;have f:37^(j-i)=1+PP*k:=o_;rw[f,Nat.add_mul_mod_self_left];decide
def aCQ:∀(n:Nat)(l:V_),l.Nodup->(∀x∈l,x<n)->l.length<=n
 |0,l,_,h=>by
  cases l with
  |nil=>simp|cons x l=>have:=h x k_;omega
 | n+1,l,d,h=>by
  have h1:=aCQ n (l.filter (· ≠ n)) (d.filter _) (λx b=>by
   simp only[aBD,decide_eq_true_eq]at b;have:=h x b.1;have:=b.2
   omega)
  have h2:l.length<=(l.filter (· ≠ n)).length+1:=by
   clear h h1
   induction l with
   |nil=>simp| cons x l ih=>
    obtain⟨b,c⟩:=BU.1 d;by_cases a:x=n;subst a;have:l.filter (· ≠ x)=l:=Gm.2 λy f=>by simp only[ne_eq,decide_not,EX,decide_eq_false_iff_not];exact λe=>b (e ▸ f)
    rw[List.filter_cons_of_neg k_,this];simp;have:=ih c;simp only[List.filter_cons,ne_eq,a,not_false_eq_true,decide_true,if_true,sE];simpa using this
  omega
def aCR:∀n,n<=NN->((List.range n).map λi=>37^i%PP).Nodup:=by intro n f;rw[Rh,Mh];refine TU ?_ (List.pairwise_lt_range (n:=n));intro a b e d c;rw[uM]at e d;exact aHO c o_
def Wc{L:V_}{n:Nat}(g:L.length+1=n)(f:L.Nodup)(d:0∉L)(c:∀y∈L,y<n){x:Nat}(h0:0<x)(e:x<n):x∈L:=by
 refine QB λb=>?_
 have:=aCQ n (0::x::L) (by
  rw[BU,BU];refine⟨λh=>?_,b,f⟩;rcases cS.1 h with h|h;omega
  exact d h) (by
  intro y a;rcases cS.1 a with rfl|a;omega;rcases cS.1 a with rfl|a;exact e
  exact c y a)
 simp only[sE]at this;omega
def aFh(n:Nat):0∉((List.range n).map λi=>37^i%PP):=by intro h;obtain⟨i,_,a⟩:=dF.1 h;have:PP ∣ 37^i:=Nat.dvd_of_mod_eq_zero a;have h1:Nat.gcd (37^i) PP=PP:=Nat.gcd_eq_right this;rw[aCP i]at h1;exact absurd h1 d_
def aHP:0<PP:=d_
def aJS:NN+1=PP:=d_
def aHQ(n:Nat)(c:n+1=PP)(e:n<=NN){x:Nat}(h0:0<x)(a:x<PP):∃i,x=37^i%PP:=by
 have:=Wc (L:=(List.range n).map λi=>37^i%PP) (n:=PP) (by rw[aP,QK];exact c) (aCR n e) (aFh n) (λy b=>by
  obtain⟨i,_,rfl⟩:=dF.1 b
  exact zM _ aHP) h0 a
 obtain⟨i,_,d⟩:=dF.1 this;exact⟨i,d.symm⟩
def aFi{x:Nat}(h0:0<x)(a:x<PP):∃i,x=37^i%PP:=aHQ NN aJS (cN _) h0 a
def aCS{x:Nat}(h:x%PP≠0):x^NN%PP=1:=by obtain⟨i,a⟩:=aFi (x:=x%PP) o_ (zM _ d_);rw[Kn,a,<-Kn,<-IA,QP,IA,Kn,aGX,Nat.one_pow];decide
def aFj{x y:Nat}(h:x*y%PP=0):x%PP=0\/y%PP=0:=by
 by_cases a:x%PP=0;exact .inl a;refine .inr ?_;have h1:=aCS a;have e:x^NN=x^(NN-1)*x:=by rw[<-QM];rfl
 have:x^NN*y%PP=0:=by rw[e,aBZ,CY,h,aGN,Nat.zero_mod]
 rw[CY,h1,Km,Mn]at this;exact this
end Hud
namespace Hud
instance:NeZero PP:=⟨d_⟩
abbrev Fq:=Fin PP
def aFk{a b:Fq}(h:a*b=0):a=0\/b=0:=by
 have h1:(a*b).val=0:=ou;rw[Fin.val_mul]at h1;rcases aFj h1 with h2|h2;left;apply Fin.ext;rw[EZ a.isLt]at h2;simpa using h2;right;apply Fin.ext;rw[EZ b.isLt]at h2;simpa using h2
def Jy(a:Fq)(n:Nat):(a^n).val=a.val^n%PP:=l_
def aAo{a:Fq}(h:a≠0):a^NN=1:=by apply Fin.ext;rw[Jy,aCS];rfl;rw[EZ a.isLt];simp_all
def inv(a:Fq):Fq:=a^(NN-1)
def aNv:(1:Fq)≠0:=d_
def ev:List Fq->Fq->Fq|[],_=>0|c::l,t=>c+t*ev l t
def zp(l:List Fq):Prop:=∀c∈l,c=0
def sd(z:Fq):List Fq->List Fq|[]=>[]|[_]=>[]|_::d::l=>ev (d::l) z::sd z (d::l)
def pa:List Fq->List Fq->List Fq|[],q=>q|p,[]=>p|c::p,d::q=>(c+d)::pa p q
def ps(c:Fq)(p:List Fq):List Fq:=p.map (c*·)
def pm:List Fq->List Fq->List Fq|[],_=>[]|c::p,q=>pa (ps c q) (0::pm p q)
def pr:List Fq->List Fq|[]=>[1]|z::R=>pm [-z,1] (pr R)
end Hud
namespace Hud
end Hud
namespace Hud
end Hud
namespace Hud
def MD(x:Fq)(n:Nat):x^n=(x*x)^(n/2)*x^(n%2):=by
 have a:∀m k:Nat,x^(2*m+k)=(x*x)^m*x^k:=by
  intro m
  induction m with
  |zero=>
   grind
  |succ m ih=>
   intro k;have b:∀(x:Fq)(k:Nat),x^(k+1)=x^k*x:=λx k=>l_;grind
 rw[<-a,QL]
def pw0(x:Fq):x^0=1:=l_
def pw1(x:Fq):x^1=x:=l_
def Wd(x:Fq)(a b:Nat):x^(a+b)=x^a*x^b:=l_
end Hud
