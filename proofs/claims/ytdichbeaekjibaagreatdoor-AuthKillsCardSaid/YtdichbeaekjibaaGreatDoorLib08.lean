import Derived.Test.YtdichbeaekjibaaGreatDoorLib07
set_option linter.all false
namespace Hud
open Go
section
open W
def qE:HFun:=⟨6,[(2,none)],S [R0 2 1 [M F],R 3 3 [0] [ne v0 v0,J 2 v5],.ret]⟩
def sD:cF jG []=some qE:=by kernel_rfl
end
section
open W
def uQ:HFun:=⟨6,[(2,none)],S [R0 2 1 [M F],R 3 3 [0] [ne v0 v0,J 2 v5],.ret]⟩
def xA:cF lW []=some uQ:=by kernel_rfl
def gU:HFun:=⟨14,[],S [R0 5 2 [n v0,J 4 v6],R 7 7 [0,4,1] [c5 bV v0 w0 v4 (c1 pJ (cw .u64 v4)) v1]]⟩
def mA:cF cB []=some gU:=by kernel_rfl
def jM:HFun:=⟨148,[],S [E0 [A 10 T],E0 [A 11 T],lo 0 (bw 1 (S [R0 21 3 [A 12 (sb v2 v1)],S [R0 24 1 [le v12 (w 12)],If 25 [3,10,11,12] (S [R 26 5 [0,1,2,4] [c4 dA v0 v1 v2 v4],.ret])],S [R0 31 1 [eq v3 w0],If 32 [10,11,12,3] (S [R 33 5 [0,1,2,4] [c4 pY v0 v1 v2 v4],.ret])],S [R0 38 1 [o v10],If 39 [] (S [R0 40 5 [c4 mQ v0 v1 v2 v4],R0 45 2 [A 3 (sb v3 w1)]])],R 48 5 [54,53,47] [c4 oB v0 v1 v2 v4,J 47 (v 52),J 53 (e 0 (t 47)),e 1 (t 47),A 13 (t 53),A 14 (t 54)],S [R0 55 1 [eq v14 w2],If 56 [14] (S [R0 57 5 [c4 nF v0 v1 v2 v4],R0 62 6 [A 13 (sb (sb v2 w1) (sb v13 v1))],E0 [A 14 w1]])],S [R 68 7 [14] [N (N v10 v11) (eq v14 w1)],If 75 [] (S [R0 76 4 [c4 kF v0 v1 v2 v4],If 80 [1,4,0,13,12,2,11,10,3] .ret])],S [D 81 16 [] [N (gt v1 w0) (o (ls (d2 v4 (L 3 (i 3 v0 (sb v1 w1))) (L 3 (i 3 v0 v13))) w0))],Iz 97 [12] (S [R 98 6 [1,13] [A 15 (c5 mG v0 v1 v2 v13 v4)],R 104 1 [15] [A 1 v15],ex 1]) [11,10]],R 106 6 [13,113,112,105] [c5 pD v0 v1 v2 v13 v4,J 105 (v 111),J 112 (e 0 (t 105)),e 1 (t 105),A 16 (t 112),A 17 (t 113)],R 114 1 [17] [A 11 v17],R0 115 6 [sb v16 v1,sb v2 v16,A 18 (t 117),A 19 (t 120)],R 121 2 [12] [A 20 (qu v12 (w 8))],R0 123 2 [ls v18 v19],Ie 125 [19] (S [R 126 3 [18,20] [A 10 (ge v18 v20)],R 129 6 [1] [c5 bV v0 v1 v16 v3 v4],R 135 2 [16] [A 1 (ad v16 w1)]]) [18] (S [R 137 3 [19,20] [A 10 (ge v19 v20)],R 140 7 [2] [c5 bV v0 (ad v16 w1) v2 v3 v4],R 147 1 [16] [A 2 v16]])]))]⟩
def oQ:cF bV []=some jM:=by kernel_rfl
def gE:HFun:=⟨53,[],S [R0 10 2 [A 8 (ad v1 w1)],fo 0 12 2 (ls v8 v2) [8,2,0,3,1] 8 (S [R0 17 1 [A 9 v8],lo 2 (S [S [D 18 16 [] [N (gt v9 v1) (ls (d2 v3 (L 3 (i 3 v0 v9)) (L 3 (i 3 v0 (sb v9 w1)))) w0)],Ie 34 [] .skip [9] (ex 2)],bw 3 (D 37 16 [] [v0,v9,v0,sb v9 w1,L 3 (i 3 v0 (sb v9 w1)),L 3 (i 3 v0 v9),K [zo 41 (.bin .sub (zt 40) (zw 1)),zm 40 9,zm 39 0] (s 3 (i 3 (t 37) (t 38)) (t 46)),s 3 (i 3 (t 39) (t 41)) (t 50)]),R0 35 2 [A 9 (sb v9 w1)]])])]⟩
def lK:cF dA []=some gE:=by kernel_rfl
end
section
open W
def IS:cF vK []=some ⟨13,[(4,none)],S [R0 4 1 [M w0],S [R0 5 1 [ls v0 w0],If 6 [] (R0 7 3 [ad v0 w1,A 0 (x (.un .neg (zt 8)))])],R 10 3 [0,1] [A 4 (rm v0 v1)],.ret]⟩:=by kernel_rfl
def Kn:cF nG []=some ⟨21,[(4,none)],S [R0 4 1 [M (u 0)],R 8 5 [0,1,14,13,7] [c2 rI (c1 eR v0) (c1 eR v1),J 7 v12,J 13 (e 0 t7),e 1 t7,J 5 v13,v14],R 15 6 [6,5] [A 4 (c1 eR (ad (c1 eR v6) (B .shl v5 (u 3))))],.ret]⟩:=by kernel_rfl
def OZ:cF wH []=some ⟨59,[(4,none)],S [R0 4 1 [M (u 0)],R0 10 2 [A 0 (rm v0 (u 2305843009213693951))],R0 12 2 [A 1 (rm v1 (u 2305843009213693951))],E0 [A 5 (u 4294967296)],D 14 7 [] [A 6 (mu (rm v0 v5) (rm v1 v5))],D 21 15 [] [A 7 (ad (mu (qu v0 v5) (rm v1 v5)) (mu (rm v0 v5) (qu v1 v5)))],D 36 7 [0,1] [A 8 (mu (qu v0 v5) (qu v1 v5))],E0 [A 9 (u 536870912)],D 43 16 [6,7,9,5,8] [A 4 (rm (ad (ad (ad (rm v6 (u 2305843009213693951)) (mu (rm v7 v9) v5)) (qu v7 v9)) (mu (u 8) v8)) (u 2305843009213693951))],.ret]⟩:=by kernel_rfl
def Oa:cF Di []=some ⟨40,[(4,none)],S [E0 [A 4 (u 0)],R0 9 4 [v0,q1 zUU (cw .u64 (x (.lenS (zt 9)))),J 5 (s 2 (al zUU) (t 12))],S [R 13 2 [0] [v0,c1 vR (x (.s2b (zt 13)))],bw 0 (.rng (zt 15) [16] [5] (.seq (.reg [⟨some 6,.mov (zt 16),none⟩]) (.kill [16])) (.block 1 (.seq (.reg [⟨some 17,.mov (zt 6),none⟩,⟨some 18,.bsl 1 [zU] [(0,(1,zt 17))] 1,none⟩,⟨some 19,.call (.func iB) [zt 5,zt 18],none⟩]) (.kill [6,5,19,18,17]))))],R0 20 5 [c2 iB t5 (ba 1 [zU] (cw .u64 (n v1)))],S [R 26 0 [1] [A 25 t1,n (t 25),A 27 w0],ra 2 27 (t 26) 28 [25,27,26] 35 (S [R0 29 2 [A 8 (l (i 1 (t 25) (t 27)))],R 31 4 [8] [c2 iB t5 (ba 1 [zU] (c1 eR v8))]])],R0 36 2 [c2 iB t5 (ba 1 [zU] (u 0))],R 38 2 [5] [A 4 (l (f 0 t5))],.ret]⟩:=by kernel_rfl
def B1:HFun:=⟨8,[(2,none)],S [R0 2 1 [M w0],.cond (.const (.bool false)) (S [R 3 3 [0] [c1 F6 (cw .u32 v0),J 2 v5],.ret]) .skip,R 6 2 [0] [A 2 (c1 rG v0)],.ret]⟩
def E8:cF pJ []=some B1:=by kernel_rfl
def Ko:cF yG []=some ⟨11,[(4,none)],S [R0 4 1 [M (u 0)],R 5 6 [0,1] [c1 eR (ad (c1 eR v0) (c1 eR v1)),J 4 v10],.ret]⟩:=by kernel_rfl
def C4:cF rI []=some ⟨51,[(4,none),(5,none)],S [R0 4 2 [M (u 0),M (u 0)],R0 14 2 [A 6 (B .and v0 (u 4294967295))],R0 16 2 [A 7 (B .shr v0 (u 32))],R0 18 2 [A 8 (B .and v1 (u 4294967295))],R0 20 2 [A 9 (B .shr v1 (u 32))],R0 22 3 [A 10 (mu v6 v8)],R 25 6 [8,10] [A 11 (ad (mu v7 v8) (B .shr v10 (u 32)))],R0 31 2 [A 12 (B .and v11 (u 4294967295))],R 33 2 [11] [A 13 (B .shr v11 (u 32))],R 35 5 [6] [A 12 (ad v12 (mu v6 v9))],R 40 8 [7,9,13,12] [A 4 (ad (ad (mu v7 v9) v13) (B .shr v12 (u 32)))],R 48 3 [0,1] [A 5 (mu v0 v1)],.ret]⟩:=by kernel_rfl
def Kp:cF eR []=some ⟨13,[(2,none)],S [R0 2 1 [M (u 0)],R0 3 5 [A 0 (ad (B .and v0 (u 2305843009213693951)) (B .shr v0 (u 61)))],S [R0 8 1 [ge v0 (u 2305843009213693951)],If 9 [] (R0 10 2 [A 0 (sb v0 (u 2305843009213693951))])],R 12 1 [0] [A 2 v0],.ret]⟩:=by kernel_rfl
def QY:cF Cq []=some ⟨58,[(4,none)],S [R0 4 1 [M (u 0)],R0 10 8 [v0,A 5 (a 1 8 (c1 yD (x (.s2b (zt 10)))) (ba 1 [zU] (cw .u64 (n v1))))],S [i0 6,fo 0 18 3 (ls v6 (n v1)) [1,6] 6 (R0 24 8 [A 5 (a 1 8 v5 (ba 1 [zU] (rm (l (i 1 v1 v6)) (u 2305843009213693951))))])],R0 32 3 [A 5 (a 1 8 v5 (ba 1 [zU] (u 0)))],R 35 3 [0] [v0,A 7 (cw .u64 (x (.lenS (zt 35))))],S [i0 8,fo 2 38 3 (ls v8 (n v5)) [5,8] 8 (S [D 44 11 [7] [v7,J 46 (l (i 1 v5 v8)),cw .u64 (ad v8 w1),J 45 (K [zo 52 (.conv .u64 (zt 51)),zo 51 (.bin .add (zt 50) (zw 1)),zm 50 8,zl 49 48,zi 48 46 47 1,zm 47 8,zm 46 5] (c2 wH (u 37) (t 44))),J 53 (A 9 (c2 Dj (t 45) (c2 Dj (t 49) (t 52))))],R 55 2 [9] [A 7 (c2 sK v9 (u 17))]])],R 57 1 [7] [A 4 v7],.ret]⟩:=by kernel_rfl
def IT:cF vR []=some ⟨4,[(2,none)],S [R 2 1 [0] [J 1 (b t0),M (kc (.const .nilFunc))],R 3 1 [1] [x (.clo kT [zt 1]),J 2 v3],.ret]⟩:=by kernel_rfl
def C5:cF iB []=some ⟨37,[],S [R 7 0 [1] [A 6 t1,n t6,A 8 w0],ra 0 8 t7 9 [6,8,7,0] 36 (S [R0 10 2 [A 5 (l (i 1 t6 t8))],R0 12 7 [ad (l (f 1 (y v0))) (u 1),s 1 (f 1 (y (t 12))) (t 16)],D 19 17 [5] [v0,l (f 0 (y v0)),J 25 (ad v5 (l (f 1 (y v0)))),J 24 (K [zo 30 (.bin .add (zt 25) (zt 29)),zl 29 28,zf 28 27 1,zo 27 (.nilc (zt 26)),zm 26 0,zm 25 5,zm 19 0] (c2 nG (u 37) (t 23))),J 31 (K [zm 19 0] (c1 eR (t 30))),K [zm 19 0] (c2 yG (t 24) (t 31)),K [zm 19 0] (c2 tR (t 32) (u 17)),s 1 (f 0 (y (t 19))) (t 33)]])]⟩:=by kernel_rfl
def yJ:HFun:=⟨25,[(2,none)],S [i0 2,S [R0 3 1 [ge v0 (u 4294967296)],If 4 [2] (S [R0 5 2 [A 0 (B .shr v0 (u 32))],E0 [A 2 (w 32)]])],S [R0 7 1 [ge v0 (u 65536)],If 8 [] (S [R0 9 2 [A 0 (B .shr v0 (u 16))],R0 11 2 [A 2 (ad v2 (w 16))]])],S [R0 13 1 [ge v0 (u 256)],If 14 [] (S [R0 15 2 [A 0 (B .shr v0 (u 8))],R0 17 2 [A 2 (ad v2 (w 8))]])],R 19 6 [0] [v2,cw .u8 v0,A 2 (ad (t 19) (cw .i64 (x (.ixS (.const (.string (Hud.bs [0,1,2,2,3,3,3,3,4,4,4,4,4,4,4,4,5,5,5,5,5,5,5,5,5,5,5,5,5,5,5,5,6,6,6,6,6,6,6,6,6,6,6,6,6,6,6,6,6,6,6,6,6,6,6,6,6,6,6,6,6,6,6,6,7,7,7,7,7,7,7,7,7,7,7,7,7,7,7,7,7,7,7,7,7,7,7,7,7,7,7,7,7,7,7,7,7,7,7,7,7,7,7,7,7,7,7,7,7,7,7,7,7,7,7,7,7,7,7,7,7,7,7,7,7,7,7,7,8,8,8,8,8,8,8,8,8,8,8,8,8,8,8,8,8,8,8,8,8,8,8,8,8,8,8,8,8,8,8,8,8,8,8,8,8,8,8,8,8,8,8,8,8,8,8,8,8,8,8,8,8,8,8,8,8,8,8,8,8,8,8,8,8,8,8,8,8,8,8,8,8,8,8,8,8,8,8,8,8,8,8,8,8,8,8,8,8,8,8,8,8,8,8,8,8,8,8,8,8,8,8,8,8,8,8,8,8,8,8,8,8,8,8,8,8,8,8,8,8,8,8,8,8,8,8,8]))) (zt 21)))))],.ret]⟩
def C6:cF rG []=some yJ:=by kernel_rfl
def Kq:cF tR []=some ⟨18,[(4,none)],S [E0 [A 4 (u 0)],E 5 [s 1 (al [zU]) (u 1)],S [R 8 2 [0,1] [c2 uN v0 v1],bw 0 (.rng (zt 10) [11,12] [5] (.seq (.seq (.reg [⟨some 6,.mov (zt 11),none⟩]) (.kill [11])) (.seq (.reg [⟨some 7,.mov (zt 12),none⟩]) (.kill [12]))) (.block 1 (.seq (.seq (.reg [⟨some 13,.mov (zt 7),none⟩]) (.kill [7])) (.cond (zt 13) (.seq (.kill [13]) (.seq (.reg [⟨some 14,.ld none (zt 5),none⟩,⟨some 15,.mov (zt 6),none⟩,⟨some 16,.call (.func nG) [zt 14,zt 15],none⟩,⟨none,.st 1 (zt 5) (zt 16),none⟩]) (.kill [5,6,16,15,14]))) (.seq (.kill [5,6,13]) .skip)))))],R 17 1 [5] [A 4 (l t5)],.ret]⟩:=by kernel_rfl
def Kr:cF yD [(2,none,1),(3,none,1)]=some ⟨37,[(2,none)],S [R0 2 1 [M z],S [iz 3,ow 3 1],S [i0 4,lo 0 (S [S [R0 7 3 [ls v4 (n v0)],Ie 10 [] .skip [4,0] (ex 0)],bw 1 (S [E0 [A 5 (u 0)],S [R0 13 6 [A 6 (sb (mm false (n v0) (ad v4 (w 7))) w1)],lo 2 (S [S [R0 19 2 [ge v6 v4],Ie 21 [] .skip [6] (ex 2)],bw 3 (R0 24 8 [A 5 (ad (mu v5 (u 256)) (cw .u64 (l (i 1 v0 v6))))]),R0 22 2 [A 6 (sb v6 w1)]])],R 32 4 [5] [A 3 (a 1 8 v3 (ba 1 [zU] v5))],ow 3 1]),R0 11 2 [A 4 (ad v4 (w 7))]])],S [R 36 1 [3] [A 2 v3],ow 2 1],.ret]⟩:=by kernel_rfl
def Ob:cF Dj []=some ⟨11,[(4,none)],S [R0 4 1 [M (u 0)],R 5 6 [0,1] [rm (ad (rm v0 (u 2305843009213693951)) (rm v1 (u 2305843009213693951))) (u 2305843009213693951),J 4 v10],.ret]⟩:=by kernel_rfl
def Oc:cF sK []=some ⟨25,[(4,none)],S [R0 4 1 [M (u 0)],E0 [A 5 (u 1)],R 8 2 [0] [A 6 (rm v0 (u 2305843009213693951))],S [R 10 1 [1] [A 7 v1],lo 0 (S [S [R0 11 1 [gt v7 (u 0)],Ie 12 [] .skip [7,6] (ex 0)],bw 1 (S [S [R0 15 2 [eq (rm v7 (u 2)) (u 1)],If 17 [] (R0 18 3 [A 5 (c2 wH v5 v6)])],R0 21 3 [A 6 (c2 wH v6 v6)]]),R0 13 2 [A 7 (qu v7 (u 2))]])],R 24 1 [5] [A 4 v5],.ret]⟩:=by kernel_rfl
def mP:cF kT []=some ⟨29,[],S [R 2 0 [0] [b t0],R 7 1 [1] [c2 jP (l t1) (w 7)],bw 0 (.rng (zt 8) [9] [2] (.seq (.reg [⟨some 3,.mov (zt 9),none⟩]) (.kill [9])) (.block 1 (.seq (.reg [⟨some 4,.mov (zu 0),none⟩]) (.seq (.seq (.seq (.reg [⟨some 10,.mov (zt 3),none⟩,⟨some 11,.lenL (zt 10),none⟩,⟨some 12,.mov (zw 0),none⟩]) (.kill [3])) (.block 2 (.loop [] (.seq (.reg [⟨some 13,.bin .lss (zt 12) (zt 11),none⟩]) (.seq (.cond (zt 13) (.seq (.kill [13]) .skip) (.seq (.kill [12,10,11,13]) (.exit 2))) (.seq (.block 3 (.seq (.seq (.reg [⟨some 14,.mov (zt 12),none⟩,⟨some 15,.iad (zt 10) (zt 12) 1,none⟩,⟨some 16,.ld none (zt 15),none⟩,⟨some 5,.mov (zt 14),none⟩,⟨some 6,.mov (zt 16),none⟩]) (.kill [16,15,14])) (.seq (.reg [⟨some 17,.mov (zt 4),none⟩,⟨some 18,.mov (zt 6),none⟩,⟨some 19,.conv .u64 (zt 18),none⟩,⟨some 20,.mov (zt 5),none⟩,⟨some 21,.bin .mul (zw 8) (zt 20),none⟩,⟨some 22,.bin .shl (zt 19) (zt 21),none⟩,⟨some 23,.bin .or (zt 17) (zt 22),none⟩,⟨some 4,.mov (zt 23),none⟩]) (.kill [6,5,23,22,21,20,19,18,17])))) (.seq (.reg [⟨some 24,.bin .add (zt 12) (zw 1),none⟩,⟨some 12,.mov (zt 24),none⟩]) (.kill [24])))))))) (.seq (.seq (.reg [⟨some 25,.ld none (zt 2),none⟩,⟨some 26,.mov (zt 4),none⟩,⟨some 27,.call (zt 25) [zt 26],none⟩,⟨some 28,.un .not (zt 27),none⟩]) (.kill [2,4,27,26,25])) (.cond (zt 28) (.seq (.kill [28]) .ret) (.seq (.kill [28]) .skip)))))))]⟩:=by kernel_rfl
def uR:cF jP []=some ⟨9,[(4,none)],S [R 4 1 [0,1] [J 2 (b t0),b t1,M (kc (.const .nilFunc))],S [R0 5 1 [ls (l t3) w1],If 6 [] (R0 7 1 [x .bad,Y .bad])],R 8 1 [2,3] [A 4 (x (.clo iM [zt 2,zt 3]))],.ret]⟩:=by kernel_rfl
def E9:cF uN []=some ⟨6,[(4,none)],S [R 4 1 [0,1] [J 2 (b t0),b t1,M (kc (.const .nilFunc))],R 5 1 [2,3] [x (.clo rJ [zt 2,zt 3]),J 4 v5],.ret]⟩:=by kernel_rfl
def dS:cF iM []=some ⟨31,[],S [i0 4,lo 0 (S [S [R0 6 3 [ls v4 (n (l t1))],Ie 9 [] .skip [2,1,4,0] (ex 0)],bw 1 (S [D 13 6 [] [l t2,l t1,v4,A 5 (mm false (t 13) (n (x (.slc (zt 14) (some (zt 15)) none 1))))],R 19 11 [5] [v0,l t1,v4,ad v4 v5,ad v4 v5,o (d1 (t 19) (x (.slx (zt 20) (some (zt 21)) (zt 24) (zt 27) 1)))],If 30 [4,2,0,1] .ret]),R0 10 3 [A 4 (ad v4 (l t2))]])]⟩:=by kernel_rfl
def tX:cF rJ []=some ⟨22,[],S [R 5 2 [1] [c1 eR (l t1),J 4 v6],lo 0 (S [S [R0 7 9 [N (gt (l t2) (u 0)) (d2 v0 v4 (eq (B .and (l t2) (u 1)) (u 1)))],Ie 16 [] .skip [4,0,2] (ex 0)],bw 1 (R0 19 3 [A 4 (c2 nG v4 v4)]),R0 17 2 [s 1 t2 (B .shr (l t2) (u 1))]])]⟩:=by kernel_rfl
end
end Hud
section
namespace Hud
def XQ (m:Nat):Nat→Nat→Nat→Nat→Nat
 | 0,_,_,acc=>acc
 | f+1,b,e,acc=>if e=0 then acc else XQ m f (b*b%m) (e/2) (if e%2=1 then acc*b%m else acc)
def Od (m:Nat):∀ (f b e acc:Nat),e<2^f→XQ m f b e acc%m=acc*b^e%m
 | 0,b,e,acc,h=>by
  have:e=0:=by simp at h;omega
  subst this;simp [XQ]
 | f+1,b,e,acc,h=>by
  simp only [XQ];split
  ·rename_i h0;subst h0;simp
  ·rw [Od m f _ (e/2) _ (by rw [Mo] at h;omega)];have h2:b^e=(b*b)^(e/2)*b^(e%2):=by
    rw [←Nat.pow_two,←FZ,←Nat.pow_add];congr 1;omega
   rw [Gn,Hm,JX,←Hm,←Gn,h2];rcases Nat.mod_two_eq_zero_or_one e with h3 | h3
   ·rw [h3];simp
   ·rw [h3];simp only [if_true,Nat.pow_one];rw [Gn,JX,←Gn];congr 1;rw [Xv,Mq b]
def PP:Nat:=2305843009213693951
def NN:Nat:=2305843009213693950
def Sg:List Nat:=[2,3,5,7,11,13,31,41,61,151,331,1321]
def aC7:37^NN%PP=1:=by
 have:=Od PP 61 37 NN 1 (by decide);rw [Hl] at this;rw [←this];decide +kernel
def aEN:∀ r∈Sg,37^(NN/r)%PP≠1:=by
 intro r hr;have key:∀ r∈Sg,XQ PP 61 37 (NN/r) 1%PP≠1:=by decide +kernel
 have:=Od PP 61 37 (NN/r) 1 (Mg (Ml _ _) (by decide));rw [Hl] at this;rw [←this];exact key r hr
def Ks:∀ r∈Sg,1<r∧∀ d,d ∣ r→d=1∨d=r:=by
 have key:∀ r∈Sg,1<r∧∀ d,d<r→1<d→r%d≠0:=by decide +kernel
 intro r hr;obtain ⟨h1,h2⟩:=key r hr;refine ⟨h1,λd hd=>?_⟩;have hle:=Nat.le_of_dvd (by omega) hd;have h0:d≠0:=λe=>by subst e;rw [Nat.zero_dvd] at hd;omega
 by_cases h:d=1
 ·exact .inl h
 ·by_cases h':d=r
  ·exact .inr h'
  ·exact absurd (Nat.mod_eq_zero_of_dvd hd) (h2 d (by omega) (by omega))
def aAL:NN=2*(3^2*(5^2*(7*(11*(13*(31*(41*(61*(151*(331*1321)))))))))):=by decide
def aCZ {r m:Nat} (hr:∀ d,d ∣ r→d=1∨d=r):Nat.Coprime m r∨r ∣ m:=by
 rcases hr (Nat.gcd m r) (Nat.gcd_dvd_right m r) with h | h
 ·exact .inl h
 ·exact .inr (h ▸ Nat.gcd_dvd_left m r)
def Yi {e:Nat} (hd:e ∣ NN) (hlt:e<NN):∃ r∈Sg,e ∣ NN/r:=by
 obtain ⟨m,hm⟩:=hd;have hm1:m≠1:=λh=>by subst h;omega
 have hex:∃ r∈Sg,r ∣ m:=by
  refine Tu λhno=>hm1 ?_;have hc:∀ r∈Sg,Nat.Coprime m r:=λr hr=>(aCZ (Ks r hr).2).resolve_right λh=>hno ⟨r,hr,h⟩;have hcop:Nat.Coprime m NN:=by
   rw [aAL];exact JR (hc 2 (by decide)) <| JR (Nat.Coprime.pow_right _ (hc 3 (by decide))) <| JR (Nat.Coprime.pow_right _ (hc 5 (by decide))) <|
    JR (hc 7 (by decide)) <| JR (hc 11 (by decide)) <| JR (hc 13 (by decide)) <| JR (hc 31 (by decide)) <|
    JR (hc 41 (by decide)) <| JR (hc 61 (by decide)) <| JR (hc 151 (by decide)) <| JR (hc 331 (by decide)) (hc 1321 (by decide))
  have:Nat.gcd m NN=m:=Nat.gcd_eq_left ⟨e,by rw [Mq];exact hm⟩;rw [←this];exact hcop
 obtain ⟨r,hr,k,hk⟩:=hex;refine ⟨r,hr,k,?_⟩;have hr0:0<r:=by have:=(Ks r hr).1;omega
 rw [hm,hk,Nat.mul_left_comm,Nat.mul_div_cancel_left _ hr0]
def QZ {g m:Nat} (hm:1<m):∀ (a b:Nat),g^a%m=1→g^b%m=1→g^Nat.gcd a b%m=1:=by
 intro a b
 induction a,b using Nat.gcd.induction with
 | H0 n=>intro _ h;simpa using h
 | H1 a b ha ih =>
  intro h1 h2;rw [Nat.gcd_rec];refine ih ?_ h1;have hb:b=a*(b/a)+b%a:=(Mm b a).symm;rw [hb,Nat.pow_add,FZ,Gn,Hm,h1,Nat.one_pow,CL hm,Hl,JX] at h2;exact h2
def aD0 {d:Nat} (h0:0<d) (hlt:d<NN):37^d%PP≠1:=by
 intro h;have hg:=QZ (g:=37) (m:=PP) (by decide) d NN h aC7;have hdvd:=Nat.gcd_dvd_right d NN;have hle:Nat.gcd d NN≤d:=Nat.le_of_dvd h0 (Nat.gcd_dvd_left d NN);obtain ⟨r,hr,k,hk⟩:=Yi hdvd (by omega);refine aEN r hr ?_;rw [hk,FZ,Hm,hg,Nat.one_pow];decide
def Yj (i:Nat):Nat.Coprime (37^i) PP:=Nat.Coprime.pow_left i (by decide)
def aD1 {i j:Nat} (hij:i<j) (hj:j<NN):37^i%PP≠37^j%PP:=by
 intro h;have hd:PP ∣ 37^j-37^i:=Nat.dvd_of_mod_eq_zero (Nat.sub_mod_eq_zero_of_mod_eq h.symm);have e:37^j-37^i=37^i*(37^(j-i)-1):=by
  rw [Nat.mul_sub,←Nat.pow_add,FX];congr 2;omega
 rw [e] at hd;have hd2:=Nat.Coprime.dvd_of_dvd_mul_left (Yj i).symm hd;refine aD0 (d:=j-i) (by omega) (by omega) ?_;have h1:1≤37^(j-i):=Nat.one_le_pow _ _ (by decide);obtain ⟨k,hk⟩:=hd2;have e1:37^(j-i)=1+PP*k:=by omega
 rw [e1,Nat.add_mul_mod_self_left];decide
def Yk:∀ (n:Nat) (l:List Nat),l.Nodup→(∀ x∈l,x<n)→l.length≤n
 | 0,l,_,h=>by
  cases l with
  | nil=>simp
  | cons x l=>have:=h x (by simp);omega
 | n+1,l,hn,h=>by
  have h1:=Yk n (l.filter (· ≠ n)) (hn.filter _) (λx hx=>by
   simp only [uD,decide_eq_true_eq] at hx;have:=h x hx.1;have:=hx.2
   omega)
  have h2:l.length≤(l.filter (· ≠ n)).length+1:=by
   clear h h1
   induction l with
   | nil=>simp
   | cons x l ih =>
    obtain ⟨hx,hn'⟩:=IA.1 hn;by_cases hxn:x=n
    ·subst hxn;have:l.filter (· ≠ x)=l:=List.filter_eq_self.2 λy hy=>by
      simp only [ne_eq,decide_not,Gl,decide_eq_false_iff_not];exact λe=>hx (e ▸ hy)
     rw [List.filter_cons_of_neg (by simp),this];simp
    ·have:=ih hn';simp only [List.filter_cons,ne_eq,hxn,not_false_eq_true,decide_true,if_true,wJ];simpa using this
  omega
def Yl:∀ n,n≤NN→((List.range n).map λi=>37^i%PP).Nodup:=by
 intro n hn;rw [Nv,Pj];refine Pd ?_ (List.pairwise_lt_range (n:=n));intro a b ha hb hab;rw [sH] at ha hb;exact aD1 hab (by omega)
def Sh {L:List Nat} {n:Nat} (hl:L.length+1=n) (hn:L.Nodup) (hz:0∉L) (hlt:∀ y∈L,y<n) {x:Nat} (h0:0<x) (hx:x<n):x∈L:=by
 refine Tu λhno=>?_
 have:=Yk n (0::x::L) (by
  rw [IA,IA];refine ⟨λh=>?_,hno,hn⟩;rcases jB.1 h with h | h
  ·omega
  ·exact hz h) (by
  intro y hy;rcases jB.1 hy with rfl | hy
  ·omega
  ·rcases jB.1 hy with rfl | hy
   ·exact hx
   ·exact hlt y hy)
 simp only [wJ] at this;omega
def aAM (n:Nat):0∉((List.range n).map λi=>37^i%PP):=by
 intro h;obtain ⟨i,_,hi⟩:=cZ.1 h;have:PP ∣ 37^i:=Nat.dvd_of_mod_eq_zero hi;have h1:Nat.gcd (37^i) PP=PP:=Nat.gcd_eq_right this;rw [Yj i] at h1;exact absurd h1 (by decide)
def aD2:0<PP:=by decide
def aEO:NN+1=PP:=by decide
def aD3 (n:Nat) (hn:n+1=PP) (hN:n≤NN) {x:Nat} (h0:0<x) (hlt:x<PP):∃ i,x=37^i%PP:=by
 have:=Sh (L:=(List.range n).map λi=>37^i%PP) (n:=PP) (by rw [aL,Mi];exact hn) (Yl n hN) (aAM n) (λy hy=>by
  obtain ⟨i,_,rfl⟩:=cZ.1 hy
  exact vF _ aD2) h0 hlt
 obtain ⟨i,_,hi⟩:=cZ.1 this;exact ⟨i,hi.symm⟩
def aAN {x:Nat} (h0:0<x) (hlt:x<PP):∃ i,x=37^i%PP:=aD3 NN aEO (cT _) h0 hlt
def Ym {x:Nat} (h:x%PP≠0):x^NN%PP=1:=by
 obtain ⟨i,hi⟩:=aAN (x:=x%PP) (by omega) (vF _ (by decide));rw [Hm,hi,←Hm,←FZ,Mq,FZ,Hm,aC7,Nat.one_pow];decide
def aAO {x y:Nat} (h:x*y%PP=0):x%PP=0∨y%PP=0:=by
 by_cases hx:x%PP=0
 ·exact .inl hx
 ·refine .inr ?_;have h1:=Ym hx;have e:x^NN=x^(NN-1)*x:=by rw [←Mo];rfl
  have:x^NN*y%PP=0:=by
   rw [e,Xv,Gn,h,UD,Nat.zero_mod]
  rw [Gn,h1,Hl,JX] at this;exact this
end Hud
end
section
namespace Hud
instance:NeZero PP:=⟨by decide⟩
abbrev Fq:=Fin PP
def aAP {a b:Fq} (h:a*b=0):a=0∨b=0:=by
 have h1:(a*b).val=0:=by rw [h];rfl
 rw [Fin.val_mul] at h1;rcases aAO h1 with h2 | h2
 ·left;apply Fin.ext;rw [CL a.isLt] at h2;simpa using h2
 ·right;apply Fin.ext;rw [CL b.isLt] at h2;simpa using h2
def HG (a:Fq) (n:Nat):(a^n).val=a.val^n%PP:=by
 grind
def WW {a:Fq} (h:a≠0):a^NN=1:=by
 apply Fin.ext;rw [HG,Ym]
 ·rfl
 ·rw [CL a.isLt];simp_all
def inv (a:Fq):Fq:=a^(NN-1)
def aIf:(1:Fq)≠0:=by decide
def ev:List Fq→Fq→Fq
 | [],_=>0
 | c::l,t=>c+t*ev l t
def zp (l:List Fq):Prop:=∀ c∈l,c=0
def sd (z:Fq):List Fq→List Fq
 | []=>[]
 | [_]=>[]
 | _::d::l=>ev (d::l) z::sd z (d::l)
def pa:List Fq→List Fq→List Fq
 | [],q=>q
 | p,[]=>p
 | c::p,d::q=>(c+d)::pa p q
def ps (c:Fq) (p:List Fq):List Fq:=p.map (c*·)
def pm:List Fq→List Fq→List Fq
 | [],_=>[]
 | c::p,q=>pa (ps c q) (0::pm p q)
def pr:List Fq→List Fq
 | []=>[1]
 | z::R=>pm [-z,1] (pr R)
end Hud
end
section
namespace Hud
end Hud
end
section
namespace Hud
end Hud
end
section
namespace Hud
def JA (x:Fq) (n:Nat):x^n=(x*x)^(n/2)*x^(n%2):=by
 have key:∀ m k:Nat,x^(2*m+k)=(x*x)^m*x^k:=by
  intro m
  induction m with
  | zero =>
   grind
  | succ m ih =>
   intro k;have e1:∀ (x:Fq) (k:Nat),x^(k+1)=x^k*x:=λx k=>by grind
   grind
 rw [←key,Mm]
def pw0 (x:Fq):x^0=1:=by grind
def pw1 (x:Fq):x^1=x:=by grind
def Si (x:Fq) (a b:Nat):x^(a+b)=x^a*x^b:=by
 grind
end Hud
end
