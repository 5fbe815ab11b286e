import Derived.Test.YtlhonkjgkfdnmaaGreatDoorLib12
set_option linter.all false
namespace Hud
set_option maxRecDepth 99999
open Go
def LZ:=eVf (cF zZ [])
def Gd:=eVf (cF rQ [(2,none,1)])
def Bx:=eVf (cF cD [])
def Bz:=eVf (cF fD [])
def Ge:=eVf (cF fL [])
def La:=eVf (cF DX [])
def OQ:=eVf (cF FA [])
def I2:=eVf (cF Ap [])
def OR:=eVf (cF E9 [])
def Hd:=eVf (cF tO [])
end Hud
namespace Hud
set_option maxRecDepth 99999
open Go
open W
def P8:=eVf (cF HL [])
def Hn:=eVf (cF tM [])
def JJ:cF Am [(0,none,1002)]=some ⟨259,[],S [R 4 0 [1,2] [b t1,b t2],D 17 9 [] [l (f 3 (y v0)),K [zl 20 19,zf 19 18 3,zo 18 (.nilc (zt 17)),zm 17 0] (c2 bR v0 (l (f 0 t4))),A 6 (x (.lku false [.int .i64] (.pointer none) (zt 20) (zt 24) false))],R0 26 1 [l (f 2 t4)],bw 0 (S [R0 29 1 [eq (t 27) w1,J 28 v29],Ie 28 [27,6,5] (S [R0 30 11 [l (f 2 (y v0)),N (eq (x (.lenM (zt 33))) w0) (c2 iL v0 (l (f 0 t4)))],Iz 41 [] (S [R0 42 4 [c3 mK v0 (l (f 0 t4)) w3],R 46 5 [0,4] [v0,l (f 20 t4),s 1 (f 4 (y (t 46))) (t 48)]]) [0,4]]) [] (S [R0 52 1 [eq (t 27) w2,J 51 (v 52)],Ie 51 [27,6,5] (R 53 6 [0,4] [c3 mK v0 (l (f 5 t4)) (l (f 8 t4))]) [] (S [R0 60 1 [eq (t 27) w3,J 59 (v 60)],Ie 59 [27,6,5] (S [S [R0 61 2 [ne (l (f 5 t4)) w0],If 63 [] (S [R 64 4 [0,4] [c2 nK v0 (l (f 5 t4))],.ret])],R0 68 1 [n (c1 sH v0),M w0],ra 1 71 (t 70) 72 [69,71,70,4,0] 84 (S [R0 73 2 [A 8 (l (i 1 (t 69) (t 71)))],D 75 5 [] [v0,v8,J 78 (l (f 7 t4)),J 77 (K [zl 79 78,zf 78 4 7] (c2 bR (t 75) (t 76))),J 80 (eq (t 77) (t 79))],Iz 80 [] (R 81 3 [8] [c2 nK v0 v8]) [8]])]) [] (S [R0 86 1 [eq (t 27) (w 5),J 85 (v 86)],Ie 85 [27,6,5] (S [D 87 7 [0] [l (f 3 (y v0)),l (f 7 t4),A 9 (x (.lku false [.int .i64] (.pointer none) (zt 90) (zt 92) false))],R0 94 1 [v9,x (.nilS true 0 (zt 94))],Iz 95 [] (R 96 5 [9,4] [v9,l (f 8 t4),s 1 (f 0 (y (t 96))) (t 98)]) [9,4]]) [] (S [R0 102 1 [eq (t 27) (w 9),J 101 (v 102)],Ie 101 [27,0] (S [R0 103 1 [v6,x (.nilS true 0 (zt 103))],Iz 104 [] (S [.regd (zq (zm 105 6) (zq (zv 106 3 5) (zq (zf 107 4 19) (zq (zl 108 107) (zq (zf 110 4 20) (zq (zl 111 110) (zq (zf 112 4 21) (zq (zl 113 112) (zA (zo 109 (.call (.func eU) [zt 108])) [zl 113 112,zf 112 4 21,zl 111 110,zf 110 4 20,zv 106 3 5,zm 105 6] (zA (zo 114 (.mkm true)) [zl 113 112,zf 112 4 21,zl 111 110,zf 110 4 20,zv 106 3 5,zm 105 6] (zq (zo 115 (.bld [z0,z0,zU,zS,z0,z0,.map none,.bool false,z0] [(0,(3,zt 106)),(3,(1,zt 109)),(4,(1,zt 111)),(5,(1,zt 113)),(6,(1,zt 114))])) (zA (zo 116 (.box (zt 115))) [zm 105 6] (zq (zo 117 (.nilc (zt 105))) (zq (zf 118 117 1) (zA (⟨none,.st 1 (zt 118) (zt 116),none⟩) [] (.done false) .no))) .no)) .no) (zA (zo 114 (.mkm true)) [zl 113 112,zf 112 4 21,zl 111 110,zf 110 4 20,zl 108 107,zf 107 4 19,zv 106 3 5,zm 105 6] (zA (zo 109 (.call (.func eU) [zt 108])) [zl 113 112,zf 112 4 21,zl 111 110,zf 110 4 20,zv 106 3 5,zm 105 6] (zq (zo 115 (.bld [z0,z0,zU,zS,z0,z0,.map none,.bool false,z0] [(0,(3,zt 106)),(3,(1,zt 109)),(4,(1,zt 111)),(5,(1,zt 113)),(6,(1,zt 114))])) (zA (zo 116 (.box (zt 115))) [zm 105 6] (zq (zo 117 (.nilc (zt 105))) (zq (zf 118 117 1) (zA (⟨none,.st 1 (zt 118) (zt 116),none⟩) [] (.done false) .no))) .no)) .no) .no)))))))))),.kill [6,5,4,118,117,116,115,114,113,112,111,110,109,108,107,106,105]]) [6,5,4]]) [5] (S [R0 120 1 [eq (t 27) (w 11),J 119 (v 120)],Ie 119 [27,6] (S [R 122 3 [126,125,121] [c2 lM v0 (L 27 t4),J 121 (v 124),J 125 (e 0 (t 121)),e 1 (t 121),A 10 (t 125),A 11 (t 126)],R 127 1 [11] [eq v11 w0],Iz 128 [] (S [R 129 9 [0,10] [l (f 3 (y v0)),v10,A 12 (l (f 1 (y (x (.lku false [.int .i64] (.pointer none) (zt 132) (zt 133) false)))))],R0 138 5 [q2 [z0,z0] (l (f 0 t4)) (l (f 5 t4)),J 13 (s 2 (al [z0,z0]) (t 142))],D 144 6 [151,150,143] [l (f 6 (y v12)),L 2 (t 13),x (.lku true [.int .i64,.int .i64] z0 (zt 147) (zt 148) true),J 143 (v 149),J 150 (e 0 (t 143)),e 1 (t 143),A 14 (t 150),A 15 (t 151)],R 152 7 [15,14] [O (o v15) (ls (l (f 3 t4)) v14)],Iz 159 [] (D 160 7 [12,13,4] [l (f 6 (y v12)),L 2 (t 13),l (f 3 t4),Yh (.mup true [.int .i64,.int .i64] (zt 163) (zt 164) (zt 166))]) [12,13,4]]) [0,10,4]]) [] (S [R0 168 1 [eq (t 27) (w 12),J 167 (v 168)],Ie 167 [27,0] (S [D 169 20 [] [v6,M (x (.nilS true 0 (zt 169))),G 171 true (l (f 1 (y v6))),G 171 true (x (.nilS true 0 (zt 175))),N (x (.pick (zt 171) (zt 176) (.const (.bool false)))) (ea false [.int .i64,.int .i64,.int .u64] (L 3 (f 0 (y (l (f 1 (y v6)))))) (L 3 (f 16 t4)))],Iz 189 [] (D 190 22 [6,4] [l (f 1 (y v6)),l (f 1 (y v6)),mm true (l (f 8 (y (l (f 1 (y v6)))))) (l (f 3 t4)),K [zo 207 (.mm true (zt 204) (zt 206)),zl 206 205,zf 205 4 3] (s 1 (f 7 (y (t 193))) T),s 1 (f 8 (y (t 197))) (t 207)]) [6,4]]) [6] (S [R 213 1 [27] [eq (t 27) (w 13),J 212 (v 213)],Iz 212 [] (S [R0 214 4 [A 16 (c2 qE v0 (L 3 (f 16 t4)))],D 218 26 [16] [M (gt v16 w0),G 220 true (l (f 1 (y v0))),G 220 true (l (f 6 t4)),G 220 true (x (.lku false [.int .i64] (.bool false) (zt 224) (zt 226) false)),M (x (.pick (zt 220) (zt 227) (.const (.bool false)))),G 229 true v0,G 229 true (l (f 6 t4)),J 234 (G 229 true v16),J 233 (G 229 true (K [⟨some 234,.mov (zt 16),some (229,true)⟩] (c2 bR (t 230) (t 232)))),J 235 (G 229 true (eq (t 233) (t 234))),M (x (.pick (zt 229) (zt 235) (.const (.bool false)))),G 237 true v0,G 237 true (l (f 5 t4)),J 242 (G 237 true v16),J 241 (G 237 true (K [⟨some 242,.mov (zt 16),some (237,true)⟩] (c2 bR (t 238) (t 240)))),J 243 (G 237 true (eq (t 241) (t 242))),x (.pick (zt 237) (zt 243) (.const (.bool false)))],Iz 244 [] (S [D 245 10 [] [v0,l (f 5 t4),v0,K [zm 248 0,zl 247 246,zf 246 4 5,zm 245 0] (c2 bR v0 (l (f 5 t4))),c3 mK (t 245) (t 247) (K [zl 247 246,zf 246 4 5,zm 245 0] (c2 nL (t 248) (t 252)))],R 255 4 [0,4] [c2 nK v0 (l (f 6 t4))]]) [0,4]]) [0,4]])])])])])])])])]⟩:=k_
def D3:=eVf (cF sH [])
def JK:=eVf (cF bR [])
def Fi:=eVf (cF iL [])
def Fj:=eVf (cF mK [])
def Gh:=eVf (cF nK [])
def EU:=eVf (cF lM [])
def Fk:=eVf (cF qE [])
def Gi:=eVf (cF nL [])
def sS:=eVf (cF lU [])
def jV:=eVf (cF bT [])
def KG:=eVf (cF wS [])
def Fl:=eVf (cF kA [])
def KH:=eVf (cF wT [])
def KI:=eVf (cF wU [])
def KJ:=eVf (cF wV [])
def KK:=eVf (cF wW [])
def KL:=eVf (cF wX [])
def Ho:=eVf (cF tQ [])
def Hp:=eVf (cF mB [])
def KM:=eVf (cF wY [])
def KN:=eVf (cF wZ [])
def Hq:=eVf (cF yR [(10,none,1)])
end Hud
