import Derived.Test.YtlhonkjgkfdnmaaGreatDoorLib12
set_option linter.all false
namespace Hud
set_option maxRecDepth 99999
open Go
open W
def Lb:=eVf (cF aFd [])
def KA:=eVf (cF pN [])
def P2:=eVf (cF wB [])
def Oc:=eVf (cF Bh [(5,none,3)])
def Cv:=eVf (cF eZ [])
def Oe:=eVf (cF Bj [])
def Sv:=eVf (cF F6 [])
def ES:=eVf (cF oO [])
def Gg:=eVf (cF nJ [(2,none,3),(3,none,3),(0,none,1002)])
def Lc:=eVf (cF DM [])
def ET:=eVf (cF tX [])
def BG:=eVf (cF pD [(0,none,1002)])
def Ld:cF DQ [(4,none,2),(12,none,2)]=some ⟨75,[(4,none)],Z [0] (S [R0 4 1 [M z],R0 15 1 [A 5 (x (.mkm true))],R0 16 1 [A 6 (x (.mkm false))],S [R 18 0 [1] [A 17 t1,n (t 17),A 19 w0],ra 0 19 (t 18) 20 [17,19,5,18] 58 (S [R0 21 2 [L 3 (i 3 (t 17) (t 19)),J 8 (s 3 (al zI) (t 22))],R0 23 5 [q2 [z0,z0] (l (f 0 t8)) (l (f 1 t8)),J 9 (s 2 (al [z0,z0]) (t 27))],D 28 6 [] [v5,L 2 t9,ad (x (.lku true [.int .i64,.int .i64] z0 (zt 28) (zt 29) false)) w1,e 1 (K [zo 31 (.bin .add (zt 30) (zw 1)),zo 30 (.lku true [.int .i64,.int .i64] z0 (zt 28) (zt 29) false)] (xh (.men true [.int .i64,.int .i64] z0 (zt 28) (zt 29)))),Yh (.mst (zt 28) (zt 33) (zt 31))],S [R 34 3 [9] [v5,L 2 t9,ls (x (.lku true [.int .i64,.int .i64] z0 (zt 34) (zt 35) false)) w2],If 37 [8] (ex 1)],R 39 4 [44,43,38] [v6,l (f 0 t8),x (.lku false [.int .i64] z0 (zt 39) (zt 41) true),J 38 (v 42),J 43 (e 0 (t 38)),e 1 (t 38),A 10 (t 43),A 11 (t 44)],R 45 7 [11,10] [O (o v11) (ls (l (f 1 t8)) v10)],Iz 52 [] (R 53 5 [8] [v6,l (f 0 t8),l (f 1 t8),Y (.mup false [.int .i64] (zt 53) (zt 55) (zt 57))]) [8]])],S [iz 12,ow 12 2],S [R 59 1 [6] [v6,x (.rgm (zt 59))],lo 2 (S [R0 61 1 [e 0 (x (.nxt (zt 60)))],Ie 62 [] .skip [60] (ex 2),bw 3 (S [R0 63 3 [e 0 (x (.ent (zt 60))),e 1 (t 63),A 13 (t 64),A 14 (t 65)],R 66 6 [13,14] [A 12 (a 2 16 v12 (ba 2 [z0,z0] (q2 [z0,z0] v13 v14)))],ow 12 2])])],R0 72 2 [c2 jR v12 (kc (.func qT))],S [R 74 1 [12] [A 4 v12],ow 4 2],.ret])⟩:=k_
def Sw:=eVf (cF Jp [(9,none,3)])
def KB:=eVf (cF wN [])
def D0:=eVf (cF kJ [])
def JD:=eVf (cF uX [(5,some 0,1)])
def Cw:=eVf (cF mL [(0,none,1002)])
def KD:=eVf (cF CG [])
def Cx:=eVf (cF mM [])
def Fb:=eVf (cF uY [])
def Fc:=eVf (cF qF [])
def yD:=eVf (cF iN [])
def JE:=eVf (cF qT [])
def Hi:=eVf (cF pG [])
def Og:=eVf (cF Kw [])
def D1:=eVf (cF nD [])
def BH:=eVf (cF nN [])
def Cy:=eVf (cF CH [])
end Hud
namespace Hud
set_option maxRecDepth 99999
open Go
def Om:=eVf (cF Ew [])
def P3:=eVf (cF Al [])
def P5:=eVf (cF HO [])
def P6:=eVf (cF DO [(67,none,1000)])
def Lj:=eVf (cF zV [])
def Lk:=eVf (cF zW [])
def P7:=eVf (cF Ao [(2,none,4),(3,none,4)])
end Hud
namespace Hud
open Go


end Hud
