import Derived.Test.YtdichbeaekjibaaGreatDoorLib16
set_option linter.all false
set_option maxHeartbeats 40000000
namespace Hud
open Go
def P1:O_:=[iv 0,iv 0,iv 0,iv 0,.v (.slice none 0 0),iv 0,iv 0,iv 0,iv 0,.v (.slice none 0 0),iv 0,iv 0,.v (.int .u64 0),iv 0,.v (.slice none 0 0),.v (.slice none 0 0),iv 0,iv 0,.v (.int .u64 0),.v (.slice none 0 0),iv 0,iv 0,.v (.slice none 0 0),.v (.int .u64 0),.v (.slice none 0 0),.v (.int .u64 0),.v (.int .u64 0)]
def ndT(n:ND):n.A.take 27=n.o.A:=X_
section
variable{G:L_}
def aFR{g:PGM}(c:g.ok){x:Id}(b:x∈g.I):(g.nd x).o.ok:=by
 obtain⟨j,h1,h2,_⟩:=dG b;have a:j<g.nodes.length:=by grind[PGM.I]
 rw[RA h1,rH,jN a];exact c.ops _ (eQ a)
def aDQ(g:PGM)(c:g.ok)(x:Id)(b:x∈g.I):aA PQ G bY [.ptr 0 0,.ag x.A] (TG 0 g) λr T=>r=.tup [.ag (g.nd x).o.A,.v (.bool true)]/\T=TG 0 g:=by
 apply aC yZ;have p:=AL x;have a:=qH x g.I 0;obtain⟨j,h1,h2,_⟩:=dG b;have e:=RA h1;rw[h1]at a;have i:=yC g.I.length j h2;have f:j<g.nodes.length:=by grind[PGM.I]
 have k:(g.nodes.map ND.A)[j]?=some (g.nd x).A:=u_;have h:=(Q9 c x).1;have m:=ND.Alen (g.nd x) h;have l:=ndT (g.nd x);have d:=aFR c b;simp only[iX,mG]at a;generalize(g.nd x)=n at *
 simp only[go_sem,TG,MG,a,i,aP,f,k,m,l];apply cX (ZH n.o d);simp only[go_sem]
def aAY(g:PGM)(x:Id)(b:x∉g.I):aA PQ G bY [.ptr 0 0,.ag x.A] (TG 0 g) λr T=>r=.tup [.ag P1,.v (.bool false)]/\T=TG 0 g:=by refine aC yZ ?_;have c:=AL x;have a:=qH x g.I 0;rw[eG b]at a;simp only[xD]at a;simp only[go_sem,TG,MG,a,P1]
end
section
variable{G:L_}
end
section
open W
def Lb:cF aCZ []=some ⟨95,[(6,none)],S [R 6 1 [1,2] [J 4 (b t1),b t2,M F],R 13 3 [17,16,12] [c2 bY v0 (L 3 t4),J 12 v15,J 16 (e 0 (t 12)),e 1 (t 12),J 7 (s 27 (al zO) (t 16)),A 8 (t 17)],R 19 3 [23,22,18] [c2 bY v0 (L 3 t5),J 18 v21,J 22 (e 0 (t 18)),e 1 (t 18),J 9 (s 27 (al zO) (t 22)),A 10 (t 23)],S [R 24 22 [8,10,4,5] [O (O (O (O (o v8) (o v10)) (ea false [.int .i64,.int .i64,.int .u64] (L 3 t4) (L 3 t5))) (c3 eZ v0 (L 3 t5) (L 3 t4))) (c3 eZ v0 (L 3 t4) (L 3 t5))],If 46 [7,9,0] (S [E0 [A 6 F],.ret])],S [R0 47 1 [l (f 2 t7)],bw 0 (S [S [R0 50 1 [eq (t 48) w3,J 49 (v 50)],C 49 .skip (Z [49] (R0 51 1 [A 49 (eq (t 48) (w 13))]))],Ie 49 [48] (S [R0 52 15 [A 11 (N (N (eq (l (f 2 t7)) (w 13)) (eq (l (f 2 t9)) (w 12))) (ea false [.int .i64,.int .i64,.int .u64] (L 3 (f 16 t7)) (L 3 (f 16 t9))))],R 67 9 [11,0,7,9] [A 6 (N (o v11) (c3 Bj v0 (L 27 t7) (l (f 0 t9))))],.ret]) [0] (S [R 77 1 [48] [eq (t 48) (w 12),J 76 (v 77)],Iz 76 [] (S [R 78 17 [9,7] [A 6 (N (N (eq (l (f 2 t9)) (w 13)) (ea false [.int .i64,.int .i64,.int .u64] (L 3 (f 16 t9)) (L 3 (f 16 t7)))) (le (l (f 3 t7)) (l (f 3 t9))))],.ret]) [9,7]])])],E0 [A 6 F],.ret]⟩:=s_
def KA:cF pN []=some ⟨13,[(4,none)],S [R0 4 1 [M z],R 6 3 [0,1] [c2 F6 v0 v1,J 5 v8],R0 9 2 [c1 oO v5],R 11 2 [5] [A 4 (c1 nJ v5)],.ret]⟩:=s_
def P2:cF wB []=some ⟨59,[(6,none)],S [R 6 1 [0,2] [J 3 (b t0),J 5 (b t2),M w0],R0 12 3 [A 7 (c2 F6 (l t3) v1)],R0 15 2 [c1 oO v7],R0 17 2 [A 8 (c1 nJ v7)],R0 19 3 [A 9 (c2 bD v8 (x (.clo DM [zt 3,zt 5])))],R 23 3 [3,27,26,22] [c2 bY (l t3) (L 3 t5),J 22 v25,J 26 (e 0 (t 22)),e 1 (t 22),J 10 (s 27 (al zO) (t 26)),A 11 (t 27)],bw 0 (S [R 29 8 [11,1] [O (o v11) (o (c2 bJ v1 (L 3 t5))),J 28 v36],Ie 28 [7,5,8,9,10] (S [E0 [A 6 (w 4)],.ret]) [] (S [D 38 6 [] [l (f 3 (y v7)),L 3 t5,x (.lku true [.int .i64,.int .i64,.int .u64] (.bool false) (zt 41) (zt 42) false),J 37 (v 43)],Ie 37 [8,5,9,7,10] (S [E0 [A 6 (w 13)],.ret]) [] (S [R0 45 3 [c2 bJ v8 (L 3 t5),J 44 (v 47)],Ie 44 [9,7,8,5,10] (S [i0 6,.ret]) [] (S [R 49 1 [9] [v9,J 48 (v 49)],If 48 [7,8,5,10] (S [E0 [A 6 (w 15)],.ret])])])])]),D 50 9 [7,8,5,10] [v7,v8,L 3 t5,J 54 (L 27 (t 10)),L 3 t5,J 53 (K [zv 55 3 5,zv 54 27 10] (c3 pD (t 50) (t 51) (t 52))),J 56 (A 6 (c1 tX (j2 [z0,z0] (c3 tM (t 53) (t 54) (t 55)) (w 15))))],.ret]⟩:=s_
def Oc:cF Bh [(5,none,3)]=some ⟨27,[(4,none)],S [R0 4 1 [M z],S [iz 5,ow 5 3],S [R 8 2 [0] [n (c2 DQ v0 v1),M w0],ra 0 12 (t 11) 13 [10,12,11,1] 24 (S [R0 14 2 [L 2 (i 2 (t 10) (t 12)),J 7 (s 2 (al [z0,z0]) (t 15))],R 16 8 [7] [A 5 (a 3 24 v5 (c4 Jp v1 (l (f 0 t7)) (l (f 1 t7)) (w 4611686018427387904)))],ow 5 3])],R 25 2 [5] [A 4 (c1 wN v5)],.ret]⟩:=s_
def aJF:cF aGd []=some ⟨33,[(4,none)],S [R0 4 1 [M (kc (.const (.pointer none)))],R0 10 3 [A 5 (c1 HL (c1 kJ v0))],S [R 13 2 [1] [n (c2 pN v0 v1),M w0],ra 0 17 (t 16) 18 [15,17,16,0] 31 (S [R0 19 2 [L 3 (i 3 (t 15) (t 17)),J 7 (s 3 (al zI) (t 20))],R 22 3 [9,26,25,21] [c2 bY v0 (L 3 t7),J 21 v24,J 25 (e 0 (t 21)),e 1 (t 21),J 8 (s 27 (al zO) (t 25)),A 9 (t 26)],R 27 4 [8,7] [c3 Am v5 (L 27 t8) (L 3 t7)]])],R 32 1 [5] [A 4 v5],.ret]⟩:=s_
def Cv:cF eZ []=some ⟨44,[(6,none)],S [R 6 1 [1,2] [J 4 (b t1),b t2,M F],D 12 6 [4,19,18,11] [l (f 1 (y v0)),L 3 t4,x (.lku true [.int .i64,.int .i64,.int .u64] z0 (zt 15) (zt 16) true),J 11 v17,J 18 (e 0 (t 11)),e 1 (t 11),A 7 (t 18),A 8 (t 19)],D 21 6 [5,28,27,20] [l (f 1 (y v0)),L 3 t5,x (.lku true [.int .i64,.int .i64,.int .u64] z0 (zt 24) (zt 25) true),J 20 v26,J 27 (e 0 (t 20)),e 1 (t 20),A 9 (t 27),A 10 (t 28)],R 29 15 [8,10,0,9,7] [A 6 (N (N v8 v10) (c2 pE (f 30 (i 35 (l (f 2 (y v0))) v9)) v7))],.ret]⟩:=s_
def Oe:cF Bj []=some ⟨37,[(6,none)],S [R 6 1 [1] [J 4 (b t1),J 6 (M F)],S [R0 9 2 [eq (l (f 2 t4)) (w 13)],If 11 [0] (S [R 12 4 [2,4] [A 6 (eq v2 (l (f 6 t4)))],.ret])],S [R0 16 2 [ne (l (f 5 t4)) w0],If 18 [0] (S [R 19 4 [2,4] [A 6 (eq v2 (l (f 5 t4)))],.ret])],R 24 3 [0,2,28,27,23] [c2 oQ v0 v2,J 23 v26,J 27 (e 0 (t 23)),e 1 (t 23),J 7 (s 5 (al zC) (t 27)),A 8 (t 28)],R 29 8 [8,7,4] [A 6 (N v8 (eq (l (f 1 t7)) (l (f 7 t4))))],.ret]⟩:=s_
def Sv:cF F6 []=some ⟨40,[(4,none)],S [R0 4 1 [M (kc (.const (.pointer none)))],R0 8 8 [A 5 (b (q4 [.pointer none,zS,.map none,.map none] v0 (c2 mJ v0 v1) (x (.mkm true)) (x (.mkm true))))],S [R 16 2 [0,1] [n (c2 Bh v0 v1),M w0],ra 0 20 (t 19) 21 [18,20,19] 38 (S [R0 22 2 [L 3 (i 3 (t 18) (t 20)),J 7 (s 3 (al zI) (t 23))],D 24 14 [7] [l (f 2 (y v5)),L 3 t7,l (f 3 (y v5)),L 3 t7,e 1 (K [zv 33 3 7] (xh (.men true [.int .i64,.int .i64,.int .u64] (.bool false) (zt 27) (zt 28)))),K [zv 33 3 7] (Yh (.mst (zt 27) (zt 35) (.const (.bool true)))),e 1 (xh (.men true [.int .i64,.int .i64,.int .u64] (.bool false) (zt 32) (zt 33))),Yh (.mst (zt 32) (zt 37) (.const (.bool true)))]])],R 39 1 [5] [A 4 v5],.ret]⟩:=s_
def ES:cF oO []=some ⟨115,[],S [R 1 0 [0] [b t0],R0 12 1 [A 2 (x (.mkm false))],S [R0 13 4 [n (c1 kJ (l (f 0 (y (l t1))))),M w0],ra 0 19 (t 18) 20 [17,19,18] 26 (S [R0 21 2 [L 5 (i 5 (t 17) (t 19)),J 4 (s 5 (al zC) (t 22))],R 23 3 [4] [v2,l (f 0 t4),Y (.mup false [.int .i64] (zt 23) (zt 25) (zw 12))]])],S [D 27 8 [] [l (f 0 (y (l t1))),l (f 1 (y (l t1))),J 37 (M w0),J 35 (n (K [zo 37 (.mov (zw 0))] (c2 uX (t 30) (t 34))))],ra 2 37 (t 36) 38 [37,35,36] 45 (S [R0 39 3 [v37,l (i 1 (t 35) (t 37)),A 5 (t 39),A 6 (t 41)],R 42 3 [6,5] [v2,v6,v5,Y (.mup false [.int .i64] (zt 42) (zt 43) (zt 44))]])],R0 46 7 [A 7 (c2 bE (c1 bF (l (f 1 (y (l t1))))) (x (.clo mL [zt 1])))],lo 4 (bw 5 (S [R0 53 3 [A 7 (c2 bE v7 (x (.clo mM [zt 1])))],S [R0 56 2 [eq (n v7) w0],If 58 [1,7,2] .ret],R0 59 4 [A 8 (c3 uY (l t1) v7 v2)],R0 63 4 [L 3 (i 3 v7 v8),J 9 (s 3 (al zI) (t 66))],R 67 5 [8] [A 7 (c3 fR v7 v8 (ad v8 w1))],S [D 72 4 [] [l t1,J 74 (L 3 t9),J 73 (K [zv 74 3 9] (c1 nJ (t 72))),J 75 (o (c2 bJ (t 73) (t 74)))],If 76 [] (S [D 77 5 [9] [l (f 2 (y (l t1))),L 3 t9,Yh (.mup true [.int .i64,.int .i64,.int .u64] (zt 80) (zt 81) (.const (.bool true)))],ex 5])],R0 82 3 [n (l (f 1 (y (l t1)))),M w0],ra 6 87 (t 86) 88 [85,87,86,9] 114 (S [R0 89 2 [L 3 (i 3 (t 85) (t 87)),J 11 (s 3 (al zI) (t 90))],D 91 17 [] [O (c3 aCZ (l (f 0 (y (l t1)))) (L 3 t9) (L 3 (t 11))) (N (c2 bJ v7 (L 3 (t 11))) (c3 qF (l t1) (L 3 t9) (L 3 (t 11))))],Iz 108 [] (D 109 5 [11] [l (f 2 (y (l t1))),L 3 (t 11),Yh (.mup true [.int .i64,.int .i64,.int .u64] (zt 112) (zt 113) (.const (.bool true)))]) [11]])]))]⟩:=s_
def Gg:cF nJ [(2,none,3),(3,none,3),(0,none,1002)]=some ⟨49,[(2,none)],S [R0 2 1 [M z],S [iz 3,ow 3 3],S [R0 8 3 [n (l (f 1 (y v0))),M w0],ra 0 13 (t 12) 14 [11,13,12,0] 47 (S [R0 15 2 [L 3 (i 3 (t 11) (t 13)),J 5 (s 3 (al zI) (t 16))],S [.regd (zq (zm 18 0) (zq (zo 19 (.nilc (zt 18))) (zq (zf 20 19 0) (zq (zl 21 20) (zq (zv 22 3 5) (zA (zo 23 (.call (.func bY) [zt 21,zt 22])) [] (zq (zm 17 23) (zq (zo 24 (.ext (zt 17) 0)) (zq (zo 25 (.ext (zt 17) 1)) (zA (zo 6 (.alloc zO)) [zo 25 (.ext (zt 17) 1),zo 24 (.ext (zt 17) 0),zm 17 23] (zA (⟨none,.st 27 (zt 6) (zt 24),none⟩) [zo 25 (.ext (zt 17) 1)] (zq (zm 7 25) (.done false)) .no) .no)))) (zA (zo 6 (.alloc zO)) [zv 22 3 5,zl 21 20,zf 20 19 0,zo 19 (.nilc (zt 18)),zm 18 0] (zA (zo 23 (.call (.func bY) [zt 21,zt 22])) [] (zq (zm 17 23) (zq (zo 24 (.ext (zt 17) 0)) (zq (zo 25 (.ext (zt 17) 1)) (zA (⟨none,.st 27 (zt 6) (zt 24),none⟩) [zo 25 (.ext (zt 17) 1)] (zq (zm 7 25) (.done false)) .no)))) .no) .no))))))),.kill [7,25,24,17,23,22,21,20,19,18]],D 26 16 [6] [l (f 2 (y v0)),L 3 t5,M (o (x (.lku true [.int .i64,.int .i64,.int .u64] (.bool false) (zt 29) (zt 30) false))),G 33 true v0,G 33 true v3,G 33 true (L 3 t5),J 38 (G 33 true (L 27 t6)),G 33 true (L 3 t5),J 37 (G 33 true (K [⟨some 39,.ld (some 3) (zt 5),some (33,true)⟩,⟨some 38,.ld (some 27) (zt 6),some (33,true)⟩] (c3 pD (t 34) (t 35) (t 36)))),J 40 (G 33 true (eq (c3 tM (t 37) (t 38) (t 39)) w0)),x (.pick (zt 33) (zt 41) (.const (.bool false)))],Iz 42 [] (S [R 43 4 [5] [A 3 (a 3 24 v3 (ba 3 zI (L 3 t5)))],ow 3 3]) [5]])],S [R 48 1 [3] [A 2 v3],ow 2 3],.ret]⟩:=s_
def Lc:cF DM []=some ⟨9,[(4,none)],S [R 4 1 [0] [J 3 (b t0),M F],R 5 4 [1,3,2] [c3 aCZ (l t1) (L 3 t3) (L 3 t2),J 4 v8],.ret]⟩:=s_
def ET:cF tX []=some ⟨18,[(2,none)],S [R0 2 1 [M w0],i0 3,S [R 7 0 [0] [A 6 t0,n t6,A 8 w0],ra 0 8 t7 9 [6,8,7] 16 (S [R0 10 2 [A 5 (l (i 1 t6 t8))],R0 12 2 [ne v5 v3],Iz 14 [8,3,6,7] (S [R 15 1 [5] [A 2 v5],.ret]) [5]])],R 17 1 [3] [A 2 v3],.ret]⟩:=s_
def BG:cF pD [(0,none,1002)]=some ⟨46,[(6,none)],S [R 6 1 [2] [J 5 (b t2),M (kc (.const (.pointer none)))],R0 12 6 [A 7 (c1 HL (c1 kJ (l (f 0 (y v0)))))],S [R 19 0 [1] [A 18 t1,n (t 18),A 20 w0],ra 0 20 (t 19) 21 [18,20,19,5,0] 44 (S [R0 22 2 [L 3 (i 3 (t 18) (t 20)),J 9 (s 3 (al zI) (t 23))],D 24 6 [] [c3 eZ (l (f 0 (y v0))) (L 3 t9) (L 3 t5)],Iz 30 [] (S [S [.regd (zq (zm 32 0) (zq (zo 33 (.nilc (zt 32))) (zq (zf 34 33 0) (zq (zl 35 34) (zq (zv 36 3 9) (zA (zo 37 (.call (.func bY) [zt 35,zt 36])) [] (zq (zm 31 37) (zq (zo 38 (.ext (zt 31) 0)) (zq (zo 39 (.ext (zt 31) 1)) (zA (zo 10 (.alloc zO)) [zo 39 (.ext (zt 31) 1),zo 38 (.ext (zt 31) 0),zm 31 37] (zA (⟨none,.st 27 (zt 10) (zt 38),none⟩) [zo 39 (.ext (zt 31) 1)] (zq (zm 11 39) (.done false)) .no) .no)))) (zA (zo 10 (.alloc zO)) [zv 36 3 9,zl 35 34,zf 34 33 0,zo 33 (.nilc (zt 32)),zm 32 0] (zA (zo 37 (.call (.func bY) [zt 35,zt 36])) [] (zq (zm 31 37) (zq (zo 38 (.ext (zt 31) 0)) (zq (zo 39 (.ext (zt 31) 1)) (zA (⟨none,.st 27 (zt 10) (zt 38),none⟩) [zo 39 (.ext (zt 31) 1)] (zq (zm 11 39) (.done false)) .no)))) .no) .no))))))),.kill [11,39,38,31,37,36,35,34,33,32]],R 40 4 [10,9] [c3 Am v7 (L 27 (t 10)) (L 3 t9)]]) [9]])],R 45 1 [7] [A 6 v7],.ret]⟩:=s_
def Ld:cF DQ [(4,none,2),(12,none,2)]=some ⟨75,[(4,none)],Z [0] (S [R0 4 1 [M z],R0 15 1 [A 5 (x (.mkm true))],R0 16 1 [A 6 (x (.mkm false))],S [R 18 0 [1] [A 17 t1,n (t 17),A 19 w0],ra 0 19 (t 18) 20 [17,19,5,18] 58 (S [R0 21 2 [L 3 (i 3 (t 17) (t 19)),J 8 (s 3 (al zI) (t 22))],R0 23 5 [q2 [z0,z0] (l (f 0 t8)) (l (f 1 t8)),J 9 (s 2 (al [z0,z0]) (t 27))],D 28 6 [] [v5,L 2 t9,ad (x (.lku true [.int .i64,.int .i64] z0 (zt 28) (zt 29) false)) w1,e 1 (K [zo 31 (.bin .add (zt 30) (zw 1)),zo 30 (.lku true [.int .i64,.int .i64] z0 (zt 28) (zt 29) false)] (xh (.men true [.int .i64,.int .i64] z0 (zt 28) (zt 29)))),Yh (.mst (zt 28) (zt 33) (zt 31))],S [R 34 3 [9] [v5,L 2 t9,ls (x (.lku true [.int .i64,.int .i64] z0 (zt 34) (zt 35) false)) w2],If 37 [8] (ex 1)],R 39 4 [44,43,38] [v6,l (f 0 t8),x (.lku false [.int .i64] z0 (zt 39) (zt 41) true),J 38 (v 42),J 43 (e 0 (t 38)),e 1 (t 38),A 10 (t 43),A 11 (t 44)],R 45 7 [11,10] [O (o v11) (ls (l (f 1 t8)) v10)],Iz 52 [] (R 53 5 [8] [v6,l (f 0 t8),l (f 1 t8),Y (.mup false [.int .i64] (zt 53) (zt 55) (zt 57))]) [8]])],S [iz 12,ow 12 2],S [R 59 1 [6] [v6,x (.rgm (zt 59))],lo 2 (S [R0 61 1 [e 0 (x (.nxt (zt 60)))],Ie 62 [] .skip [60] (ex 2),bw 3 (S [R0 63 3 [e 0 (x (.ent (zt 60))),e 1 (t 63),A 13 (t 64),A 14 (t 65)],R 66 6 [13,14] [A 12 (a 2 16 v12 (ba 2 [z0,z0] (q2 [z0,z0] v13 v14)))],ow 12 2])])],R0 72 2 [c2 jR v12 (kc (.func qT))],S [R 74 1 [12] [A 4 v12],ow 4 2],.ret])⟩:=s_
def Sw:cF Jp [(9,none,3)]=some ⟨41,[(8,none)],S [R0 8 1 [M z],S [iz 9,ow 9 3],S [R 13 0 [0] [A 12 t0,n (t 12),A 14 w0],ra 0 14 (t 13) 15 [12,14,13,3,2,1] 38 (S [R0 16 2 [L 3 (i 3 (t 12) (t 14)),J 11 (s 3 (al zI) (t 17))],R0 18 15 [N (N (eq (l (f 0 (t 11))) v1) (ge (l (f 1 (t 11))) v2)) (le (l (f 1 (t 11))) v3)],Iz 33 [] (S [R 34 4 [11] [A 9 (a 3 24 v9 (ba 3 zI (L 3 (t 11))))],ow 9 3]) [11]])],R 39 2 [9] [A 8 (c1 wN v9)],.ret]⟩:=s_
def KB:cF wN []=some ⟨6,[(2,none)],S [R0 2 1 [M z],R0 3 2 [c2 bK v0 (kc (.func pG))],R 5 1 [0] [A 2 v0],.ret]⟩:=s_
def D0:cF kJ []=some ⟨8,[(2,none)],S [R0 2 1 [M z],R 3 5 [0] [c1 cT (l (f 0 (y v0))),J 2 v7],.ret]⟩:=s_
def JD:cF uX [(5,some 0,1)]=some ⟨22,[(4,none)],S [iz 4,S [E 5 [al [zS]],oc 5 0 1],S [R 8 2 [0,1] [c2 Kw v0 v1],bw 0 (.rng (zt 10) [11,12] [5] (.seq (.reg [⟨some 7,.mov (zt 12),none⟩]) (.kill [12])) (.block 1 (.seq (.seq (.reg [⟨some 13,.ld none (zt 5),none⟩,⟨some 14,.mov (zt 7),none⟩,⟨some 15,.call (.func iN) [zt 13,zt 14],none⟩,⟨some 16,.un .not (zt 15),none⟩]) (.kill [15,14,13])) (.cond (zt 16) (.seq (.kill [16]) (.seq (.reg [⟨some 17,.ld none (zt 5),none⟩,⟨some 18,.mov (zt 7),none⟩,⟨some 19,.bsl 1 [z0] [(0,(1,zt 18))] 1,none⟩,⟨some 20,.app (zt 17) (zt 19) 1 8,none⟩,⟨none,.st 1 (zt 5) (zt 20),none⟩]) (.kill [5,7,20,19,18,17]))) (.seq (.kill [5,7,16]) .skip)))))],R 21 1 [5] [A 4 (l t5)],.ret]⟩:=s_
def Cw:cF mL [(0,none,1002)]=some ⟨19,[(3,none)],S [R 3 1 [0] [J 2 (b t0),M F],S [.regd (zq (zl 7 1) (zq (zo 8 (.nilc (zt 7))) (zq (zf 9 8 0) (zq (zl 10 9) (zq (zv 11 3 2) (zA (zo 12 (.call (.func bY) [zt 10,zt 11])) [] (zq (zm 6 12) (zq (zo 13 (.ext (zt 6) 0)) (zq (zo 14 (.ext (zt 6) 1)) (zA (zo 4 (.alloc zO)) [zo 14 (.ext (zt 6) 1),zo 13 (.ext (zt 6) 0),zm 6 12] (zA (⟨none,.st 27 (zt 4) (zt 13),none⟩) [zo 14 (.ext (zt 6) 1)] (zq (zm 5 14) (.done false)) .no) .no)))) (zA (zo 4 (.alloc zO)) [zv 11 3 2,zl 10 9,zf 9 8 0,zo 8 (.nilc (zt 7)),zl 7 1] (zA (zo 12 (.call (.func bY) [zt 10,zt 11])) [] (zq (zm 6 12) (zq (zo 13 (.ext (zt 6) 0)) (zq (zo 14 (.ext (zt 6) 1)) (zA (⟨none,.st 27 (zt 4) (zt 13),none⟩) [zo 14 (.ext (zt 6) 1)] (zq (zm 5 14) (.done false)) .no)))) .no) .no))))))),.kill [1,2,5,14,13,6,12,11,10,9,8,7]],R 15 4 [4] [A 3 (o (c1 CG (l (f 2 t4))))],.ret]⟩:=s_
def KD:cF CG []=some ⟨13,[(2,none)],S [R0 2 1 [M F],R 3 10 [0] [O (O (eq v0 w3) (eq v0 (w 13))) (eq v0 (w 12)),J 2 v12],.ret]⟩:=s_
def Cx:cF mM []=some ⟨10,[(3,none)],S [R 3 1 [0] [J 2 (b t0),M F],D 4 6 [1,2] [l (f 2 (y (l t1))),L 3 t2,x (.lku true [.int .i64,.int .i64,.int .u64] (.bool false) (zt 7) (zt 8) false),J 3 v9],.ret]⟩:=s_
def Fb:cF uY []=some ⟨50,[(6,none)],S [R0 6 1 [M w0],E0 [A 7 (w (-1))],.skip,S [E 13 [A 12 t1,n (t 12),A 14 w0],ra 0 14 (t 13) 15 [14,12,13,2,0,1] 48 (S [R0 16 3 [v14,L 3 (i 3 (t 12) (t 14)),J 9 (al zI),A 8 (t 16),s 3 t9 (t 18)],S [E 20 [A 19 t1,n (t 19),A 21 w0],ra 2 21 (t 20) 22 [19,21,14,12,13,1,2,7,20,9,0] 46 (S [R0 23 2 [L 3 (i 3 (t 19) (t 21)),J 11 (s 3 (al zI) (t 24))],R 25 3 [11] [c3 qF v0 (L 3 t9) (L 3 (t 11))],If 28 [21,19,20] (S [S [D 29 15 [9] [M (ls v7 w0),G 31 false v2,G 31 false (l (f 0 t9)),G 31 false (x (.lku false [.int .i64] z0 (zt 32) (zt 34) false)),G 31 false v2,G 31 false (l (f 0 (i 3 v1 v7))),G 31 false (ls (t 35) (x (.lku false [.int .i64] z0 (zt 36) (zt 41) false))),x (.pick (zt 31) (.const (.bool true)) (zt 43))],Iz 44 [7] (R 45 1 [8] [A 7 v8]) [8]],ex 1])])],R 47 1 [8] [A 6 v8],.ret])],R 49 1 [7] [A 6 v7],.ret]⟩:=s_
def Fc:cF qF []=some ⟨18,[(6,none)],S [R 6 1 [0,1,2] [J 3 (b t0),b t1,b t2,M F],R 7 11 [4,5,3] [N (ea true [.int .i64,.int .i64,.int .u64] (L 3 t4) (L 3 t5)) (c2 bD (l (f 1 (y (l t3)))) (x (.clo nD [zt 4,zt 3,zt 5]))),J 6 v17],.ret]⟩:=s_
def yD:cF iN []=some ⟨9,[(4,none)],S [R0 4 1 [M F],R 5 4 [0,1] [ge (c2 nN v0 v1) w0,J 4 v8],.ret]⟩:=s_
def JE:cF qT []=some ⟨10,[(4,none)],S [R 4 1 [0,1] [J 2 (b t0),b t1,M w0],R 5 5 [2,3] [c2 jW (l (f 0 t2)) (l (f 0 t3)),J 4 v9],.ret]⟩:=s_
def Hi:cF pG []=some ⟨11,[(4,none)],S [R 4 1 [0,1] [J 2 (b t0),b t1,M w0],S [R0 5 2 [c2 wC (L 3 t2) (L 3 t3)],If 7 [3,2] (S [E0 [A 4 (w (-1))],.ret])],S [R 8 2 [3,2] [c2 wC (L 3 t3) (L 3 t2)],If 10 [] (S [E0 [A 4 w1],.ret])],i0 4,.ret]⟩:=s_
def Og:cF Kw []=some ⟨6,[(4,none)],S [R 4 1 [0,1] [J 2 (b t0),b t1,M (kc (.const .nilFunc))],R 5 1 [2,3] [x (.clo CH [zt 2,zt 3]),J 4 v5],.ret]⟩:=s_
def D1:cF nD []=some ⟨27,[(5,none)],S [R 5 1 [0] [J 4 (b t0),M F],D 6 21 [4,1,2,3] [N (O (ea false [.int .i64,.int .i64,.int .u64] (L 3 t4) (L 3 t1)) (c3 eZ (l (f 0 (y (l t2)))) (L 3 t4) (L 3 t1))) (c3 aCZ (l (f 0 (y (l t2)))) (L 3 t3) (L 3 t4)),J 5 v26],.ret]⟩:=s_
def BH:cF nN []=some ⟨19,[(4,none)],S [R0 4 1 [M w0],S [R0 6 1 [n v0,M w0],ra 0 8 t7 9 [8,7,0,1] 18 (S [R0 10 1 [A 5 v8],R0 11 5 [eq v1 (l (i 1 v0 v5))],Iz 16 [8,1,0,7] (S [R 17 1 [5] [A 4 v5],.ret]) [5]])],E0 [A 4 (w (-1))],.ret]⟩:=s_
def Cy:cF CH []=some ⟨40,[],S [R 9 2 [2] [n (c2 mJ (l t1) (l t2)),M w0],ra 0 13 (t 12) 14 [11,13,12,0,1] 39 (S [R0 15 2 [L 3 (i 3 (t 11) (t 13)),J 5 (s 3 (al zI) (t 16))],R 18 3 [7,22,21,17] [c2 bY (l t1) (L 3 t5),J 17 v20,J 21 (e 0 (t 17)),e 1 (t 17),J 6 (s 27 (al zO) (t 21)),A 7 (t 22)],R0 8 1 [M w0],S [R0 23 1 [l (f 2 t6)],bw 2 (S [R0 26 1 [eq (t 24) w1,J 25 v26],Ie 25 [24] (R 27 2 [6] [A 8 (l (f 0 t6))]) [] (S [S [R0 30 1 [eq (t 24) w2,J 29 v30],C 29 (Z [24] .skip) (Z [29] (R 31 1 [24] [A 29 (eq (t 24) (w 13))]))],Ie 29 [] (R 32 2 [6] [A 8 (l (f 5 t6))]) [6,5] (ex 1)])])],R 34 4 [5,8] [o (d2 v0 (L 3 t5) v8)],If 38 [13,1,0,11,12] .ret])]⟩:=s_
end
def oH(g:PGM)(x y:Id):Bool:=decide (x∈g.I)&&(decide (y∈g.I)&&qK (g.nd y).W (g.at x))
section
variable{G:L_}
def XF(es:N_)(j p:Nat)(c post:O_)(o:c.length=p)(W:V_)(n:Nat)(d:Hu W)(u:n<256)(s:es[j]?=some (c++(oC W++post))):aA PQ G pE [.elt 0 35 j p,iv n] [some (.arr 35 es)] λr T=>r=.v (.bool (qK W n))/\T=[some (.arr 35 es)]:=by
 apply aC Ar;have q1:bV .quo (.int .i64 (n:Int)) (.int .i64 64)=some (.int .i64 ((n/64:Nat):Int)):=J6 n 64 d_ o_;have q2:bV .rem (.int .i64 (n:Int)) (.int .i64 64)=some (.int .i64 ((n%64:Nat):Int)):=J7 n 64 d_;have q:n%64<64:=zM _ d_;have h:n/64<4:=o_;have f:=AJ d (n/64);have k:=Q4 (W.getD (n/64) 0) (n%64) q f;have t:bV .and (.int .u64 ((W.getD (n/64) 0/2^(n%64):Nat):Int)) (.int .u64 1)=some (.int .u64 ((W.getD (n/64) 0/2^(n%64) &&& 1:Nat):Int)):=J5 _ 1 (QJ (Ml _ _) f) d_;have t1:=K0 (W.getD (n/64) 0) (n%64);have i:=Sq c (oC W) post (n/64) (by rw[aP,d.1];exact h);rw[Dw W (n/64) (by rw[d.1];exact h),o]at i;have m:(0:Int)<=((n/64:Nat):Int):=o_;have l:((n/64:Nat):Int)<4:=o_;have g:qK W n=(W.getD (n/64) 0).testBit (n%64):=rfl;rw[g,<-t1];clear t1 g;generalize n/64=a at *
 generalize n%64=b at *
 generalize c++(oC W++post)=e at *
 simp only[go_sem,↓q1,↓q2,↓k,↓t,m,l,i,s,Bb,pQ]
def aDR (g:PGM) (i:g.ok) (x y:Id):aA PQ G eZ [.ptr 0 0,.ag x.A,.ag y.A] (TG 0 g) λr T=>r=.v (.bool (oH g x y))/\T=TG 0 g:=by
 apply aC Cv;have s:=AL x;have q:=AL y;have b:=qH x g.I 0;have a:=qH y g.I 0;by_cases h1:x∈g.I;obtain⟨j,m,p,_⟩:=dG h1;have l:=yC g.I.length j p;rw[m]at b;simp only[iX,mG]at b;by_cases h2:y∈g.I;obtain⟨k,d,e,_⟩:=dG h2;have h:=yC g.I.length k e;rw[d]at a;simp only[iX,mG]at a;have f:k<g.nodes.length:=by grind[PGM.I]
 have z:j<g.nodes.length:=by grind[PGM.I]
 have w:=i.n;have u:(g.nodes.map ND.A)[k]?=some ((g.nd y).o.A++(g.nd y).id.A++(oC (g.nd y).W++[iv (g.nd y).lv])):=by rw[gE,jN f,RA d,rH,jN f];rfl
 have c:oH g x y=qK (g.nd y).W j:=by unfold oH;rw[decide_eq_true h1,decide_eq_true h2,show g.at x=j by simp[PGM.at,m]];rfl
 rw[c];have t:=XF (G:=G) (g.nodes.map ND.A) k 30 ((g.nd y).o.A++(g.nd y).id.A) [iv (g.nd y).lv] (by rw[dZ,OpM.len];rfl) (g.nd y).W j (Q9 i y) o_ u;simp only[go_sem,TG,MG,b,a,l,h,aP,f];apply aG [2] (aB _) d_ k_ rfl rfl t;rintro r B ⟨rfl,rfl⟩;simp only[go_sem];rw[eG h2]at a;simp only[xD]at a;have c:oH g x y=false:=by grind[oH]
 rw[c];simp only[go_sem,TG,MG,b,a,l];rw[eG h1]at b;simp only[xD]at b;have c:oH g x y=false:=by grind[oH]
 rw[c];by_cases h2:y∈g.I;obtain⟨k,d,e,_⟩:=dG h2;have h:=yC g.I.length k e;rw[d]at a;simp only[iX,mG]at a;simp only[go_sem,TG,MG,b,a,h];rw[eG h2]at a;simp only[xD]at a;simp only[go_sem,TG,MG,b,a]
def aAZ(g:PGM)(a:g.ok):aA PQ G kJ [.ptr 0 0] (TG 0 g) λr T=>r=.ls 5 (g.cards.map CardM.A)/\T=TG 0 g:=by refine aC D0 ?_;have b:=a.cn;simp only[go_sem,TG,MG];apply cX (BB _ F_);simp only[go_sem]
end
def U6(cs:List CardM)(o:OpM)(d:Int):Bool :=
 if o.Kind==13 then d==o.Old else if o.Device !=0 then d==o.Device else(gM cs d).2&&((gM cs d).1.Member==o.Member)
def Oh(cs:List CardM)(a b:OpM):Bool :=
 if a.Kind==3||a.Kind==13 then !((a.Kind==13&&b.Kind==12)&&decide (a.Of=b.Of))&&U6 cs a b.By else
 if a.Kind==12 then(b.Kind==13&&decide (b.Of=a.Of))&&decide (a.At<=b.At) else false
def aBF(g:PGM)(x y:Id):Bool :=
 decide (x∈g.I)&&(decide (y∈g.I)&&(!decide (x=y)&&(!oH g y x&&(!oH g x y&&Oh g.cards (g.nd x).o (g.nd y).o))))
section
variable{G:L_}
def aFS(g:PGM)(c:g.ok)(o:OpM)(d:Int):aA PQ G Bj [.ptr 0 0,.ag o.A,iv d] (TG 0 g) λr T=>r=.v (.bool (U6 g.cards o d))/\T=TG 0 g:=by refine aC Oe ?_;unfold U6;have b:=ZI (G:=G) g d (by have:=c.cn;omega);simp only[go_sem,TG,MG]at b⊢;cases f:(o.Kind==13);cases a:(o.Device !=0);simp only[go_sem,a];apply aG [0,1,2] (aB _) d_ k_ f_ f_ b;rintro r h ⟨rfl,rfl⟩;cases e:(gM g.cards d).2;simp only[go_sem,CardM.A_def,undef];simp only[go_sem,CardM.A_def];simp only[go_sem,a];simp only[go_sem]
end
def B3(g:GM)(ids:D_)(i:Nat):Bool:=ids.any λx=>decide (0<=aW g.I x)&&(g.In.getD (aW g.I x).toNat []).getD i false
def Le(I:D_)(p:Nat->Bool)(n:Nat):D_:=((List.range n).filter p).map λi=>I.getD i default
def rV(g:GM)(ids:D_):D_:=jI (Le g.I (B3 g ids) g.L.length)
def uD(I a out:D_)(x:Id):D_:=if(decide (0<=aW I x)&&(!decide (x∈a)&&!decide (x∈out))) then out++[x] else out
def yV(g:GM)(ids:D_):D_:=jI (ids.foldl (uD g.I (rV g ids)) [])
def vL(I out:D_)(x:Id):D_:=if(decide (0<=aW I x)&&!decide (x∈out)) then out++[x] else out
def Fd(g:GM)(ids:D_):D_:=jI (ids.foldl (vL g.I) (rV g ids))
def vM(d:Int)(n:Int)(x:Id):Int:=if x.a=d then(if n<x.b then x.b else n) else n
def Sx(ids:D_)(d:Int):Int:=ids.foldl (vM d) 0+1
def vN(g:GM)(t:Int)(x:Id):Int:=if 0<=aW g.I x then(if t<(g.L.getD (aW g.I x).toNat default).At then(g.L.getD (aW g.I x).toNat default).At else t) else t
def Fe(g:GM)(ids:D_):Int:=ids.foldl (vN g) 0
def aDS(I:D_)(p:Nat->Bool)(n:Nat):Le I p (n+1)=Le I p n++(if p n then [I.getD n default] else []):=by grind[Le,List.range_succ]
def JF(I:D_)(p:Nat->Bool)(n:Nat):(Le I p n).length<=n:=by grind[Le,List.length_map]
section
variable{G:L_}
def U7 (g:GM) (a:D_) (d:g.ok) (M:a.length<=100000):aA PQ G An [.ag g.A,ids a] [] λr T=>r=.own 0/\T=[some (.arr 3 ((rV g a).map Id.A))]:=by
 apply aC Pb;have K:=d.n;simp only[go_sem];refine aQ g.L.length (λi=>⟨0,[(1,ids a),(2,.ptr 0 0),(5,.own 1),(6,iv i)],[some (.box g.A),some (.arr 3 ((Le g.I (B3 g a) i).map Id.A))]⟩) (λ_=>True) ?_ trivial ?_ ?_;rfl;intro i h _;have q:=fQ i o_;have F:(g.I.map Id.A)[i]?=some (g.I.getD i default).A:=by rw[gE,rH,jN (by rw[d.i];exact h)];rfl
 have D:=d.i;have m:=JF g.I (B3 g a) i;rw[aDS];generalize Le g.I (B3 g a) i=X at *
 generalize g.I.getD i default=J at *
 simp only[go_sem,aP,aT h];refine aQ a.length (λk=>⟨0,[(1,ids a),(2,.ptr 0 0),(5,.own 1),(6,iv i),(7,.v (.bool ((a.take k).any λx=>decide (0<=aW g.I x)&&(g.In.getD (aW g.I x).toNat []).getD i false))),(8,iv k)],[some (.box g.A),some (.arr 3 (X.map Id.A))]⟩) (λ_=>True) ?_ trivial ?_ ?_;simp only[go_sem,uQ,List.any_nil];intro k p _;have H:(a.map Id.A)[k]?=some a[k].A:=aO _ a k p;have j:=fQ k o_;rw[ZE _ a k p];generalize((a.take k).any λx=>decide (0<=aW g.I x)&&(g.In.getD (aW g.I x).toNat []).getD i false)=is;generalize a[k]=x at *
 simp only[go_sem,aP,aT p,H];apply cX (Dt g x d);have y:=AZ g.I x;cases is;simp only[go_sem,ge_iff_le];cases s:decide (0<=aW g.I x);simp only[go_sem,undef,j,aC1,EB];have o:0<=aW g.I x:=of_decide_eq_true s;have B:=d.inn;have w:(aW g.I x).toNat<g.L.length:=o_;have f:(g.In.map λl=>[wI l])[(aW g.I x).toNat]?=some [wI (g.In.getD (aW g.I x).toNat [])]:=u_;have u:(g.In.getD (aW g.I x).toNat []).length=g.L.length:=by rw[rH,jN o_];exact d.ins _ (eQ _)
 have E:((g.In.getD (aW g.I x).toNat []).map λb=>[AV.v (.bool b)])[i]?=some [AV.v (.bool ((g.In.getD (aW g.I x).toNat []).getD i false))]:=u_;have z:(if 0>aW g.I x then(0:Int) else aW g.I x)=aW g.I x:=if_neg o_;simp only[go_sem,z,o,f,E,j,mF,EH];simp only[go_sem,undef,j,EI];intro _;rw[dE];have C:(a.any λx=>decide (0<=aW g.I x)&&(g.In.getD (aW g.I x).toNat []).getD i false)=B3 g a i:=rfl;rw[C];cases s:B3 g a i;simp only[go_sem,aP,aS (bP _),q];simp only[go_sem,aP,aS (bP _),q,F,bZ,(g_:X.length+1<=maxLen),(o_:(X.length+1)*24<=140737488355328)];intro _;have m:=JF g.I (B3 g a) g.L.length;simp only[go_sem,aP,aS (bP _)];apply cH (aB _) rfl rfl (AD _ o_);rintro r N ⟨rfl,rfl⟩;refine⟨S_,by simp only[cA,xH,forall_eq,dF];rintro e ⟨b,_,rfl⟩ c t;simp only[Id.A,cS,pP,or_false]at t;rcases t with rfl|rfl|rfl<;>exact⟨_,rfl⟩,?_⟩;simp only[go_sem];rfl
def aB0(g:GM)(a:D_)(c:g.ok)(b:a.length<=100000):aA PQ G An [.ag g.A,ids a] [] λr T=>r=ids (rV g a)/\T=[]:=by refine(U7 g a c b).fin [0] ?_;rintro r d ⟨rfl,rfl⟩;simp only[go_sem,gQ]
def MR(l:D_):∀e∈l.map Id.A,∀c∈e,∃x,c=AV.v x:=by grind[Id.A]
def Oi(g:GM)(a:D_)(b:g.ok):(rV g a).length<=1000:=by unfold rV;rw[Qn];have:=JF g.I (B3 g a) g.L.length;have:=b.n;omega
def KE(I a:D_):∀(l:D_)(out:D_),(l.foldl (uD I a) out).length<=out.length+l.length|[],out=>by simp|x::l,out=>by rw[CW];have:=KE I a l (uD I a out x);grind[uD,List.length_cons]
def GN(I:D_):∀(l:D_)(out:D_),(l.foldl (vL I) out).length<=out.length+l.length|[],out=>by simp|x::l,out=>by rw[CW];have:=GN I l (vL I out x);grind[vL,List.length_cons]
def GO{α a:Type}(f:a->α->a)(b:a)(l:List α)(i:Nat)(h:i<l.length):(l.take (i+1)).foldl f b=f ((l.take i).foldl f b) l[i]:=by rw[lB h,Hy];rfl
def aFT(g:GM)(a:D_)(h:g.ok)(l:a.length<=100000):aA PQ G xR [.ag g.A,ids a] [] λr T=>r=.own 0/\T=[some (.arr 3 ((yV g a).map Id.A))]:=by
 apply aC Nb;have m:=Oi g a h;simp only[go_sem];apply cX (aB0 g a h l);unfold yV;generalize rV g a=c at *
 simp only[go_sem];refine aQ a.length (λi=>⟨0,[(1,ids a),(2,.ptr 0 0),(5,ids c),(6,.own 1),(7,iv i)],[some (.box g.A),some (.arr 3 (((a.take i).foldl (uD g.I c) []).map Id.A))]⟩) (λ_=>True) ?_ trivial ?_ ?_;simp only[go_sem,uQ,Kk]
 ·intro i d _;have e:=fQ i o_;have f:(a.map Id.A)[i]?=some a[i].A:=aO _ a i d;have b:=KE g.I c (a.take i) [];rw[eC]at b;simp only[gQ]at b;rw[GO _ _ a i d];generalize(a.take i).foldl (uD g.I c) []=out at *
  generalize a[i]=x at *
  have k:out.length+1<=maxLen:=g_;have j:(out.length+1)*24<=140737488355328:=o_;simp only[go_sem,aP,aT d,f];apply cX (Dt g x h);simp only[go_sem,ge_iff_le];cases h1:decide (0<=aW g.I x);simp only[go_sem,undef,e,uD,h1,aC1,jJ];simp only[go_sem,f];apply cX (uJ c x g_);cases h2:decide (x∈c);rotate_left;simp only[go_sem,undef,e,uD,h1,h2,lI,aC1,Ea,jJ];simp only[go_sem,f];apply cH (aB _) rfl rfl (uJ out x o_);rintro r n ⟨rfl,rfl⟩;refine⟨S_,k_,?_⟩;cases h3:decide (x∈out);simp only[go_sem,aP,f,k,j,e,uD,h1,h2,h3,sF,mF,bZ];simp only[go_sem,e,uD,h1,h2,h3,lI,sF,Ea,jJ]
 intro _;rw[dE];have b:=KE g.I c a [];simp only[gQ]at b;generalize a.foldl (uD g.I c) []=out at *
 simp only[go_sem,aP,aS (bP _)];apply cH (aB _) rfl rfl (AD out o_);rintro r n ⟨rfl,rfl⟩;refine⟨S_,by simp only[cA,xH,forall_eq];exact MR _,?_⟩;simp only[go_sem]
def XG(g:GM)(a:D_)(f:g.ok)(l:a.length<=100000):aA PQ G qR [.ag g.A,ids a] [] λr T=>r=.own 0/\T=[some (.arr 3 ((Fd g a).map Id.A))]:=by
 apply aC PX;have m:=Oi g a f;simp only[go_sem];apply kM (U7 g a f l);unfold Fd;generalize rV g a=d at *
 simp only[go_sem];refine aQ a.length (λi=>⟨0,[(1,ids a),(2,.ptr 0 0),(5,.own 1),(6,iv i)],[some (.box g.A),some (.arr 3 (((a.take i).foldl (vL g.I) d).map Id.A))]⟩) (λ_=>True) ?_ trivial ?_ ?_;rfl;intro i b _;have e:=fQ i o_;have h:(a.map Id.A)[i]?=some a[i].A:=aO _ a i b;have c:=GN g.I (a.take i) d;rw[eC]at c;rw[GO _ _ a i b];generalize(a.take i).foldl (vL g.I) d=out at *
 generalize a[i]=x at *
 have k:out.length+1<=maxLen:=g_;have j:(out.length+1)*24<=140737488355328:=o_;simp only[go_sem,aP,aT b,h];apply cX (Dt g x f);simp only[go_sem,ge_iff_le];cases h1:decide (0<=aW g.I x);simp only[go_sem,undef,e,vL,h1,aC1,jJ];simp only[go_sem,h];apply cH (aB _) rfl rfl (uJ out x o_);rintro r n ⟨rfl,rfl⟩;refine⟨S_,k_,?_⟩;cases h3:decide (x∈out);simp only[go_sem,aP,h,k,j,e,vL,h1,h3,sF,mF,bZ];simp only[go_sem,e,vL,h1,h3,lI,Ea,jJ];intro _;rw[dE];have c:=GN g.I a d;generalize a.foldl (vL g.I) d=out at *
 simp only[go_sem,aP,aS (bP _)];apply cH (aB _) rfl rfl (AD out o_);rintro r n ⟨rfl,rfl⟩;refine⟨S_,by simp only[cA,xH,forall_eq];exact MR _,?_⟩;simp only[go_sem]
def U9(g:GM)(a:D_)(c:g.ok)(b:a.length<=100000):aA PQ G xR [.ag g.A,ids a] [] λr T=>r=ids (yV g a)/\T=[]:=by refine(aFT g a c b).fin [0] ?_;rintro r d ⟨rfl,rfl⟩;simp only[go_sem,gQ]
def ZL(g:GM)(a:D_)(c:g.ok)(b:a.length<=100000):aA PQ G qR [.ag g.A,ids a] [] λr T=>r=ids (Fd g a)/\T=[]:=by refine(XG g a c b).fin [0] ?_;rintro r d ⟨rfl,rfl⟩;simp only[go_sem,gQ]
def JG(g:GM)(a:g.ok):aA PQ G AU [.ag g.A] [] λr T=>r=ids (jI g.I)/\T=[]:=by refine aA.fin (p:=λr T=>r=.own 0/\T=[some (.arr 3 ((jI g.I).map Id.A))]) (aC SB ?_) [0] ?_;have b:=a.n;have c:=a.i;simp only[go_sem];apply kM (AD g.I o_);simp only[go_sem];rintro r d ⟨rfl,rfl⟩;simp only[go_sem,gQ]
def XH(d:Int):∀(l:D_)(n:Int),n<=l.foldl (vM d) n|[],n=>Int.le_refl _|x::l,n=>Int.le_trans (by unfold vM;split<;>(try split)<;>omega) (XH d l (vM d n x))
def XI(d B:Int):∀(l:D_)(n:Int),n<=B->(∀x∈l,x.b<=B)->l.foldl (vM d) n<=B|[],n,h,_=>h|x::l,n,h,a=>XI d B l _ (by have:=a x EV;unfold vM;split<;>(try split)<;>omega) λy c=>a y (GU _ c)
def aH7(g:GM)(e:D_)(d:Int)(m:e.length<=100000)(l:∀x∈e,x.b<=9223372036854775806):aA PQ G F8 [.ag g.A,ids e,iv d] [] λr T=>r=iv (Sx e d)/\T=[]:=by
 apply aC SC;simp only[go_sem];refine aQ e.length (λi=>⟨0,[(1,ids e),(2,iv d),(7,iv ((e.take i).foldl (vM d) 0)),(8,iv i)],[]⟩) (λ_=>True) ?_ trivial ?_ ?_;rfl;intro i f _;have j:=fQ i o_;have k:(e.map Id.A)[i]?=some [.v (.int .i64 e[i].a),.v (.int .i64 e[i].b),.v (.int .u64 e[i].c)]:=aO _ e i f;rw[GO _ _ e i f];generalize(e.take i).foldl (vM d) 0=n at *
 generalize e[i]=x at *
 simp only[go_sem,aP,aT f,k];refine aL (λh=>?_) (λh=>?_)<;>simp only[beq_iff_eq,beq_eq_false_iff_ne,ne_eq]at h;simp only[go_sem,k,j,vM,h,gt_iff_lt];simp only[go_sem,j,vM,h];intro _;rw[dE];have h1:=XH d e 0;have h2:=XI d 9223372036854775806 e 0 o_ l;have w1:IntKind.i64.wrap (e.foldl (vM d) 0+1)=Sx e d:=aJ o_ o_;simp only[go_sem,aP,aS (bP _),w1]
def aDT(g:GM)(a:D_)(c:g.ok)(l:a.length<=100000):aA PQ G DP [.ag g.A,ids a] [] λr T=>r=iv (Fe g a)/\T=[]:=by
 apply aC PY;have k:=c.n;simp only[go_sem];refine aQ a.length (λi=>⟨0,[(1,ids a),(2,.ptr 0 0),(5,iv ((a.take i).foldl (vN g) 0)),(6,iv i)],[some (.box g.A)]⟩) (λ_=>True) ?_ trivial ?_ ?_;rfl;intro i b _;have d:=fQ i o_;have j:(a.map Id.A)[i]?=some a[i].A:=aO _ a i b;rw[GO _ _ a i b];generalize(a.take i).foldl (vN g) 0=n at *
 generalize a[i]=x at *
 simp only[go_sem,aP,aT b,j];apply cX (Dt g x c);have f:=AZ g.I x;simp only[go_sem,ge_iff_le];refine aL (λh=>?_) (λh=>?_)<;>simp only[decide_eq_true_eq,decide_eq_false_iff_not]at h;have e:(aW g.I x).toNat<g.L.length:=by have:=c.i;omega
 have cE:(g.L.map OpM.A)[(aW g.I x).toNat]?=some (g.L.getD (aW g.I x).toNat default).A:=u_;simp only[go_sem,h,cE,d,vN,gt_iff_lt];simp only[go_sem,d,vN,h];intro _;rw[dE];simp only[go_sem,aP,aS (bP _),Fe]
end
def CardM.K(c:CardM):C_:=[.int .i64 c.Device,.int .i64 c.Member,.int .u64 c.Lead,.int .u64 c.Keep,.int .u64 c.Sign]
def aIf(x y:CardM):Int:=x.Device-y.Device
def uE(l:List CardM):List CardM:=l.mergeSort λx y=>decide (x.Device<=y.Device)
structure cardsOk(l:List CardM):Prop where
 n:l.length<=1000
 ne:l≠[]
 cs:∀c∈l,c.ok
 dv:∀c∈l,0<=c.Device/\c.Device<=1000
 un:∀c∈l,∀d∈l,c.Device=d.Device->c=d
def BI{l:List CardM}{c:CardM}:c∈uE l↔c∈l:=(H4 l _).mem_iff
def XJ(l:List CardM):(uE l).length=l.length:=(H4 l _).length_eq
def VA{l:List CardM}(h:∀c∈l,∀d∈l,c.Device=d.Device->c=d)(x:Int)(c:CardM):l.find? (λc=>c.Device==x)=some c↔(c∈l/\c.Device=x):=by
 constructor;grind;rintro⟨a,b⟩
 cases e:l.find? (λc=>c.Device==x) with
 |none=>exact absurd (Eb.1 e c a) (by simp[b])|some d=>
  grind
def XK{l:List CardM}(h:cardsOk l)(d:Int):gM (uE l) d=gM l d:=by
 have:(uE l).find? (λc=>c.Device==d)=l.find? (λc=>c.Device==d):=by
  cases e:l.find? (λc=>c.Device==d) with
  |none=>
   rw[Eb]at e⊢;intro c a;exact e c (BI.1 a)
  |some c=>
   rw[VA h.un]at e;rw[VA (λc a d b=>h.un c (BI.1 a) d (BI.1 b))];exact⟨BI.2 e.1,e.2⟩
 grind[gM]
section
variable{G:L_}
def aFU(x y:CardM)(b:0<=x.Device/\x.Device<=1000)(a:0<=y.Device/\y.Device<=1000):aA PQ G tG [.ag x.A,.ag y.A] [] λr T=>r=iv (aIf x y)/\T=[]:=by refine aC Jv ?_;have w:IntKind.i64.wrap (x.Device-y.Device)=x.Device-y.Device:=aJ o_ o_;simp only[go_sem,CardM.A_def,w,aIf]
def aFV(l:List CardM)(e:cardsOk l):aA PQ G kK [.own 0,.cl tG []] [some (.arr 5 (l.map CardM.A))] λr T=>r=.tup []/\T=[some (.arr 5 ((uE l).map CardM.A))]:=by
 let α:={c:CardM // c∈l}
 have:Inhabited α:=⟨⟨l.head e.ne,List.head_mem e.ne⟩⟩
 let cf:α->α->Int:=λx y=>aIf x.1 y.1;have d:∀x y:α,Go.Proofs.ltOf cf x y=decide (x.1.Device<y.1.Device):=by intro x y;unfold Go.Proofs.ltOf;show decide (x.1.Device-y.1.Device<0)=_;simp_all;omega
 have f:=SW (α:=α) (k:=5) (enc:=λc=>c.1.K) Go.Proofs.Tryz.laysSortC Go.Proofs.Tryz.isAgg121 Go.Proofs.Tryz.sizeOf121 (λ_=>rfl) (λx v h=>by simp[CardM.K]at h;rcases h with rfl|rfl|rfl|rfl|rfl<;>rfl)
  (λx c i=>by simp[cellsOf,CardM.K]at i;rcases i with rfl|rfl|rfl|rfl|rfl<;>rfl) (cf:=cf)
  ⟨λx=>by rw[d];simp,λx y z h1 h2=>by rw[d]at *;simp at *;omega,λx y z h1 h2=>by rw[d]at *;simp at *;omega⟩
  (λx y h1 h2=>by rw[d]at *;simp at h1 h2;exact Subtype.ext (e.un _ x.2 _ y.2 o_)) (g:=tG) (Go.Proofs.enters_of Go.Proofs.Tryz.func109 s_ rfl) (Go.Proofs.enters_of Go.Proofs.Tryz.func108 s_ rfl) (G:=G) (λx y=>aFU x.1 y.1 (e.dv _ x.2) (e.dv _ y.2)) l.attach (by rw[List.length_attach];have:=e.n;omega)
 have o:l.attach.map (cellsOf λc:α=>c.1.K)=l.map CardM.A:=by rw[show(cellsOf λc:α=>c.1.K)=CardM.A∘Subtype.val from rfl,<-rI,X4]
 have m:(l.attach.mergeSort λx y=>!(Go.Proofs.ltOf cf y x)).map (cellsOf λc:α=>c.1.K)=(uE l).map CardM.A:=by
  rw[show(cellsOf λc:α=>c.1.K)=CardM.A∘Subtype.val from rfl,<-rI];congr 1;have j:(λx y:α=>!(Go.Proofs.ltOf cf y x))=λx y:α=>decide (x.1.Device<=y.1.Device):=l_;rw[j,List.map_mergeSort (s:=λx y:CardM=>decide (x.Device<=y.Device)) (λa _ b _=>rfl),X4];rfl
 rw[o,m]at f;exact f
def aIg(l:List CardM)(a:cardsOk l):aA PQ G Bi [.ls 5 (l.map CardM.A)] [] λr T=>r=.ptr 0 0/\T=[some (.box [.own 1,.mp 2,.v (.slice none 0 0)]),some (.arr 5 ((uE l).map CardM.A)),some (MG [])]:=by refine aC Ny ?_;have b:=a.n;simp only[go_sem];apply kM (rE (l.map CardM.A) F_);simp only[go_sem];apply aG (T2:=[some (.arr 5 (l.map CardM.A))]) [0] (aB _) d_ k_ rfl f_ (aFV l a);rintro r c ⟨rfl,rfl⟩;simp only[go_sem,MG,uP,Mk,gQ]
def aKl(l:List CardM)(a:cardsOk l):aA PQ G Bi [.ls 5 (l.map CardM.A)] [] λr T=>r=.ptr 0 0/\T=[some (.box [.ls 5 ((uE l).map CardM.A),.mp 1,.v (.slice none 0 0)]),some (MG [])]:=by refine(aIg l a).fin [1] ?_;rintro r b ⟨rfl,rfl⟩;simp only[go_sem,MG,uP,Mk]
end
def aFW {g:PGM} (b:g.ok) (l:D_):0<=Fa g l/\Fa g l<=g.nodes.length+1:=by
 have a:∀(l:D_)(m:Int),0<=m->m<=g.nodes.length+1->0<=l.foldl (λm x=>max m ((g.nd x).lv+1)) m/\l.foldl (λm x=>max m ((g.nd x).lv+1)) m<=g.nodes.length+1:=by
  intro l
  induction l with
  |nil=>exact λm h0 h1=>⟨h0,h1⟩| cons x l ih=>
   intro m h0 h1;have c:0<=(g.nd x).lv/\(g.nd x).lv<=g.nodes.length:=by unfold PGM.nd;rw[rH];rcases eD (g.at x) g.nodes.length with h|h;rw[jN h];exact b.lv _ (eQ h);grind[XD]
   grind
 exact a l 1 o_ o_
def aDU{g:PGM}(a:g.ok)(o:OpM):Hu (BF g o):=Sp (JC a _) (JB _ _)
def XL(g:PGM)(o:OpM):(aCW g o).1=g\/(aCW g o).1=⟨g.cards,g.nodes++[⟨o,C7 o,BF g o,Fa g o.Past⟩]⟩/\g.nodes.length<200:=by grind[aCW,Oa,Q8]
def aFX{g:PGM}{o:OpM}(a:g.ok)(d:o.ok)(c:(C7 o).ok):(aCW g o).1.ok:=by rcases XL g o with h|⟨h,f⟩<;>rw[h];exact a;have e:=aFW a o.Past;refine⟨b_,a.cn,a.cs,?_,?_,?_,?_⟩<;>intro x b<;>simp only[cG,cA]at b<;>rcases b with b|rfl;exact a.ops x b;exact d;exact a.ids x b;exact c;exact a.ws x b;exact aDU a o;have:=a.lv x b;simp_all;omega;simp_all
def AM(cs:List CardM)(l:List OpM):PGM:=l.foldl (λp o=>(aCW p o).1) ⟨uE cs,[]⟩
theorem MS(cs:List CardM)(l:List OpM)(o:OpM):AM cs (l++[o])=(aCW (AM cs l) o).1:=by simp[AM]
def XM{cs:List CardM}(d:cardsOk cs):∀(l:List OpM),(∀o∈l,o.ok/\(C7 o).ok)->(AM cs l).ok:=by
 have h0:(⟨uE cs,[]⟩:PGM).ok:=⟨k_,by show(uE cs).length<=1000;rw[XJ];exact d.n,λc h=>d.cs c (BI.1 h),k_,k_,k_,k_⟩
 have b:∀(l:List OpM)(p:PGM),p.ok->(∀o∈l,o.ok/\(C7 o).ok)->(l.foldl (λp o=>(aCW p o).1) p).ok:=by
  intro l
  induction l with
  |nil=>exact λp h _=>h|cons o l ih=>exact λp h a=>ih _ (aFX h (a o k_).1 (a o k_).2) (λx e=>a x (by simp[e]))
 exact λl a=>b l _ h0 a
section
variable{G:L_}
end
inductive RU(Up:List (List Nat))(up:List Nat):Nat->Prop
 |base {k:Nat}:k∈up->RU Up up k|step {j k:Nat}:RU Up up j->k∈Up.getD j []->RU Up up k
theorem RU.tail{a:List V_}{up:V_}{k:Nat}:RU a up k↔k∈up\/∃j,RU a up j/\k∈a.getD j []:=by
 constructor;intro h
 cases h with
 |base h=>exact .inl h|step h1 h2=>exact .inr ⟨_,h1,h2⟩
 rintro(h|⟨j,h1,h2⟩);exact .base h;exact .step h1 h2
def RU.head{b:List V_}{up:V_}{k:Nat}:RU b up k↔k∈up\/∃i∈up,RU b (b.getD i []) k:=by
 constructor;intro h
 induction h with
 |base h=>exact .inl h|step h1 h2 ih=>
  rcases ih with ih|⟨i,a,ih⟩
  exact .inr ⟨_,ih,.base h2⟩;exact .inr ⟨i,a,.step ih h2⟩
 rintro(h|⟨i,a,h⟩);exact .base h
 induction h with
 |base h=>exact .step (.base a) h|step h1 h2 ih=>exact .step ih h2
def RU.lt{a:List V_}{up:V_}{n:Nat}(b:∀k∈up,k<n)(c:∀i,∀k∈a.getD i [],k<i){k:Nat}(h:RU a up k):k<n:=by
 induction h with
 |base h=>exact b _ h|step h1 h2 ih=>have:=c _ _ h2;omega
def aB1(u:V_)(a:List Bool)(h:∀k∈u,k<a.length)(k:Nat):(u.foldl (λb k=>b.set k true) a).getD k false=(decide (k∈u)||a.getD k false):=by
 induction u generalizing a with
 |nil=>simp|cons x u ih=>
  grind
def XN(c:List V_)(up:V_)(a:List Bool)(i:Nat)(j:i<a.length)(h:∀k∈c.getD i [],k<i)(k:Nat):
 ((OG c up a i).getD k false=true)↔(a.getD k false=true\/(k=i/\i∈up)\/((a.getD i false=true\/i∈up)/\k∈c.getD i [])):=by
 have d:∀k,((if decide (i∈up) then a.set i true else a).getD k false=true)↔(a.getD k false=true\/(k=i/\i∈up)):=l_;have e:(if decide (i∈up) then a.set i true else a).length=a.length:=by split<;>simp
 unfold OG;generalize(if decide (i∈up) then a.set i true else a)=b at *
 by_cases g:b.getD i false=true;rw[if_pos g,aB1 _ _ (λk f=>by rw[e];have:=h k f;omega),Ec,d,decide_eq_true_eq];grind;grind
def Oj (b:List V_) (up:V_) (n:Nat) (e:∀k∈up,k<n) (d:∀i,∀k∈b.getD i [],k<i):∀(i:Nat)(a:List Bool),a.length=n->i<=n ->
 (∀k,i<=k->((a.getD k false=true)↔RU b up k))->(∀k,k<i->((a.getD k false=true)↔∃j,i<=j/\RU b up j/\k∈b.getD j []))->∀k,((Kx b up i a).getD k false=true)↔RU b up k
 |0,a,_,_,h1,_=>λk=>h1 k o_| i+1,a,g,m,h1,h2=>by
  have f:=XN b up a i o_ (d i);have c:(a.getD i false=true\/i∈up)↔RU b up i:=by grind[RU.tail]
  refine Oj b up n e d i (OG b up a i) (by rw[Q1];exact g) o_ ?_ ?_;grind;intro k l;rw[f,h2 k o_,c];constructor;rintro(⟨j,h3,h4,h5⟩|h3|h3);exact⟨j,o_,h4,h5⟩;omega;exact⟨i,cN _,h3.1,h3.2⟩;rintro⟨j,h3,h4,h5⟩;rcases eD i j with h|h;exact .inl ⟨j,h,h4,h5⟩;obtain rfl:j=i:=o_;exact .inr (.inr ⟨h4,h5⟩)
def Ok(g:GM)(up:V_)(a:∀k∈up,k<g.L.length)(b:∀i,∀k∈g.Up.getD i [],k<i)(k:Nat):((oL g up).getD k false=true)↔RU g.Up up k:=by refine Oj g.Up up g.L.length a b _ _ k_ (cN _) ?_ ?_ k;intro k c;constructor;intro h;rw[rH,sX b_]at h;exact absurd h d_;intro h;have:=h.lt a b;omega;intro k c;constructor;intro h;rw[rH,List.getElem?_replicate,if_pos c]at h;exact absurd h d_;rintro⟨j,h1,h2,_⟩;have:=h2.lt a b;omega
def RU.more{a:List V_}{u up:V_}{k:Nat}(b:∀k∈up,k<a.length)(d:∀i,∀k∈a.getD i [],k<i):RU (a++[u]) up k↔RU a up k:=by
 have c:∀j,j<a.length->(a++[u]).getD j []=a.getD j []:=λj e=>l_;constructor;intro h
 induction h with
 |base h=>exact .base h|step h1 h2 ih=>exact .step ih (by rwa[c _ (ih.lt b d)]at h2)
 intro h
 induction h with
 |base h=>exact .base h|step h1 h2 ih=>exact .step ih (by rwa[c _ (h1.lt b d)])
def aDV(W V:V_)(h:W.length=V.length)(i:Nat):(Kz W V).getD i 0=W.getD i 0 ||| V.getD i 0:=by grind[Kz]
def aB2(W V:V_)(h:W.length=V.length)(i:Nat):(Cu W V).getD i 0=W.getD i 0 &&& V.getD i 0:=by grind[Cu]
def ZM{W V:V_}(a:Hu W)(b:Hu V)(k:Nat):qK (Kz W V) k=(qK W k||qK V k):=by unfold qK;rw[aDV W V (by rw[a.1,b.1]),YP]
def ZN(k:Nat):qK z4 k=false:=by grind[qK,z4]
def aDW{W:V_}(a:Hu W)(n k:Nat)(b:n<256):qK (Py W n) k=(decide (k=n)||qK W k):=by
 unfold qK Py;have c:n/64<W.length:=by rw[a.1];omega
 grind
def aB3{W V:V_}(c:Hu W)(f:Hu V)(h:∀k,k<256->qK W k=true->qK V k=false):Cu W V=z4:=by
 have j:=U3 c f;refine Ki (by rw[j];rfl) λi l _=>?_;have a:i<4:=o_;have g:z4[i]'(by simpa[z4]using a)=0:=by grind[z4]
 rw[g];have e:=aB2 W V (by rw[c.1,f.1]) i;rw[rH,jN l,Mi]at e;rw[e];refine Nat.eq_of_testBit_eq λb=>?_;rw[Nat.testBit_and,aBK];rcases eD b 64 with d|d;have h1:(64*i+b)/64=i:=o_;have h2:(64*i+b)%64=b:=o_;have:=h (64*i+b) o_;grind[qK];rw[Nat.testBit_lt_two_pow (CV (AJ c i) (show 18446744073709551616<=2^b from Gl (n:=2) (i:=64) o_ d))];rfl
def aDX(g:PGM)(f:g.nodes.length<=200)(l:D_)(e:∀x∈l,g.at x<256)(k:Nat):(qK (Hg g l) k=true)↔∃x∈l,g.at x=k:=by
 have a:∀(l:D_)(W:V_),Hu W->(∀x∈l,g.at x<256)->((qK (l.foldl (λW x=>Py W (g.at x)) W) k=true)↔(qK W k=true\/∃x∈l,g.at x=k)):=by
  intro l
  induction l with
  |nil=>intro W _ _;simp|cons x l ih=>
   intro W c b;rw[CW,ih _ (ZG c _) (λy d=>b y (by simp[d])),aDW c _ _ (b x k_),Ec,decide_eq_true_eq];grind
 unfold Hg;rw[a l z4 Ob e,ZN];simp
def aDY{g:PGM}(b:g.ok)(l:D_)(k:Nat):(qK (Hh g l) k=true)↔∃x∈l,qK (g.nd x).W k=true:=by
 have a:∀(l:D_)(W:V_),Hu W->((qK (l.foldl (λW x=>Kz W (g.nd x).W) W) k=true)↔(qK W k=true\/∃x∈l,qK (g.nd x).W k=true)):=by
  intro l
  induction l with
  |nil=>intro W _;simp|cons x l ih=>
   intro W c;rw[CW,ih _ (Sp c (Q9 b x)),ZM c (Q9 b x),Ec];grind
 unfold Hh;rw[a l z4 Ob,ZN];simp
def aDZ(g:PGM)(x:Id):g.at x=(aW g.I x).toNat:=by grind[PGM.at,aW,qX]
def Cz(I:D_)(x:Id):0<=aW I x↔x∈I:=by have:=mN (λy=>decide (y=x)) I;grind[aW]
def aFY(g:PGM)(a:Int)(l:D_)(h0:0<=a)(h:∀x∈l,(g.nd x).o.At<=a):G0 g l<=a:=by
 have b:∀(l:D_)(m:Int),m<=a->(∀x∈l,(g.nd x).o.At<=a)->l.foldl (λm x=>max m (g.nd x).o.At) m<=a:=by
  intro l
  induction l with
  |nil=>exact λm h _=>h|cons x l ih=>
   grind
 exact b l 0 h0 h
end Hud
