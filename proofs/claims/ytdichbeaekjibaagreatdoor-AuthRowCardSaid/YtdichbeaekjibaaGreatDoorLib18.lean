import Derived.Test.YtdichbeaekjibaaGreatDoorLib17
set_option linter.all false
set_option maxHeartbeats 40000000
namespace Hud
open Go
def yW(g:GM)(o:OpM):V_:=o.Past.map λx=>(aW g.I x).toNat
structure Acc(g:GM)(o:OpM):Prop where
 check:jB o=0
 twice:¬0<=aW g.I (C7 o)
 full:g.L.length<200
 card:(gM g.Cards o.By).2=true
 sig:BW (gM g.Cards o.By).1.Sign o.B o.SR o.SS=true
 kind:((o.Kind==1)&&decide (0<g.L.length))=false
 there:∀x∈o.Past,0<=aW g.I x
 up:(dV g o).2=yW g o
 order:J0 g o (yW g o)=true
 right:FT g.L o (oL g (yW g o))=true
def Ff{g:GM}{o:OpM}(h:(dV g o).1=0):Acc g o:=by
 have h0:=h;unfold dV at h;split at h;omega;rename_i b;simp only[ne_eq,Decidable.not_not]at b;have i:dV g o=Du g o:=by grind[dV]
 unfold Du at h;split at h;simp at h;rename_i h1;split at h;simp at h;rename_i h2;split at h;simp at h;rename_i h3;split at h;simp at h;rename_i h4;split at h;simp at h;rename_i h5;have f:Du g o=BA g o:=by rw[Du,if_neg h1,if_neg h2,if_neg h3,if_neg h4,if_neg h5]
 unfold BA at h;by_cases a:(o.Past.all λx=>decide (0<=aW g.I x))=true;rotate_left;have:Pu g.I o.Past=none:=by rw[Pu,if_neg a]
 rw[this]at h;simp at h;have d:Pu g.I o.Past=some (yW g o):=by rw[Pu,if_pos a];rfl
 have e:BA g o=CN g o (yW g o):=by rw[BA,d]
 rw[d]at h;simp only at h;unfold CN at h;split at h;simp at h;rename_i h6;split at h;simp at h;rename_i c;exact⟨b,h1,o_,by simpa using h3,by simpa using h4,by simpa using h5,dt,by rw[i,f,e,CN,if_neg h6,if_neg c],by simpa using h6,J_⟩
def yE{g:GM}{o:OpM}(a:Acc g o)(h:(dV g o).1=0):(addM g o).1=⟨g.Cards,g.L++[o],g.I++[C7 o],g.Up++[yW g o],(g.In.map λr=>r++[false])++[oL g (yW g o)++[false]]⟩:=by rw[addM,if_neg (by simp[h]),a.up]
structure GM.wf(g:GM):Prop where
 un:g.Up.length=g.L.length
 inn:g.In.length=g.L.length
 i:g.I.length=g.L.length
 up:∀i,∀k∈g.Up.getD i [],k<i
 past:∀i,i<g.L.length->∀k,((g.In.getD i []).getD k false=true)↔RU g.Up (g.Up.getD i []) k
def aIh(cs:List CardM):(⟨cs,[],[],[],[]⟩:GM).wf:=⟨rfl,rfl,rfl,k_,k_⟩
def aE0{g:GM}{o:OpM}(w:g.wf)(a:Acc g o):∀k∈yW g o,k<g.L.length:=by intro k c;obtain⟨x,b,rfl⟩:=dF.1 c;have h1:=AZ g.I x;have h2:=a.there x b;have:=w.i;omega
def RC(l:List Bool)(k:Nat):(l++[false]).getD k false=l.getD k false:=m_
def Ol{α:Type}(l:List α)(x d:α)(k:Nat)(h:k<l.length):(l++[x]).getD k d=l.getD k d:=m_
def D2{α:Type}(l:List α)(x d:α):(l++[x]).getD l.length d=x:=k_
def XO{α:Type}(l:List α)(x d:α)(k:Nat)(h:l.length<k):(l++[x]).getD k d=d:=m_
def aE1{g:GM}(w:g.wf)(p:List Bool)(i:Nat)(h:i<g.L.length)(k:Nat):((((g.In.map λr=>r++[false])++[p]).getD i []).getD k false)=(g.In.getD i []).getD k false:=by
 have a:i<g.In.length:=by rw[w.inn];exact h
 grind
def aIi {g:GM} {o:OpM} (w:g.wf) (h:(dV g o).1=0):(addM g o).1.wf:=by
 have a:=Ff h;have c:=aE0 w a;rw[yE a h];have f:∀i,i<g.L.length->(g.Up++[yW g o]).getD i []=g.Up.getD i []:=λi d=>Ol _ _ _ _ (by rw[w.un];exact d);have e:(g.Up++[yW g o]).getD g.L.length []=yW g o:=by rw[<-w.un];exact D2 _ _ _
 refine⟨by simp[w.un],by simp[w.inn],by simp[w.i],?_,?_⟩;intro i k b;rcases aGJ i g.L.length with h1|h1|h1;rw[f i h1]at b;exact w.up i k b;rw[h1,e]at b;rw[h1];exact c k b;rw[XO _ _ _ _ (by rw[w.un];exact h1)]at b;simp at b;intro i d k;simp only[dZ,GT]at d;rcases eD i g.L.length with h1|h1;rw[f i h1,aE1 w _ i h1 k,RU.more (λk b=>by rw[w.un];have:=w.up i k b;omega) w.up];exact w.past i h1 k;obtain rfl:i=g.L.length:=o_;rw[e,RU.more (λk b=>by rw[w.un];exact c k b) w.up,<-Ok g _ c w.up];have:((g.In.map λr=>r++[false])++[oL g (yW g o)++[false]]).getD g.L.length []=oL g (yW g o)++[false]:=by
  have h2:g.L.length=(g.In.map λr=>r++[false]).length:=by simp[w.inn]
  rw[h2];exact D2 _ _ _
 rw[this,RC]
structure Sim(p:PGM)(g:GM):Prop where
 c:∀d,gM p.cards d=gM g.Cards d
 l:p.nodes.map (·.o)=g.L
 i:p.I=g.I
 w:∀i,i<g.L.length->∀k,k<256->qK (p.nodes.getD i XD).W k=(g.In.getD i []).getD k false
def aFZ{cs:List CardM}(a:cardsOk cs):Sim ⟨uE cs,[]⟩ ⟨cs,[],[],[],[]⟩:=⟨λd=>XK a d,rfl,rfl,k_⟩
section
variable{G:L_}
end
section
open W
def Lf:cF zT [(0,none,1)]=some ⟨2,[(0,none)],S [R0 0 1 [M z],S [R0 1 1 [x (.bsl 1 [z0,z0,z0,z0,z0,z0] [(0,(1,zw 1)),(1,(1,zw 2)),(2,(1,zw 3)),(3,(1,zw 1)),(4,(1,zw 2)),(5,(1,zw 3))] 6),J 0 v1],ow 0 1],.ret]⟩:=s_
def Lg:cF DS []=some ⟨17,[(4,none)],S [R 4 1 [0] [J 2 (b t0),J 4 (M w0)],R 8 3 [2,1,12,11,7] [c2 DT (L 5 t2) v1,J 7 v10,J 11 (e 0 t7),e 1 t7,J 5 (s 5 (al zC) (t 11)),v12],S [R 13 1 [6] [o v6],If 14 [5] (S [i0 4,.ret])],R 15 2 [5] [A 4 (l (f 1 t5))],.ret]⟩:=s_
end
section
open W
def Om:cF Ew []=some ⟨66,[(4,some (some 5))],S [E 4 [al zS5],R0 11 3 [c1 Ci (c1 xP (c0 zT)),J 5 (s 5 (al zS5) (t 13))],S [i0 6,fo 0 14 13 (N (ls v6 v1) (O (ls v6 (w 4)) (ls (mu w2 v6) (n v0)))) [6,0,1] 6 (S [i0 7,i0 8,S [R0 30 4 [ls (mu w2 v6) (n v0)],If 34 [7] (R0 35 5 [A 7 (l (i 1 v0 (mu w2 v6)))])],S [R0 40 5 [ls (ad (mu w2 v6) w1) (n v0)],If 45 [8] (R0 46 6 [A 8 (l (i 1 v0 (ad (mu w2 v6) w1)))])],S [.regd (zq (zv 53 5 5) (zq (zv 54 5 5) (zq (zm 55 7) (zq (zm 56 8) (zA (zo 57 (.call (.func Al) [zt 54,zt 55,zt 56])) [zv 53 5 5] (zA (zo 58 (.call (.func jK) [zt 57])) [zv 53 5 5] (zA (zo 59 (.call (.func mA) [zt 53,zt 58])) [] (zq (zm 52 59) (zq (zo 60 (.ext (zt 52) 0)) (zq (zo 61 (.ext (zt 52) 1)) (zA (zo 9 (.alloc zS5)) [zo 61 (.ext (zt 52) 1),zo 60 (.ext (zt 52) 0),zm 52 59] (zA (⟨none,.st 5 (zt 9) (zt 60),none⟩) [zo 61 (.ext (zt 52) 1)] (zq (zm 10 61) (.done true)) .no) .no)))) (zA (zo 9 (.alloc zS5)) [zv 53 5 5] (zA (zo 59 (.call (.func mA) [zt 53,zt 58])) [] (zq (zm 52 59) (zq (zo 60 (.ext (zt 52) 0)) (zq (zo 61 (.ext (zt 52) 1)) (zA (⟨none,.st 5 (zt 9) (zt 60),none⟩) [zo 61 (.ext (zt 52) 1)] (zq (zm 10 61) (.done true)) .no)))) .no) .no)) (zA (zo 9 (.alloc zS5)) [zv 53 5 5] (zA (zo 58 (.call (.func jK) [zt 57])) [zv 53 5 5] (zA (zo 59 (.call (.func mA) [zt 53,zt 58])) [] (zq (zm 52 59) (zq (zo 60 (.ext (zt 52) 0)) (zq (zo 61 (.ext (zt 52) 1)) (zA (⟨none,.st 5 (zt 9) (zt 60),none⟩) [zo 61 (.ext (zt 52) 1)] (zq (zm 10 61) (.done true)) .no)))) .no) .no) .no)) (zA (zo 9 (.alloc zS5)) [zm 56 8,zm 55 7,zv 54 5 5,zv 53 5 5] (zA (zo 57 (.call (.func Al) [zt 54,zt 55,zt 56])) [zv 53 5 5] (zA (zo 58 (.call (.func jK) [zt 57])) [zv 53 5 5] (zA (zo 59 (.call (.func mA) [zt 53,zt 58])) [] (zq (zm 52 59) (zq (zo 60 (.ext (zt 52) 0)) (zq (zo 61 (.ext (zt 52) 1)) (zA (⟨none,.st 5 (zt 9) (zt 60),none⟩) [zo 61 (.ext (zt 52) 1)] (zq (zm 10 61) (.done true)) .no)))) .no) .no) .no) .no)))))),.kill [7,8,61,60,52,59,58,57,56,55,54,53]],R 62 1 [10] [eq v10 w0],Iz 63 [] (R 64 1 [9] [s 5 t5 (L 5 t9)]) [9]])],R 65 1 [5] [s 5 t4 (L 5 t5)],.ret]⟩:=s_
def Oo:cF xO [(5,some 2,35)]=some ⟨30,[(4,none)],S [R 4 1 [0] [J 2 (b t0),J 4 (M (kc (.const (.pointer none))))],S [R0 7 3 [A 5 (c1 Bi (l (f 0 t2)))],oc 5 2 35],S [R0 10 1 [v5,x (.nilS false 0 (zt 10))],If 11 [2,5,1] (S [E0 [A 4 (kc (.const (.pointer none)))],.ret])],S [i0 6,fo 0 12 3 (ls v6 (n v1)) [2,1,6] 6 (S [D 18 10 [] [ne (c2 uW v5 (L 27 (i 27 (l (f 1 t2)) (l (i 1 v1 v6))))) w0],If 28 [6,2,5,1] (S [E0 [A 4 (kc (.const (.pointer none)))],.ret])])],R 29 1 [5] [A 4 v5],.ret]⟩:=s_
def Lh:cF zQ [(2,none,1),(3,none,1)]=some ⟨17,[(2,none)],S [R 2 1 [0] [J 1 (b t0),M z],S [iz 3,ow 3 1],S [i0 4,fo 0 5 4 (ls v4 (n (l (f 1 t1)))) [4,1] 4 (S [R0 12 4 [A 3 (a 1 8 v3 (ba 1 [z0] v4))],ow 3 1])],S [R 16 1 [3] [A 2 v3],ow 2 1],.ret]⟩:=s_
def Oq:cF Ey []=some ⟨55,[(0,none)],S [R0 0 1 [M F],R0 3 1 [c0 HM,J 1 (s 5 (al zS5) t3)],R0 4 4 [s 5 t1 (c3 rN (L 5 t1) (x (.bld zO [(0,(1,zw 1)),(2,(1,zw 3)),(5,(1,zw 2))])) (ba 1 [z0] w3))],R0 8 4 [s 5 t1 (c3 rN (L 5 t1) (x (.bld zO [(0,(1,zw 2)),(2,(1,zw 3)),(5,(1,zw 1))])) (ba 1 [z0] w3))],D 12 4 [] [A 2 (c2 xO (L 5 t1) (K [zv 12 5 1] (c1 zQ (L 5 t1))))],S [R0 16 7 [v2,O (x (.nilS false 0 (zt 16))) (ne (n (l (f 2 t1))) (w 6))],If 23 [2,1] (S [E0 [A 0 F],.ret])],D 24 31 [2,1] [v2,l (f 2 t1),J 28 (l (f 2 t1)),x (.slc (zt 29) none (some (zw 5)) 3),J 27 (K [zo 30 (.slc (zt 29) none (some (zw 5)) 3),zl 29 28,zf 28 1 2] (c2 pN (t 24) (t 26))),J 31 (A 0 (N (N (c2 CF (t 27) (t 30)) (c3 aAO v2 (L 3 (i 3 (l (f 2 t1)) (w 4))) (L 3 (i 3 (l (f 2 t1)) (w 5))))) (eq (c3 wB v2 (l (f 2 t1)) (L 3 (i 3 (l (f 2 t1)) (w 5)))) (w 15))))],.ret]⟩:=s_
def P3:cF Al []=some ⟨210,[(6,some (some 27))],S [R 3 0 [0] [b t0,J 6 (al zO)],R0 14 2 [A 1 (c2 uV v1 (w 1000000))],R0 16 2 [A 2 (c2 uV v2 (w 1000000))],R0 18 6 [ad w1 (rm v1 (w 5)),c1 HO v2,x (.bld zO [(0,(1,zt 20)),(2,(1,zt 22))]),J 7 (s 27 (al zO) (t 23))],R0 24 3 [A 8 (n (l (f 1 t3)))],S [R0 27 1 [eq v8 w0],If 28 [8,7,2,3] (S [R 29 3 [1] [rm v1 (w 4),s 27 t6 (x (.bld zO [(0,(1,zw 1)),(1,(1,zw 1)),(2,(1,zw 1)),(20,(1,zt 30))]))],.ret])],S [R0 32 1 [ls v8 (w 4)],If 33 [] (R0 34 7 [ad v8 w1,sb w3 (qu (rm v1 (w 5)) (w 4)),s 27 t7 (x (.bld zO [(0,(1,zw 1)),(2,(1,zw 2)),(5,(1,zt 35)),(8,(1,zt 39))]))])],R0 41 6 [A 9 (c3 DO (L 5 t3) (l (f 0 t7)) (qu v1 (w 5)))],S [R0 47 1 [ls v8 (w 4)],If 48 [9] (R0 49 2 [A 9 (c1 AU (L 5 t3))])],R 52 3 [11,56,55,51] [c3 zV (L 5 t3) v9 (w 6),J 51 (v 54),J 55 (e 0 (t 51)),e 1 (t 51),J 10 (al zI),al zO,s 3 (t 10) (t 55),s 27 (t 11) (t 56)],S [R0 57 2 [ea false [.int .i64,.int .i64,.int .u64] (L 3 (t 10)) (x (.bld zI []))],If 59 [] (R0 60 4 [s 3 (t 10) (L 3 (i 3 (l (f 2 t3)) w0))])],R 64 2 [2] [A 12 (qu v2 (w 20))],S [R0 66 1 [l (f 2 t7)],bw 0 (S [R0 69 1 [eq (t 67) w2,J 68 (v 69)],Ie 68 [67,10] (S [R 70 1 [8] [ge v8 (w 4)],Iz 71 [] (S [R0 72 4 [ad (w 4) (rm v12 w3),s 1 (f 5 t7) (t 74)],R 76 5 [12] [ad w1 (rm (qu v12 w3) w3),s 1 (f 8 t7) (t 79)]]) [12]]) [8] (S [R0 82 1 [eq (t 67) w3,J 81 (v 82)],Ie 81 [67,10] (S [R0 83 4 [ad w1 (rm v12 (w 6)),s 1 (f 5 t7) (t 85)],R0 87 2 [eq (rm v12 (w 5)) w1],Iz 89 [] (S [R0 90 1 [s 1 (f 5 t7) w0],R 91 5 [12] [ad w1 (rm (qu v12 (w 5)) w3),s 1 (f 7 t7) (t 94)]]) [12]]) [] (S [R0 97 1 [eq (t 67) (w 5),J 96 (v 97)],Ie 96 [67,10] (S [R0 98 4 [ad w1 (rm v12 w3),s 1 (f 7 t7) (t 100)],R 102 5 [12] [ad w1 (rm (qu v12 w3) w3),s 1 (f 8 t7) (t 105)]]) [] (S [R0 108 1 [eq (t 67) (w 6),J 107 (v 108)],Ie 107 [67,10] (S [D 109 11 [] [L 3 (i 3 (l (f 2 t3)) (rm v12 (mm false (n (l (f 2 t3))) (w 4)))),s 3 (f 10 t7) (t 118)],R0 120 4 [rm (qu v12 (w 4)) w2,s 1 (f 13 t7) (t 122)],R0 124 4 [cw .u8 v12,x (.bsl 1 [.int .u8 0,.int .u8 0,.int .u8 0,.int .u8 0,.int .u8 0,.int .u8 0,.int .u8 0,.int .u8 0,.int .u8 0] [(0,(1,zt 125)),(1,(1,.const (.int .u8 1))),(2,(1,.const (.int .u8 2))),(3,(1,.const (.int .u8 3))),(4,(1,.const (.int .u8 4))),(5,(1,.const (.int .u8 5))),(6,(1,.const (.int .u8 6))),(7,(1,.const (.int .u8 7))),(8,(1,.const (.int .u8 8)))] 9),s 1 (f 14 t7) (t 126)],R0 128 2 [eq (rm v12 w3) w1],Iz 130 [] (R 131 10 [12] [j2 zUU (cw .u64 (rm (qu v12 w3) (w 5))) (cw .u64 (rm (qu v12 (w 15)) (w 5))),s 1 (f 15 t7) (t 139)]) [12]]) [] (S [R0 142 1 [eq (t 67) (w 7),J 141 (v 142)],Ie 141 [67] (S [R 143 2 [10] [L 3 (t 10),s 3 (f 16 t7) (t 143)],R 145 6 [12] [ba 1 [.int .u8 0] (cw .u8 (ad (w 97) (rm v12 w3))),s 1 (f 14 t7) (t 149)]]) [] (S [R0 152 1 [eq (t 67) (w 8),J 151 (v 152)],Ie 151 [67,12] (R 153 2 [10] [L 3 (t 10),s 3 (f 16 t7) (t 153)]) [10] (S [S [R0 156 1 [eq (t 67) (w 9),J 155 (v 156)],C 155 (Z [67] .skip) (Z [155] (S [R0 157 1 [A 155 (eq (t 67) (w 11))],C 155 (Z [67] .skip) (Z [155] (S [R0 158 1 [A 155 (eq (t 67) (w 13))],C 155 (Z [67] .skip) (Z [155] (S [R0 159 1 [A 155 (eq (t 67) (w 12))],C 155 (Z [67] .skip) (Z [155] (R 160 1 [67] [A 155 (eq (t 67) (w 10))]))]))]))]))],Iz 155 [] (S [R0 161 2 [A 13 (l (f 0 t7))],R 163 5 [12] [s 27 t7 (c4 zW (L 5 t3) v9 (L 27 t7) v12)],R 168 3 [13] [ne (l (f 0 t7)) v13],If 171 [9] (R0 172 6 [A 9 (c3 DO (L 5 t3) (l (f 0 t7)) (qu v1 (w 5)))])]) [12]])])])])])])])],S [R0 178 10 [N (ea true [.int .i64,.int .i64,.int .u64] (L 3 (f 16 t7)) (x (.bld zI []))) (o (c2 oK v9 (L 3 (f 16 t7))))],If 188 [9] (R0 189 2 [A 9 (c1 AU (L 5 t3))])],R0 191 4 [c2 xR (L 5 t3) v9,s 1 (f 4 t7) (t 193)],R0 195 6 [c3 F8 (L 5 t3) v9 (l (f 0 t7)),s 1 (f 1 t7) (t 199)],R 201 8 [3,9,1] [ad (c2 DP (L 5 t3) v9) (rm (qu v1 (w 5)) w2),s 1 (f 3 t7) (t 207)],R 209 1 [7] [s 27 t6 (L 27 t7)],.ret]⟩:=s_
def P4:cF HM []=some ⟨25,[(0,some (some 5))],S [E0 [al zS5],R0 3 3 [c1 Ci (c1 xP (c0 zT)),J 1 (s 5 (al zS5) t5)],D 7 4 [12,11,6] [c2 mA (L 5 t1) (K [zv 7 5 1] (c1 jK (q3 zO w1 w1 w1))),J 6 v10,J 11 (e 0 t6),e 1 t6,K [zo 12 (.ext (zt 6) 1)] (s 5 t1 (t 11))],S [E0 [A 2 w2],fo 0 13 1 (ls v2 (w 5)) [2] 2 (R0 17 7 [L 5 t1,v2,s 5 t1 (c3 rN (t 17) (x (.bld zO [(0,(1,zw 1)),(2,(1,zw 2)),(5,(1,zt 18)),(8,(1,zw 3))])) (ba 1 [z0] (sb v2 w2)))])],R 24 1 [1] [s 5 t0 (L 5 t1)],.ret]⟩:=s_
def Li:cF rN [(7,none,3),(1000000,some 7,0)]=some ⟨53,[(6,some (some 5))],S [R 3 0 [0,1] [b t0,b t1,J 6 (al zS5)],S [iz 7,ow 7 3],S [i0 8,fo 0 11 3 (ls v8 (n v2)) [2,8] 8 (S [D 17 11 [] [Ah 7 (a 3 24 v7 (K [zm 17 7] (ba 3 zI (L 3 (i 3 (l (f 2 t3)) (l (i 1 v2 v8)))))))],ow 7 3]),.shut 7],S [R0 28 3 [A 7 (c2 qR (L 5 t3) v7)],ow 7 3],R0 31 4 [c2 xR (L 5 t3) v7,s 1 (f 4 t4) (t 33)],R0 35 6 [c3 F8 (L 5 t3) v7 (l (f 0 t4)),s 1 (f 1 t4) (t 39)],R 41 4 [7] [c2 DP (L 5 t3) v7,s 1 (f 3 t4) (t 43)],S [.regd (zq (zv 46 5 3) (zq (zv 47 27 4) (zA (zo 48 (.call (.func jK) [zt 47])) [zv 46 5 3] (zA (zo 49 (.call (.func mA) [zt 46,zt 48])) [] (zq (zm 45 49) (zq (zo 50 (.ext (zt 45) 0)) (zq (zo 51 (.ext (zt 45) 1)) (zA (zo 9 (.alloc zS5)) [zo 51 (.ext (zt 45) 1),zo 50 (.ext (zt 45) 0),zm 45 49] (zA (⟨none,.st 5 (zt 9) (zt 50),none⟩) [zo 51 (.ext (zt 45) 1)] (zq (zm 10 51) (.done true)) .no) .no)))) (zA (zo 9 (.alloc zS5)) [zv 46 5 3] (zA (zo 49 (.call (.func mA) [zt 46,zt 48])) [] (zq (zm 45 49) (zq (zo 50 (.ext (zt 45) 0)) (zq (zo 51 (.ext (zt 45) 1)) (zA (⟨none,.st 5 (zt 9) (zt 50),none⟩) [zo 51 (.ext (zt 45) 1)] (zq (zm 10 51) (.done true)) .no)))) .no) .no)) (zA (zo 9 (.alloc zS5)) [zv 47 27 4,zv 46 5 3] (zA (zo 48 (.call (.func jK) [zt 47])) [zv 46 5 3] (zA (zo 49 (.call (.func mA) [zt 46,zt 48])) [] (zq (zm 45 49) (zq (zo 50 (.ext (zt 45) 0)) (zq (zo 51 (.ext (zt 45) 1)) (zA (⟨none,.st 5 (zt 9) (zt 50),none⟩) [zo 51 (.ext (zt 45) 1)] (zq (zm 10 51) (.done true)) .no)))) .no) .no) .no)))),.kill [3,4,10,51,50,45,49,48,47,46]],R 52 1 [9] [s 5 t6 (L 5 t9)],.ret]⟩:=s_
def P5:cF HO []=some ⟨8,[(2,none)],S [R0 2 1 [M w0],R 3 5 [0] [l (i 1 (x (.bsl 1 [z0,z0,z0,z0,z0,z0,z0,z0,z0,z0,z0,z0,z0,z0,z0,z0,z0,z0,z0,z0] [(0,(1,zw 6)),(1,(1,zw 4)),(2,(1,zw 3)),(3,(1,zw 2)),(4,(1,zw 5)),(5,(1,zw 7)),(6,(1,zw 8)),(7,(1,zw 3)),(8,(1,zw 6)),(9,(1,zw 9)),(10,(1,zw 11)),(11,(1,zw 11)),(12,(1,zw 13)),(13,(1,zw 12)),(14,(1,zw 10)),(15,(1,zw 4)),(16,(1,zw 3)),(17,(1,zw 2)),(18,(1,zw 6)),(19,(1,zw 13))] 20)) (rm v0 (w 20))),J 2 v7],.ret]⟩:=s_
def P6:cF DO [(67,none,1000)]=some ⟨69,[(6,none)],S [R 6 1 [0] [J 3 (b t0),J 6 (M z)],R0 10 2 [A 7 (c1 AU (L 5 t3))],E0 [A 8 (w (-1))],S [i0 9,fo 0 12 4 (ls v9 (n (l (f 1 t3)))) [9,1] 9 (S [R0 19 7 [eq (l (f 0 (i 27 (l (f 1 t3)) v9))) v1],If 26 [8] (R0 27 1 [A 8 v9])])],S [R0 28 6 [N (eq (rm v2 (w 37)) (w 7)) (gt v8 w0)],If 34 [2,7] (S [D 35 8 [3,8] [A 6 (c2 qR (L 5 t3) (l (f 4 (i 27 (l (f 1 t3)) v8))))],.ret])],S [R0 43 6 [O (gt (rm v2 w3) w0) (ls v8 w0)],Iz 49 [3,8,2] (S [R 50 1 [7] [A 6 v7],.ret]) [7]],D 51 18 [3,8,2] [L 5 t3,L 3 (i 3 (l (f 2 t3)) v8),L 3 (i 3 (l (f 2 t3)) (rm (qu v2 w3) (n (l (f 2 t3))))),A 6 (c2 qR (t 51) (K [zv 51 5 3] (xh (.bsl 3 [z0,z0,zU,z0,z0,zU] [(0,(3,zt 56)),(3,(3,zt 66))] 2))))],.ret]⟩:=s_
def Lj:cF zV []=some ⟨46,[(6,some (some 3)),(7,some (some 27))],S [R 3 0 [0] [b t0,J 6 (al zI),al zO],S [R0 9 4 [sb (n (l (f 1 t3))) w1,J 8 v12],lo 0 (S [S [R0 13 1 [ge v8 w0],Ie 14 [] .skip [3,8,2,1] (ex 0)],bw 1 (S [R0 17 16 [N (eq (l (f 2 (i 27 (l (f 1 t3)) v8))) v2) (c2 oK v1 (L 3 (i 3 (l (f 2 t3)) v8)))],If 33 [1,2] (S [D 34 10 [3,8] [L 3 (i 3 (l (f 2 t3)) v8),L 27 (i 27 (l (f 1 t3)) v8),K [zv 43 27 42,zi 42 40 41 27,zm 41 8,zl 40 39,zf 39 3 1] (s 3 t6 (t 38)),s 27 t7 (t 43)],.ret])]),R0 15 2 [A 8 (sb v8 w1)]])],R0 44 2 [x (.bld zI []),x (.bld zO []),s 3 t6 (t 44),s 27 t7 (t 45)],.ret]⟩:=s_
def Lk:cF zW []=some ⟨126,[(8,some (some 27))],S [R 4 0 [0,2] [b t0,J 6 (b t2),J 8 (al zO)],R 14 3 [1,18,17,13] [c3 zV (L 5 t4) v1 (w 9),J 13 v16,J 17 (e 0 (t 13)),e 1 (t 13),J 9 (al zI),al zO,s 3 t9 (t 17),s 27 (t 10) (t 18)],S [R0 19 7 [N (ne (l (f 2 t6)) (w 9)) (ea false [.int .i64,.int .i64,.int .u64] (L 3 t9) (x (.bld zI [])))],If 26 [] (R0 27 1 [s 1 (f 2 t6) (w 9)])],S [R0 28 2 [eq (l (f 2 t6)) (w 9)],If 30 [9,10,4] (S [S [E0 [A 11 w1],fo 0 31 1 (le v11 (w 4)) [11] 11 (S [R0 35 4 [eq (rm (qu v3 v11) w2) w0],If 39 [] (R0 40 6 [a 1 8 (l (f 19 t6)) (ba 1 [z0] v11),s 1 (f 19 t6) (t 44)])])],S [R0 46 3 [eq (n (l (f 19 t6))) w0],If 49 [] (R0 50 2 [j2 [z0,z0] w1 w2,s 1 (f 19 t6) (t 50)])],R0 52 9 [ad w1 (rm (qu v3 (w 16)) (mm false w2 (n (l (f 19 t6))))),s 1 (f 20 t6) (t 59)],R 61 4 [3] [rm (qu v3 (w 32)) w3,s 1 (f 21 t6) (t 63)],R0 65 1 [s 1 (f 23 t6) (u 5)],R0 66 5 [c1 Ao (n (l (f 19 t6))),s 1 (f 22 t6) (t 69)],R 71 1 [6] [s 27 t8 (L 27 t6)],.ret])],R0 72 2 [L 3 t9,s 3 (f 16 t6) (t 72)],R 74 4 [4] [A 12 (c2 DS (L 5 t4) (l (f 0 t9)))],S [R0 78 2 [eq (l (f 2 t6)) (w 10)],Iz 80 [] (S [R 81 3 [9] [l (f 0 t9),s 1 (f 0 t6) (t 82)],R0 84 5 [c1 Ao (n (l (f 19 (t 10)))),s 1 (f 22 t6) (t 87)]]) [9]],S [R0 89 7 [O (eq (l (f 2 t6)) (w 11)) (eq (l (f 2 t6)) (w 13))],Iz 96 [] (S [D 97 10 [10,3] [l (i 1 (l (f 19 (t 10))) (rm v3 (n (l (f 19 (t 10)))))),s 1 (f 0 t6) (t 105)],R0 107 3 [ad v12 w3,s 1 (f 5 t6) (t 108)]]) [10,3]],S [R0 110 2 [eq (l (f 2 t6)) (w 11)],If 112 [] (R0 113 2 [c1 Ao w1,s 1 (f 22 t6) (t 113)])],S [R0 115 2 [eq (l (f 2 t6)) (w 13)],If 117 [] (R0 118 2 [v12,s 1 (f 6 t6) (t 118)])],S [R0 120 2 [eq (l (f 2 t6)) (w 12)],Iz 122 [] (R 123 2 [12] [v12,s 1 (f 0 t6) (t 123)]) [12]],R 125 1 [6] [s 27 t8 (L 27 t6)],.ret]⟩:=s_
def P7:cF Ao [(2,none,4),(3,none,4)]=some ⟨17,[(2,none)],S [R0 2 1 [M z],S [iz 3,ow 3 4],S [i0 4,fo 0 5 2 (ls v4 v0) [4,0] 4 (S [R0 10 6 [A 3 (a 4 32 v3 (ba 4 zU4 (q4 zU4 (u 1) (u 1) (cw .u64 v4) (u 1))))],ow 3 4])],S [R 16 1 [3] [A 2 v3],ow 2 4],.ret]⟩:=s_
end
def VB(cs:List CardM)(d:Int):Int:=if(gM cs d).2 then(gM cs d).1.Member else 0
def inG(g:GM)(x y:Nat):Bool:=(g.In.getD x []).getD y false
section
variable{G:L_}
def XP(g:GM)(d:Int)(a:g.ok):aA PQ G DS [.ag g.A,iv d] [] λr T=>r=iv (VB g.Cards d)/\T=[]:=by
 apply aC Lg;have e:=Uv (G:=G) g d a;unfold VB;generalize gM g.Cards d=c at *
 obtain⟨c,b⟩:=c;simp only[go_sem];apply aU (aB _) rfl e (by simp only[CardM.A_def];rfl);cases b;simp only[go_sem,CardM.A_def];simp only[go_sem,CardM.A_def]
end
def aLs{p:PGM}{g:GM}(s:Sim p g){x:Id}{j:Nat}(h:p.I.findIdx? (λy=>decide (y=x))=some j)(b:j<g.L.length):(p.nd x).o=g.L.getD j default/\∀k,k<256->qK (p.nd x).W k=inG g j k:=by
 rw[RA h];have c:p.nodes.length=g.L.length:=by rw[<-s.l,aP]
 refine⟨?_,λk a=>s.w j b k a⟩;rw[<-s.l,rH,rH,gE,jN o_];rfl
def aK2{p:PGM}{g:GM}(s:Sim p g)(e:g.L.length<=200){x y:Id}{j k:Nat}(c:p.I.findIdx? (λz=>decide (z=x))=some j)(b:p.I.findIdx? (λz=>decide (z=y))=some k)(f:j<g.L.length)(d:k<g.L.length)(mx:x∈p.I)(a:y∈p.I):oH p x y=inG g k j:=by unfold oH;rw[decide_eq_true mx,decide_eq_true a,show p.at x=j by simp[PGM.at,c],(aLs s b d).2 j o_];rfl
section
variable{G:L_}
def Hj(I:D_)(l:B_):D_:=(l.take 4).map λn=>I.getD (pX n I.length).toNat default
def qI(g:GM)(l:B_):D_:=if l=[]\/g.L=[] then jI g.I else Fd g (Hj g.I l)
end
def aE6(I:D_)(l:B_)(i:Nat)(h:i<l.length)(h4:i<4):Hj I (l.take (i+1))=Hj I (l.take i)++[I.getD (pX l[i] I.length).toNat default]:=by unfold Hj;rw[Mj,Mj,(o_:min 4 (i+1)=i+1),(o_:min 4 i=i),<-aBV h,bZ];rfl
def Ot(I:D_)(l:B_):(Hj I l).length<=4:=by grind[Hj,List.length_map,List.length_take]
def BJ(n:Int)(m:Int)(a:0<m):0<=pX n m/\pX n m<m:=by unfold pX;exact⟨Int.emod_nonneg _ o_,Int.emod_lt_of_pos _ a⟩
section
variable{G:L_}
def aB4 (g:GM) (d:g.ok) (l:B_) (H:l.length<=2^63-1) (v:∀n∈l,mZ n):aA PQ G zR [.ag g.A,rG l] [] λr T=>(r=ids (qI g l)/\T=[]/\(l=[]\/g.L=[]))\/(r=.own 0/\T=[some (.arr 3 ((qI g l).map Id.A))]):=by
 apply aC LJ;have hI:=d.i;by_cases h1:l=[]
 subst h1;simp only[go_sem,gQ,undef];apply cX (JG g d);simp only[go_sem,qI,true_or,true_and];have t:0<l.length:=H3.2 h1;have p:((l.length:Int)==0)=false:=by simpa using h1
 by_cases h2:g.L=[]
 have D:((g.I.length:Int)==0)=true:=by rw[hI,h2];rfl
 have j:((g.L.length:Int)==0)=true:=by rw[h2];rfl
 simp only[go_sem,aP,p,j];apply cX (JG g d);simp only[go_sem,qI,h2,or_true];simp;have w:0<g.L.length:=H3.2 h2;have D:((g.I.length:Int)==0)=false:=u_;have j:((g.L.length:Int)==0)=false:=di;have C:qI g l=Fd g (Hj g.I l):=by grind[qI]
 rw[C];have F:=d.n;simp only[go_sem,aP,p,j];refine jG (λs=>s=⟨0,[(2,.ptr 0 0),(5,.own 1)],[some (.box g.A),some (.arr 3 ((Hj g.I l).map Id.A))]⟩) ?_ ?_;refine aQ (min l.length 4) (λi=>⟨0,[(1,rG l),(2,.ptr 0 0),(5,.own 1),(6,iv i)],[some (.box g.A),some (.arr 3 ((Hj g.I (l.take i)).map Id.A))]⟩) (λ_=>True) ?_ trivial ?_ ?_;rfl;intro i u _;have a:i<l.length:=o_;have f:i<4:=o_;have q:=fQ i o_;have z:(l.map λn=>[iv n])[i]?=some [iv l[i]]:=aO _ l i a;have c:=v l[i] (eQ a);have E:decide ((i:Int)<4)=true:=decide_eq_true o_;have b:=Ot g.I (l.take i);rw[aE6 g.I l i a f];generalize l[i]=x at *
 generalize Hj g.I (l.take i)=O at *
 have K:=BJ x g.I.length o_;have o:(g.I.map Id.A)[(pX x g.I.length).toNat]?=some (g.I.getD (pX x g.I.length).toNat default).A:=u_;have J:(pX x g.I.length).toNat<g.I.length:=o_;have e:((pX x g.I.length).toNat:Int)=pX x g.I.length:=o_;simp only[go_sem,aP,aT a,E,z];apply cX (Dl x g.I.length c.1 c.2 o_ o_);rw[<-e];generalize(pX x g.I.length).toNat=k at *
 obtain⟨y,m⟩:∃y,y=g.I.getD k default:=⟨_,rfl⟩
 rw[<-m]at o;simp only[go_sem,aP,o,bZ,fG,uP,q,(g_:O.length+1<=maxLen),(o_:(O.length+1)*24<=140737488355328)];rw[m];intro _;rcases eD 4 l.length with h4|h4;have h:min l.length 4=4:=o_;have B:Hj g.I (l.take 4)=Hj g.I l:=by grind[Hj]
 rw[h,B];simp only[go_sem,aP,show decide ((4:Int)<(l.length:Int))=true from decide_eq_true o_];have h:min l.length 4=l.length:=o_;rw[h,dE];simp only[go_sem,aP,aS (bP _),undef];rintro s rfl;have b:=Ot g.I l;simp only[go_sem];apply cH (aB _) rfl rfl (XG g (Hj g.I l) d o_);rintro r M ⟨rfl,rfl⟩;refine⟨y_,by simp only[cA,forall_eq,xH];exact MR _,?_⟩;simp only[go_sem];exact .inr trivial
def aE7(g:GM)(c:g.ok)(l:B_)(a:l.length<=2^63-1)(b:∀n∈l,mZ n):aA PQ G zR [.ag g.A,rG l] [] λr T=>r=ids (qI g l)/\T=[]:=by refine(aB4 g c l a b).fin [0] ?_;rintro r d (⟨rfl,rfl,_⟩|⟨rfl,rfl⟩);simp only[go_sem,gQ,List.getElem?_nil];simp only[go_sem,gQ]
end
end Hud
