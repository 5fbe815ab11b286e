import Derived.Test.YthlndebkfkanbaaGreatDoorLib18
set_option linter.all false
namespace Hud
open Go
section
open W
def L5:HFun:=⟨24,[(4,none)],S [R0 4 1 [M z],R0 7 4 [c1 iK v0,c1 iK v1,A 0 t8,A 1 (t 10)],lo 0 (S [S [R0 11 2 [gt (n v1) w0],Ie 13 [] .skip [1] (ex 0)],bw 1 (S [R 15 3 [0,5,19,18,14] [c2 fX v0 v1,J 14 v17,J 18 (e 0 (t 14)),e 1 (t 14),A 5 (t 18),A 6 (t 19)],R 20 2 [6] [v1,v6,A 0 (t 20),A 1 (t 21)]])]),R 22 2 [0] [A 4 (c1 wL v0)],.ret]⟩
def NL:cF xN []=some L5:=by kernel_rfl
def AU:HFun:=⟨87,[(4,none),(5,none)],S [R0 4 2 [M z,M z],R0 10 4 [c1 iK v0,c1 iK v1,A 0 (t 11),A 1 (t 13)],S [R0 14 2 [eq (n v1) w0],If 16 [0,1] (S [S [S [E0 [A 4 z,A 5 z],ow 4 1],ow 5 1],.ret])],S [R0 17 4 [ls (n v0) (n v1)],If 21 [1] (S [S [S [R 22 1 [0] [v0,A 4 z,A 5 (t 22)],ow 4 1],ow 5 1],.ret])],S [R0 23 7 [ad (sb (n v0) (n v1)) w1,A 4 (x (.mks 1 [zU] 8 (zt 28) (zt 28)))],ow 4 1],R0 30 7 [A 6 (c1 rH (l (i 1 v1 (sb (n v1) w1))))],S [R0 37 3 [A 7 (sb (n v4) w1)],lo 0 (S [S [R0 40 1 [ge v7 w0],Ie 41 [] .skip [7,1,6] (ex 0)],bw 1 (S [R0 44 13 [v4,v7,c2 bQ (l (i 1 v0 (sb (ad v7 (n v1)) w1))) v6,s 1 (i 1 (t 44) (t 45)) (t 55)],E 58 [A 57 t1,n (t 57),A 59 w0],ra 2 59 (t 58) 60 [59,57,58] 82 (S [R0 61 3 [v 59,l (i 1 (t 57) (t 59)),A 8 (t 61),A 9 (t 63)],D 64 18 [8,9] [v0,ad v7 v8,l (i 1 v0 (ad v7 v8)),K [zl 73 72,zi 72 68 71 1,zo 71 (.bin .add (zt 69) (zt 70)),zm 70 8,zm 69 7,zm 68 0,zo 67 (.bin .add (zt 65) (zt 66)),zm 66 8,zm 65 7,zm 64 0] (c2 bQ (l (i 1 v4 v7)) v9),K [zo 67 (.bin .add (zt 65) (zt 66)),zm 66 8,zm 65 7,zm 64 0] (c2 oH (t 73) (t 79)),s 1 (i 1 (t 64) (t 67)) (t 80)]])]),R0 42 2 [A 7 (sb v7 w1)]])],S [S [R 83 4 [0] [c1 kV v4,c1 kV v0,A 4 (t 84),A 5 (t 86)],ow 4 1],ow 5 1],.ret]⟩
def BK:cF fX [(4,none,1),(5,none,1)]=some AU:=by kernel_rfl
def Dl:HFun:=⟨6,[(2,none)],S [R0 2 1 [M z],R 3 3 [0] [c1 kV (c2 dD v0 (kc (.func qE))),J 2 v5],.ret]⟩
def Dm:cF iK []=some Dl:=by kernel_rfl
def G2:HFun:=⟨17,[(2,none)],S [R0 2 1 [M z],S [R0 4 2 [eq (n v0) w0],If 6 [0] (S [S [iz 2,ow 2 1],.ret])],R0 7 7 [c1 rH (l (i 1 v0 (sb (n v0) w1))),J 3 (s 1 (al [zU]) (t 13))],S [R 14 3 [0,3] [A 2 (c2 dD v0 (x (.clo xP [zt 3])))],ow 2 1],.ret]⟩
def JT:cF wL [(2,none,1)]=some G2:=by kernel_rfl
def Dn:HFun:=⟨21,[(2,none)],S [R0 2 1 [M z],lo 0 (S [S [R0 3 11 [N (gt (n v0) w0) (eq (l (i 1 v0 (sb (n v0) w1))) (u 0))],Ie 14 [] .skip [] (ex 0)],bw 1 (R0 15 5 [v0,sb (n v0) w1,A 0 (x (.slc (zt 15) none (some (zt 18)) 1))])]),S [R 20 1 [0] [A 2 v0],ow 2 1],.ret]⟩
def Do:cF kV [(2,none,1)]=some Dn:=by kernel_rfl
def kQ:HFun:=⟨27,[(4,none)],S [R0 4 1 [M z],R0 8 3 [n v0,A 5 (x (.mks 1 [zU] 8 (zt 9) (zt 9)))],S [R 12 0 [0] [A 11 t0,n (t 11),A 13 w0],ra 0 13 (t 12) 14 [13,11,12,1] 25 (S [R0 15 3 [v13,l (i 1 (t 11) (t 13)),A 6 (t 15),A 7 (t 17)],R 18 7 [6,7] [v5,v6,d2 v1 v6 v7,s 1 (i 1 (t 18) (t 19)) (t 23)]])],S [R 26 1 [5] [A 4 v5],ow 4 1],.ret]⟩
def nC:cF dD [(4,none,1)]=some kQ:=by kernel_rfl
def AW:HFun:=⟨7,[(4,none)],Z [0] (S [R0 4 1 [M (u 0)],R 5 2 [1] [c1 cK v1,J 4 v6],.ret])⟩
def BL:cF qE []=some AW:=by kernel_rfl
def Dp:HFun:=⟨9,[(5,none)],Z [0] (S [R0 5 1 [M (u 0)],R 6 3 [1,2] [c2 bQ v1 (l t2),J 5 v8],.ret])⟩
def G3:cF xP []=some Dp:=by kernel_rfl
def L6:HFun:=⟨16,[(4,none)],S [R 4 1 [1] [J 3 (b t1),M z],S [R0 5 4 [ls (n v0) (n (l t3))],If 9 [] (R0 10 2 [l t3,v0,A 0 (t 10),s 1 t3 (t 11)])],R 12 4 [0,3] [A 4 (c1 kV (c2 dD v0 (x (.clo Bl [zt 3]))))],.ret]⟩
def NM:cF Bj []=some L6:=by kernel_rfl
def JU:cF sQ [(6,none,1),(7,none,0)]=some ⟨33,[(6,none)],S [R0 6 1 [M z],S [R0 8 1 [ba 1 [zU] (u 1),J 7 v8],.shut 7],lo 0 (S [S [R0 9 1 [gt v1 (u 0)],Ie 10 [] .skip [1,0,2] (ex 0)],bw 1 (S [S [R0 13 2 [eq (B .and v1 (u 1)) (u 1)],If 15 [] (S [R 17 5 [23,22,16] [c2 fX (c2 tU v7 v0) v2,J 16 v21,J 22 (e 0 (t 16)),A 7 (e 1 (t 16))],.shut 7])],R 25 5 [31,30,24] [c2 fX (c2 tU v0 v0) v2,J 24 v29,J 30 (e 0 (t 24)),A 0 (e 1 (t 24))]]),R0 11 2 [A 1 (B .shr v1 (u 1))]]),S [R 32 1 [7] [A 6 v7],ow 6 1],.ret]⟩:=by kernel_rfl
def Dq:HFun:=⟨61,[],S [S [R0 10 1 [n v0],bw 0 (S [S [R0 13 1 [eq (t 11) w0,J 12 v13],C 12 .skip (Z [12] (R0 14 1 [A 12 (eq (t 11) w1)]))],Ie 12 [11,1,3,2,0] .ret [] (S [R 16 1 [11] [eq (t 11) w2,J 15 v16],Iz 15 [1,3] (S [D 17 7 [2,0] [l t2,K [zl 17 2] (c1 uU (l (i 1 v0 w0))),s 1 t2 (a 1 8 (t 17) (K [zl 17 2] (ba 1 [zU] (t 21))))],.ret]) [2]])])],R 24 1 [1] [A 6 v1],lo 1 (S [bw 2 (S [R0 27 8 [A 7 (c2 xN v0 (c2 Bj (c3 sQ (j2 zUU v6 (u 1)) (u 1152921504606846975) v0) (ba 1 [zU] (u 2305843009213693950))))],R0 35 9 [N (gt (n v7) w1) (ls (n v7) (n v0))],Iz 44 [] (S [R 46 3 [0,9,50,49,45] [c2 fX v0 v7,J 45 (v 48),J 49 (e 0 (t 45)),e 1 (t 45),A 8 (t 49),A 9 (t 50)],R 51 5 [7] [d2 (l t3) v7 (ad v6 (u 1))],R 56 5 [3,8,6] [d2 (l t3) v8 (ad v6 (u 1))],.ret]) [7]]),R0 25 2 [A 6 (ad v6 (u 1))]])]⟩
def G4:cF xQ []=some Dq:=by kernel_rfl
def G5:HFun:=⟨18,[(5,none)],S [R0 5 1 [M (u 0)],S [R0 6 3 [ls v0 (n (l t2))],Iz 9 [] (S [R 10 6 [1,2,0] [A 5 (c2 mI v1 (l (i 1 (l t2) v0)))],.ret]) [2,0]],R 16 2 [1] [A 5 (c1 cK v1)],.ret]⟩
def JV:cF Bl []=some G5:=by kernel_rfl
def Fy:HFun:=⟨62,[(4,none)],S [R0 4 1 [M z],R0 10 4 [c1 iK v0,c1 iK v1,A 0 (t 11),A 1 (t 13)],S [R0 14 7 [O (eq (n v0) w0) (eq (n v1) w0)],If 21 [0,1] (S [S [iz 4,ow 4 1],.ret])],R0 22 7 [sb (ad (n v0) (n v1)) w1,A 5 (x (.mks 1 [zU] 8 (zt 27) (zt 27)))],S [R 30 0 [0] [A 29 t0,n (t 29),A 31 w0],ra 0 31 (t 30) 32 [31,29,30,1] 59 (S [R0 33 3 [v31,l (i 1 (t 29) (t 31)),A 6 (t 33),A 7 (t 35)],E 37 [A 36 t1,n (t 36),A 38 w0],ra 2 38 (t 37) 39 [38,36,37,7,6] 58 (S [R0 40 3 [v38,l (i 1 (t 36) (t 38)),A 8 (t 40),A 9 (t 42)],D 43 15 [8,9] [v5,ad v6 v8,l (i 1 v5 (ad v6 v8)),K [zl 52 51,zi 51 47 50 1,zo 50 (.bin .add (zt 48) (zt 49)),zm 49 8,zm 48 6,zm 47 5,zo 46 (.bin .add (zt 44) (zt 45)),zm 45 8,zm 44 6,zm 43 5] (c2 bQ v7 v9),K [zo 46 (.bin .add (zt 44) (zt 45)),zm 45 8,zm 44 6,zm 43 5] (c2 mI (t 52) (t 55)),s 1 (i 1 (t 43) (t 46)) (t 56)]])])],S [R 60 2 [5] [A 4 (c1 kV v5)],ow 4 1],.ret]⟩
def FH:cF tU [(4,none,1)]=some Fy:=by kernel_rfl
end
section
abbrev fl (l:List Fq):List (List AV):=l.map λc=>[.v (fu c)]
def zV (F:Nat→Fq→Fq) (l:List Fq) (i:Nat):List Fq:=l.mapIdx λj x=>if j<i then F j x else 0
def aCw (F:Nat→Fq→Fq) (l:List Fq):zV F l 0=List.replicate l.length 0:=by
 apply BV λj=>?_;simp only [zV,Yo,Ye];by_cases h:j<l.length
 ·rw [if_pos h,fV h];rfl
 ·rw [if_neg h,gV (by omega)];rfl
def aCx (F:Nat→Fq→Fq) (l:List Fq):zV F l l.length=l.mapIdx F:=by
 apply BV λj=>?_;simp only [zV,Yo];by_cases h:j<l.length
 ·rw [fV h];simp [h]
 ·rw [gV (by omega)];rfl
def Xq (F:Nat→Fq→Fq) (l:List Fq) (i:Nat):(zV F l i).length=l.length:=by simp [zV]
def Xr (F:Nat→Fq→Fq) (l:List Fq) (i:Nat) (h:i<l.length):(fl (zV F l i))[i]?=some [.v (fu 0)]:=by
 simp [fl,zV,h]
def Xs (F:Nat→Fq→Fq) (l:List Fq) (i:Nat) (h:i<l.length):(fl (zV F l i)).set i [.v (fu (F i l[i]))]=fl (zV F l (i+1)):=by
 have:(zV F l i).set i (F i l[i])=zV F l (i+1):=by
  apply BV λj=>?_;rw [Ec];simp only [zV,Yo,List.length_mapIdx];by_cases e:i=j
  ·subst e;simp [h]
  ·rw [if_neg e];by_cases h2:j<i
   ·simp [h2,Nat.lt_succ_of_lt h2]
   ·have:¬j<i+1:=by omega
    simp [h2,this]
 rw [←this];simp only [fl,GI]
def aGz {c:Fq} (h:(((c.val:Nat):Int)==0)=true):c=0:=Fin.ext (by simp at h;simp [h])
def aGA {c:Fq} (h:(((c.val:Nat):Int)==0)=false):c≠0:=λe=>by subst e;simp at h
def IC (l:List Fq) (i:Nat) (h:i<l.length):(fl l)[i]?=some [.v (fu l[i])]:=by simp [fl,h]
def L7 (l:List Fq) (i:Nat) (c:Fq):(fl l).set i [.v (fu c)]=fl (l.set i c):=by simp only [fl,GI]
def Pj (n:Nat):List.replicate n [AV.v (.int .u64 0)]=fl (List.replicate n 0):=by simp only [fl,U7];rfl
section
variable {G:Nat→Option (List AV)}
def aCy (f:FuncId) (F:Nat→Fq→Fq) (l:List Fq) (hl:l.length≤1000000000) (hf:∀ i x,i<l.length→aC PQ G f [.v (.int .i64 ((i:Nat):Int)),.v (fu x)] [] λr T'=>r=.v (fu (F i x))∧T'=[]) :
  aC PQ G dD [.ls 1 (fl l),.cl f []] [] λr T'=>r=.own 0∧T'=[some (.arr 1 (fl (l.mapIdx F)))]:=by
 refine aF nC (by decide) ?_;unfold kQ;simp only [go_sem,aL,Pj,IZ,show (l.length:Int)*8≤140737488355328 by omega,show (l.length:Int)≤(maxLen:Int) by unfold maxLen;omega];refine aO l.length (λi=>⟨0,[(1,.cl f []),(5,.own 0),(11,.ls 1 (fl l)),(12,.v (.int .i64 l.length)),(13,.v (.int .i64 i))],[some (.arr 1 (fl (zV F l i)))]⟩) (λ_=>True) ?_ trivial ?_ ?_
 ·simp only [go_sem,aCw]
 ·intro i hi _;have g1:=IC l i hi;have g2:=Xr F l i hi;have g3:=Xs F l i hi;simp only [go_sem,aL,aT hi,g1];refine aB (aA _) rfl (hf i l[i] hi) rfl ?_;simp only [go_sem,aL,Xq,hi,g2,g3,aG (show i<9223372036854775807 by omega)]
 ·intro _;simp only [go_sem,aL,aX (cZ _),aCx]
def BM (n N:Nat):AV:=if n=N then .own 0 else .vw 0 1 0 n
def Pk (l:List Fq) (n:Nat) (hn:n≤l.length) (hl:l.length≤1000000000) :
  aC PQ G kV [BM n l.length] [some (.arr 1 (fl l))] λr T'=>r=BM (aN (l.take n)).length l.length∧T'=[some (.arr 1 (fl l))]:=by
 refine aF Do (by decide) ?_;unfold Dn;simp only [go_sem];refine bU (λm s=>m≤n∧aN (l.take m)=aN (l.take n)∧s=⟨1,[(0,BM m l.length)],[some (.arr 1 (fl l))]⟩) n ⟨fW _,rfl,by simp only [BM];split<;>simp only [go_sem]⟩ ?_;rintro m s ⟨hm,ht,rfl⟩
 cases m with
 | zero =>
  have e:aN (l.take n)=[]:=by rw [←ht];rfl
  simp only [BM];split
  ·rename_i h0;simp only [go_sem,aL,←h0,e];simp [BM]
  ·simp only [go_sem,aL,e];simp [BM, *]
 | succ m =>
  have hm':m<l.length:=by omega
  have g1:=IC l m hm';have ht2:aN (l.take (m+1))=if l[m]=0 then aN (l.take m) else l.take (m+1):=by
   rw [oT hm',uF]
  have hw:=Aw (show m<9223372036854775807 by omega);have hmn:m≠l.length:=by omega
  simp only [BM];split
  ·rename_i h0;simp only [go_sem,aL,←h0,hw,g1,Nat.lt_add_one];refine aM (λh=>?_) (λh=>?_)
   ·have h0':=aGz h;rw [if_pos h0'] at ht2;simp only [go_sem,aL,←h0,hw,xC,E4,Y5];refine ⟨m,by omega,by omega,by rw [←ht2,ht],?_⟩;simp only [BM,if_neg hmn,if_neg (show m≠m+1 by omega)]
   ·have h0':=aGA h;rw [if_neg h0'] at ht2;have e:(aN (l.take n)).length=m+1:=by rw [←ht,ht2,hZ];omega
    simp only [go_sem,BM,e,h0]
  ·rename_i h0;simp only [go_sem,aL,hw,g1,Nat.lt_add_one];refine aM (λh=>?_) (λh=>?_)
   ·have h0':=aGz h;rw [if_pos h0'] at ht2;simp only [go_sem,aL,hw,xC,E4,Y5];refine ⟨m,by omega,by omega,by rw [←ht2,ht],?_⟩;simp only [BM,if_neg hmn,if_neg (show m≠m+1 by omega)]
   ·have h0':=aGA h;rw [if_neg h0'] at ht2;have e:(aN (l.take n)).length=m+1:=by rw [←ht,ht2,hZ];omega
    simp only [go_sem,BM,e,h0]
def Pm (l:List Fq) (hl:l.length≤1000000000) :
  aC PQ G kV [.own 0] [some (.arr 1 (fl l))] λr T'=>r=BM (aN l).length l.length∧T'=[some (.arr 1 (fl l))]:=by
 have:=Pk (G:=G) l l.length (fW _) hl;rwa [BM,if_pos rfl,kH] at this
def aAd (i:Nat) (x:Fq):aC PQ G qE [.v (.int .i64 ((i:Nat):Int)),.v (fu x)] [] λr T'=>r=.v (fu x)∧T'=[]:=by
 refine aF BL (by decide) ?_;unfold AW;simp only [go_sem];refine aB (aA _) rfl (V5 x) rfl ?_;simp only [go_sem]
def Xt (l:List Fq):l.mapIdx (λ_ x=>x)=l:=by
 apply BV λj=>?_;simp
def J1 (l:List Fq):(fl l).take (aN l).length=fl (aN l):=by
 obtain ⟨k,hk⟩:=sW l;have:fl l=fl (aN l)++fl (List.replicate k 0):=by rw [←gQ,←hk]
 rw [this,Ey (by simp)]
def aAe (l:List Fq) (hl:l.length≤1000000000) :
  aC PQ G iK [.ls 1 (fl l)] [] λr T'=>r=BM (aN l).length l.length∧T'=[some (.arr 1 (fl l))]:=by
 refine aF Dm (by decide) ?_;unfold Dl;simp only [go_sem];refine aS (aA _) rfl (aCy qE (λ_ x=>x) l hl λi x _=>aAd i x) ?_;simp only [go_sem,Xt];refine aI [0] (aA _) (by decide) (by simp) rfl rfl (Pm l hl) ?_;rintro r T' ⟨rfl,rfl⟩;simp only [go_sem,BM];split<;>simp only [go_sem]
def aCz {f:FuncId} {args:List AV} {l:List Fq} (hc:aC PQ G f args [] λr T'=>r=BM (aN l).length l.length∧T'=[some (.arr 1 (fl l))]):aC PQ G f args [] λr T'=>r=.ls 1 (fl (aN l))∧T'=[]:=by
 refine hc.fin [0] ?_;rintro r T' ⟨rfl,rfl⟩;have h1:=J1 l;have h2:=gP l;simp only [BM];split
 ·rename_i h;rw [h,pY (by simp)] at h1;simp only [go_sem,h1]
 ·simp only [go_sem,rW,aL,h2,h1]
def J2 (l:List Fq) (hl:l.length≤1000000000):aC PQ G iK [.ls 1 (fl l)] [] λr T'=>r=.ls 1 (fl (aN l))∧T'=[]:=aCz (aAe l hl)
end
end
section
def uN:List Nat→Nat
 | []=>0
 | x::r=>x+256*uN r
def uG:Nat→List Nat→List Nat
 | 0,_=>[]
 | _+1,[]=>[]
 | n+1,x::b=>uN ((x::b).take 7)::uG n ((x::b).drop 7)
def dR (b:List Nat):List Nat:=uG b.length b
def L8:∀ {b:List Nat},wC b→uN b<256^b.length
 | [],_=>by simp [uN]
 | x::r,h=>by
  have h1:=L8 (b:=r) λy hy=>h y (FL _ hy);have h2:=h x FO;simp only [uN,kS,Cj];omega
def OE {b:List Nat} (h:wC b) (hl:b.length≤7):uN b<72057594037927936 :=
 CU (L8 h) (nX (Ms (by decide) hl) (by decide))
def Is:∀ (n m:Nat) (b:List Nat),b.length≤n→b.length≤m→uG n b=uG m b
 | 0,m,b,h,_=>by
  have:b=[]:=CR (by omega);subst this;cases m<;>rfl
 | n+1,m,[],_,_=>by cases m<;>rfl
 | n+1,0,x::b,_,h=>by simp at h
 | n+1,m+1,x::b,h1,h2=>by
  simp only [uG];rw [Is n m ((x::b).drop 7) (by simp at h1 ⊢;omega) (by simp at h2 ⊢;omega)]
def UB:dR []=[]:=rfl
def Dr {b:List Nat} (h:b≠[]):dR b=uN (b.take 7)::dR (b.drop 7):=by
 cases b with
 | nil=>exact absurd rfl h
 | cons x b =>
  unfold dR;simp only [kS,uG];rw [Is _ ((x::b).drop 7).length _ (by simp) (fW _)]
def UC {b:List Nat} (h:b≠[]) (hl:b.length≤7):dR b=[uN b]:=by
 rw [Dr h,pY hl,Og hl,UB]
def Fz (b:List Nat):(dR b).length≤b.length:=by
 have:∀ (n:Nat) (b:List Nat),(uG n b).length≤n:=by
  intro n
  induction n with
  | zero=>intro b;simp [uG]
  | succ n ih=>intro b;cases b<;>simp [uG,ih]
 exact this _ _
def ID {b:List Nat} (h:wC b):∀ w∈dR b,w<72057594037927936:=by
 have:∀ (n:Nat) (b:List Nat),wC b→∀ w∈uG n b,w<72057594037927936:=by
  intro n
  induction n with
  | zero=>intro b _ w hw;simp [uG] at hw
  | succ n ih =>
   intro b hb w hw
   cases b with
   | nil=>simp [uG] at hw
   | cons x b =>
    simp only [uG,gK] at hw;rcases hw with rfl | hw
    ·exact OE (sC hb 7) (by rw [hZ];omega)
    ·exact ih _ (Gm hb 7) w hw
 exact this _ _ h
def aAf {c:List Nat} {j:Nat} (h:j<c.length):uN (c.drop j)=c[j]+256*uN (c.drop (j+1)):=by
 rw [QZ h];rfl
def BN {w:Nat} (h:w<PP):(Value.int .u64 ((w:Nat):Int))=fu (Fin.ofNat PP w):=by rw [fu,OD w h]
section
variable {G:Nat→Option (List AV)}
set_option maxHeartbeats 4000000
def R3 (b:List Nat) (hb:wC b) (hl:b.length≤100000000):aC PQ G yZ [.ls 1 (bl b)] [] λr T'=>r=.own 0∧T'=[some (.arr 1 (ul (dR b)))]:=by
 refine aF Lt (by decide) ?_;simp only [go_sem,aL];refine bU (λn s=>∃ (i:Nat) (A:List Nat),n=b.length+7-i∧i≤b.length+6∧A.length≤i∧A++dR (b.drop i)=dR b∧s=⟨0,[(0,.ls 1 (bl b)),(3,.own 0),(4,.v (.int .i64 (i:Int)))],[some (.arr 1 (ul A))]⟩) (b.length+7) ⟨0,[],by omega,by omega,fW _,by simp,?_⟩ ?_
 ·simp only [go_sem]
 rintro n s ⟨i,A,rfl,hi,hA,hw,rfl⟩;by_cases hlt:i<b.length
 ·obtain ⟨e,he1,he2,he3,he4⟩:∃ e:Nat,i<e∧e≤b.length∧e≤i+7∧e=min b.length (i+7):=⟨min b.length (i+7),by omega,by omega,by omega,rfl⟩
  have w1:IntKind.i64.wrap ((i:Int)+7)=((i+7:Nat):Int):=by rw [aJ (by omega) (by omega)];omega
  have w2:(if ((i+7:Nat):Int)<(b.length:Int) then ((i+7:Nat):Int) else (b.length:Int))=(e:Int):=by split<;>omega
  have w3:IntKind.i64.wrap ((e:Int)-1)=(e:Int)-1:=aJ (by omega) (by omega);have hc:((b.drop i).take (e-i)).length=e-i:=by simp;omega
  have okc:wC ((b.drop i).take (e-i)):=sC (Gm hb i) _;have hcw:uN ((b.drop i).take 7)=uN ((b.drop i).take (e-i)):=by
   rcases bY (i+7) b.length with h | h
   ·rw [show e-i=7 by omega]
   ·rw [pY (by simp;omega),pY (by simp;omega)]
  have hget:∀ j (h:j<((b.drop i).take (e-i)).length),(bl b)[i+j]?=some [.v (.int .u8 ((((b.drop i).take (e-i))[j]:Nat):Int))]:=λj h=>by
   have h1:i+j<b.length:=by omega
   rw [aP U8 b (i+j) h1];simp
  generalize (b.drop i).take (e-i)=c at hc okc hcw hget;have hstep:=Dr (b:=b.drop i) (λh=>by have:=congrArg List.length h;simp at this;omega);rw [hcw,GF] at hstep;rw [hstep] at hw;simp only [go_sem,aL,aT hlt,w1,w2,w3];refine eF (λs=>s=⟨0,[(0,.ls 1 (bl b)),(3,.own 0),(4,.v (.int .i64 (i:Int))),(5,.v (.int .u64 ((uN c:Nat):Int)))],[some (.arr 1 (ul A))]⟩) ?_ ?_
  ·refine bU (λn s=>∃ j:Nat,n=j∧j≤e-i∧s=⟨0,[(0,.ls 1 (bl b)),(3,.own 0),(4,.v (.int .i64 (i:Int))),(5,.v (.int .u64 ((uN (c.drop j):Nat):Int))),(6,.v (.int .i64 (((i+j:Nat):Int)-1)))],[some (.arr 1 (ul A))]⟩) (e-i) ⟨e-i,rfl,fW _,?_⟩ ?_
   ·have h0:uN (c.drop (e-i))=0:=by rw [Og (by omega)];rfl
    simp only [go_sem,h0,show i+(e-i)=e by omega]
   rintro n s ⟨j,rfl,hj,rfl⟩
   cases n with
   | zero =>
    have hg:decide ((i:Int)≤(i:Int)-1)=false:=decide_eq_false (by omega);simp only [go_sem,ge_iff_le,hg]
   | succ j =>
    have hjc:j<c.length:=by omega
    have e1:((i+(j+1):Nat):Int)-1=((i+j:Nat):Int):=by omega
    have hg:decide ((i:Int)≤((i+j:Nat):Int))=true:=decide_eq_true (by omega);have hW:=L8 (Gm okc (j+1));have hW2:uN (c.drop (j+1))<281474976710656:=CU hW (nX (Ms (by decide) (show (c.drop (j+1)).length≤6 by simp;omega)) (by decide));have hx:=okc c[j] (jY hjc);have hd:=aAf hjc;have g0:=hget j hjc;have e2:IntKind.i64.wrap (((i+j:Nat):Int)-1)=((i+j:Nat):Int)-1:=aJ (by omega) (by omega);generalize c[j]=x at hx hd g0;generalize uN (c.drop (j+1))=W at hW2 hd;have m1:aZ .mul (.int .u64 (W:Int)) (.int .u64 256)=some (.int .u64 ((W*256:Nat):Int)):=jV W 256 (by omega);have a1:aZ .add (.int .u64 ((W*256:Nat):Int)) (.int .u64 (x:Int))=some (.int .u64 ((W*256+x:Nat):Int)):=cW _ _ (by omega);have v1:IntKind.u64.wrap (x:Int)=(x:Int):=bG x (by omega);have hd2:W*256+x=uN (c.drop j):=by omega
    simp only [e1];simp only [go_sem,ge_iff_le,hg,g0,v1,↓m1,↓a1,e2];exact ⟨j,by omega,j,rfl,by omega,by rw [hd2]⟩
  rintro s rfl;have b1:(A.length+1)*8≤140737488355328:=by omega
  have b2:A.length+1≤maxLen:=by unfold maxLen;omega
  simp only [go_sem,aL,b1,b2,w1];exact ⟨b.length+7-(i+7),by omega,i+7,A++[uN c],by omega,by omega,by simp;omega,by rw [eE];exact hw,by simp only [ul,gQ,cN,eQ]⟩
 ·simp only [go_sem,aL,aX hlt];have:dR (b.drop i)=[]:=by rw [Og (by omega)];rfl
  rw [this,kT] at hw;rw [hw]
def EO (w:Fq):∀ (l:List Fq) (s:Fq) (k:Nat),BJ s k (l++[w])=rT (BJ s k l) w (k+l.length+1)
 | [],s,k=>rfl
 | x::l,s,k=>by
  rw [Ag,BJ,BJ,EO w l];congr 1;simp;omega
def R4 (lab ns:List Nat):List Fq:=(dR lab++ns.length::ns++[0]).map (Fin.ofNat PP)
def Ds (lab ns:List Nat):Fq:=BJ (Fin.ofNat PP lab.length) 0 (R4 lab ns)
def aAg {l:List Nat} (h:∀ w∈l,w<PP):ul l=fl (l.map (Fin.ofNat PP)):=by
 simp only [ul,fl,Ee];refine Mt λw hw=>?_;simp only [Function.comp,BN (h w hw)]
def aAh (S:ByteArray) (lab ns:List Nat) (hS:jH S=bl lab) (hs:S.size=lab.length) (hb:wC lab) (hl:lab.length≤1000) (hn:∀ n∈ns,n<18446744073709551616) (hnl:ns.length≤10000000):aC PQ G C5 [.v (.string S),.ls 1 (ul ns)] [] λr T'=>r=.v (fu (Ds lab ns))∧T'=[]:=by
 refine aF Rg (by decide) ?_;have hw:=ID hb;have hwl:=Fz lab;have hm:lab.length≤maxLen:=by unfold maxLen;omega
 have z1:IntKind.u64.wrap (ns.length:Int)=(ns.length:Int):=bG _ (by omega);have z2:IntKind.u64.wrap (lab.length:Int)=(lab.length:Int):=bG _ (by omega);simp only [go_sem,hS,hs,hm];refine aS (aA _) rfl (R3 lab hb (by omega)) ?_;have b1:((dR lab).length+1)*8≤140737488355328:=by omega
 have b2:(dR lab).length+1≤maxLen:=by unfold maxLen;omega
 simp only [go_sem,aL,b1,b2,z1];have e1:ul (dR lab)++[[AV.v (.int .u64 (ns.length:Int))]]=fl ((dR lab++[ns.length]).map (Fin.ofNat PP)):=by
  rw [←aAg (l:=dR lab++[ns.length])]
  ·simp only [ul,gQ,cN,eQ]
  ·intro w h;rcases eO.1 h with h | h
   ·exact IX (hw w h) (by decide)
   ·rw [gZ.1 h];show _<2305843009213693951;omega
 rw [e1];have hW:((dR lab++[ns.length]).map (Fin.ofNat PP):List Fq).length≤1001:=by simp;omega
 have hfin:R4 lab ns=(dR lab++[ns.length]).map (Fin.ofNat PP)++(ns.map (Fin.ofNat PP)++[0]):=by
  unfold R4;simp
 unfold Ds;rw [hfin];generalize (dR lab++[ns.length]).map (Fin.ofNat PP)=W at hW;refine aO ns.length (λi=>⟨0,[(0,.v (.string S)),(1,.ls 1 (ul ns)),(5,.own 0),(6,.v (.int .i64 (i:Int)))],[some (.arr 1 (fl (W++(ns.take i).map (Fin.ofNat PP))))]⟩) (λ_=>True) ?_ trivial ?_ ?_
 ·simp only [go_sem]
 ·intro i hi _;have g0:(ul ns)[i]?=some [.v (.int .u64 ((ns[i]:Nat):Int))]:=by rw [aP _ ns i hi]
  have wn:(Value.int .u64 ((ns[i]%2305843009213693951:Nat):Int))=fu (Fin.ofNat PP ns[i]):=rfl;have b1:(W.length+min i ns.length+1)*8≤140737488355328:=by omega
  have b2:W.length+min i ns.length+1≤maxLen:=by unfold maxLen;omega
  have hs:fl (W++(ns.take i).map (Fin.ofNat PP))++[[.v (fu (Fin.ofNat PP ns[i]))]]=fl (W++(ns.take (i+1)).map (Fin.ofNat PP)):=by
   rw [oT hi];simp only [fl,gQ,cN,eQ,eE]
  have hlen:(fl (W++(ns.take i).map (Fin.ofNat PP))).length=W.length+min i ns.length:=by simp [fl]
  generalize fl (W++(ns.take i).map (Fin.ofNat PP))=X at hs hlen;simp only [go_sem,aL,aT hi,g0,↓EN,wn,hlen,b1,b2,aG (show i<9223372036854775807 by omega),hs]
 ·intro _;rw [kH];have b1:(W.length+ns.length+1)*8≤140737488355328:=by omega
  have b2:W.length+ns.length+1≤maxLen:=by unfold maxLen;omega
  have hs2:fl (W++ns.map (Fin.ofNat PP))++[[.v (.int .u64 0)]]=fl (W++(ns.map (Fin.ofNat PP)++[0])):=by
   rw [←eE];simp only [fl,gQ];rfl
  have hlen:(fl (W++ns.map (Fin.ofNat PP))).length=W.length+ns.length:=by simp [fl]
  have hL:(W++(ns.map (Fin.ofNat PP)++[0])).length=W.length+ns.length+1:=by simp;omega
  generalize W++(ns.map (Fin.ofNat PP)++[0])=L at hs2 hL;generalize fl (W++ns.map (Fin.ofNat PP))=X at hs2 hlen;have s0:(Value.int .u64 ((lab.length:Nat):Int))=fu (Fin.ofNat PP lab.length):=BN (by show _<2305843009213693951;omega);simp only [go_sem,aL,aX (cZ _),hlen,b1,b2,hs2,hs,z2,s0];refine aO L.length (λi=>⟨0,[(5,.own 0),(7,.v (fu (BJ (Fin.ofNat PP lab.length) 0 (L.take i)))),(8,.v (.int .i64 (i:Int)))],[some (.arr 1 (fl L))]⟩) (λ_=>True) ?_ trivial ?_ ?_
  ·simp only [go_sem];rfl
  ·intro i hi _;have key:rT (BJ (Fin.ofNat PP lab.length) 0 (L.take i)) L[i] (i+1)=BJ (Fin.ofNat PP lab.length) 0 (L.take (i+1)):=by
    rw [oT hi,EO];congr 1;simp;omega
   unfold rT at key;have hg:=IC L i hi;have ww:=aG (show i<9223372036854775807 by omega);have wu:IntKind.u64.wrap ((i+1:Nat):Int)=((i+1:Nat):Int):=bG _ (by omega);have fi:(Value.int .u64 ((i+1:Nat):Int))=fu (Fin.ofNat PP (i+1)):=BN (by show _<2305843009213693951;omega);generalize BJ (Fin.ofNat PP lab.length) 0 (L.take i)=x at key;generalize BJ (Fin.ofNat PP lab.length) 0 (L.take (i+1))=z at key;generalize L[i]=y at key hg;simp only [go_sem,aL,aT hi,hg,hi,ww,wu];refine aB (aA _) rfl (R1 37 x) rfl ?_;simp only [go_sem,aL,hg,hi,ww,wu,fi];refine aB (aA _) rfl (aDQ y (Fin.ofNat PP (i+1))) rfl ?_;simp only [go_sem];refine aB (aA _) rfl (aDQ (37*x) (y+Fin.ofNat PP (i+1))) rfl ?_;simp only [go_sem];refine aB (aA _) rfl (R2 _ 17 (by decide)) rfl ?_;simp only [go_sem,ww,key]
  ·intro _;rw [kH];simp only [go_sem,aL,aX (cZ _)]
end
end
section
open W
def Pn:cF EG []=some ⟨18,[(4,none)],S [R0 4 1 [M F],S [i0 5,fo 0 6 3 (ls v5 (n v0)) [0,5,1] 5 (S [R0 12 5 [eq (l (i 1 v0 v5)) v1],If 17 [5,1,0] (S [E0 [A 4 T],.ret])])],E0 [A 4 F],.ret]⟩:=by kernel_rfl
def JW:cF wG []=some ⟨10,[(4,none)],S [R0 4 1 [M (u 0)],R 5 5 [0,1] [ad (u 1) (rm (c2 C5 v0 v1) (u 2305843009213693949)),J 4 v9],.ret]⟩:=by kernel_rfl
def Po:cF wX []=some ⟨5,[(2,none)],S [R0 2 1 [M (u 0)],R 3 2 [0] [c2 tW (u 37) v0,J 2 v4],.ret]⟩:=by kernel_rfl
def NO:cF Fj []=some ⟨29,[(4,some (some 2))],S [E 4 [al zUU],R0 8 5 [A 5 (c2 wG (kc (.const (.string (Hud.bs [110,111,110,99,101])))) (j2 zUU v0 (c1 Ju v1)))],R0 13 2 [A 6 (c2 tW (u 37) v5)],R 15 7 [0,1] [A 7 (c2 C7 (c3 Jv v6 (c1 wX v0) v1) v0)],R 22 7 [6,5,7] [s 2 t4 (q2 zUU v6 (rm (ad v5 v7) (c0 jR)))],.ret]⟩:=by kernel_rfl
def UD:cF Ju []=some ⟨5,[(2,none)],S [R0 2 1 [M (u 0)],R 3 2 [0] [c2 zF (kc (.const (.string (Hud.bs [115,105,103,110,101,100])))) v0,J 2 v4],.ret]⟩:=by kernel_rfl
def L9:cF C7 []=some ⟨30,[(4,none)],S [R0 4 1 [M (u 0)],R0 6 3 [A 0 (rm v0 (c0 jR))],R0 9 3 [A 1 (rm v1 (c0 jR))],E0 [A 5 (u 0)],lo 0 (S [S [R0 12 1 [gt v1 (u 0)],Ie 13 [] .skip [1,0] (ex 0)],bw 1 (S [S [R0 14 2 [eq (rm v1 (u 2)) (u 1)],If 16 [] (R0 17 5 [A 5 (rm (ad v5 v0) (c0 jR))])],R0 22 5 [A 0 (rm (ad v0 v0) (c0 jR))],R0 27 2 [A 1 (qu v1 (u 2))]])]),R 29 1 [5] [A 4 v5],.ret]⟩:=by kernel_rfl
def UE:cF Jv []=some ⟨13,[(6,none)],S [R0 6 1 [M (u 0)],R 7 6 [0,1,2] [c2 C5 (kc (.const (.string (Hud.bs [115,105,103])))) (j3 zU3 v0 v1 (c1 Ju v2)),J 6 v12],.ret]⟩:=by kernel_rfl
def MA:cF jR []=some ⟨1,[(0,none)],S [R0 0 1 [M (u 0)],E0 [A 0 (u 2305843009213693950)],.ret]⟩:=by kernel_rfl
def MB:cF oJ [(2,none,1)]=some ⟨16,[(2,none)],S [R 2 1 [0] [J 1 (b t0),M z],D 4 7 [] [l (f 0 t1),J 7 (l (f 1 t1)),J 6 (K [zl 8 7,zf 7 1 1] (c1 gG t5)),J 9 (a 1 1 t6 (c1 gG t8)),J 3 v10],S [R 11 5 [3,1] [A 2 (a 1 1 v3 (c1 rK (l (f 2 t1))))],ow 2 1],.ret]⟩:=by kernel_rfl
def Pp:cF rK [(2,none,1),(3,none,1)]=some ⟨20,[(2,none)],S [R0 2 1 [M z],S [iz 3,ow 3 1],lo 0 (S [S [R0 4 1 [gt v0 (u 127)],Ie 5 [] .skip [] (ex 0)],bw 1 (S [S [R0 6 7 [A 3 (a 1 1 v3 (ba 1 [.int .u8 0] (ad (cw .u8 (rm v0 (u 128))) (kc (.const (.int .u8 128))))))],ow 3 1],R0 13 2 [A 0 (qu v0 (u 128))]])]),S [R 15 5 [3,0] [A 2 (a 1 1 v3 (ba 1 [.int .u8 0] (cw .u8 v0)))],ow 2 1],.ret]⟩:=by kernel_rfl
def JX:cF gG []=some ⟨16,[(2,none)],S [R0 2 1 [M z],S [R0 3 1 [ls v0 w0],If 4 [] (S [R 5 7 [0] [ad v0 w1,A 2 (c1 rK (ad (mu (cw .u64 (x (.un .neg (zt 6)))) (u 2)) (u 1)))],.ret])],R 12 4 [0] [A 2 (c1 rK (mu (cw .u64 v0) (u 2)))],.ret]⟩:=by kernel_rfl
def MC:cF C9 []=some ⟨45,[(6,none)],S [R 6 1 [2] [J 5 (b t2),M F],S [D 7 23 [] [O (O (O (O (ls v0 (u 1)) (gt v0 (K [⟨some 10,.mov (zt 0),some (9,false)⟩] (c0 jR)))) (ls (l (f 0 t5)) (u 1))) (gt (l (f 0 t5)) (K [⟨some 21,.ld none (zt 20),some (19,false)⟩,⟨some 20,.fad (zt 5) 0,some (19,false)⟩] (c0 jR)))) (ge (l (f 1 t5)) (K [⟨some 27,.ld none (zt 26),some (25,false)⟩,⟨some 26,.fad (zt 5) 1,some (25,false)⟩] (c0 jR)))],If 30 [5,0,1] (S [E0 [A 6 F],.ret])],D 31 14 [5,0,1] [l (f 1 t5),J 34 (l (f 0 t5)),v0,l (f 0 t5),v0,v1,J 33 (K [zm 40 1,zm 39 0,zl 38 37,zf 37 5 0,zm 36 0,zl 35 34,zf 34 5 0] (c2 tW (u 37) (t 32))),J 41 (K [zm 36 0,zl 35 34,zf 34 5 0] (c3 Jv (t 38) (t 39) (t 40))),A 6 (eq (t 33) (c2 wY (t 35) (K [zl 35 34,zf 34 5 0] (c2 tW (t 36) (t 41)))))],.ret]⟩:=by kernel_rfl
def MD:cF zF []=some ⟨14,[(4,none)],S [R0 4 1 [M (u 0)],R 5 9 [0,1] [c2 C5 v0 (a 1 8 (c1 yZ v1) (ba 1 [zU] (cw .u64 (n v1)))),J 4 v13],.ret]⟩:=by kernel_rfl
def NP:cF Bo []=some ⟨8,[(2,none)],S [R0 2 1 [M z],R 3 5 [0] [v0,c1 gG (x (.lenS (zt 3))),v0,x (.apS (zt 5) (zt 6)),J 2 v7],.ret]⟩:=by kernel_rfl
end
section
def B8:Nat→Nat→List Nat
 | 0,k=>[k]
 | n+1,k=>if 127<k then (k%128+128)::B8 n (k/128) else [k]
def fA (k:Nat):List Nat:=B8 9 k
def UF (n:Int):Nat:=if n<0 then (2*(-(n+1))+1).toNat else (2*n).toNat
def ME {n:Int} (h1:-9223372036854775808≤n) (h2:n≤9223372036854775807):UF n<18446744073709551616:=by unfold UF;split<;>omega
def bJ (n:Int):List Nat:=fA (UF n)
def V8:∀ (n k:Nat),k<2*128^n→wC (B8 n k)
 | 0,k,h=>λx hx=>by simp [B8] at hx;subst hx;simp at h;omega
 | n+1,k,h=>by
  simp only [B8];split
  ·intro x hx;rcases gK.1 hx with rfl | hx
   ·omega
   ·exact V8 n (k/128) (by rw [Cj] at h;omega) x hx
  ·intro x hx;simp at hx;subst hx;omega
def R5:∀ (n k:Nat),(B8 n k).length≤n+1
 | 0,k=>by simp [B8]
 | n+1,k=>by
  simp only [B8];split
  ·have:=R5 n (k/128);simp;omega
  ·simp
def EP {k:Nat} (h:k<18446744073709551616):wC (fA k):=V8 9 k (by omega)
def fF (k:Nat):(fA k).length≤10:=R5 9 k
def EQ (x:Nat) (h:x<256):IntKind.u8.wrap (x:Int)=(x:Int):=by simp [IntKind.wrap,IntKind.bits,IntKind.signed];omega
section
variable {G:Nat→Option (List AV)}
set_option maxHeartbeats 4000000
def OF (k:Nat) (hk:k<18446744073709551616):aC PQ G rK [.v (.int .u64 (k:Int))] [] λr T'=>r=.own 0∧T'=[some (.arr 1 (bl (fA k)))]:=by
 refine aF Pp (by decide) ?_;simp only [go_sem];refine eF (λs=>∃ (A:List Nat) (j:Nat),A++[j]=fA k∧j≤127∧s=⟨0,[(0,.v (.int .u64 (j:Int))),(3,.own 0)],[some (.arr 1 (bl A))]⟩) ?_ ?_
 ·refine bU (λm s=>∃ (A:List Nat) (j:Nat),A++B8 m j=fA k∧j<2*128^m∧A.length+m≤9∧s=⟨0,[(0,.v (.int .u64 (j:Int))),(3,.own 0)],[some (.arr 1 (bl A))]⟩) 9 ⟨[],k,rfl,by omega,by decide,?_⟩ ?_
  ·simp only [go_sem]
  rintro m s ⟨A,j,hA,hj,hl,rfl⟩;by_cases hlt:127<j
  ·cases m with
   | zero=>simp at hj;omega
   | succ m =>
    have hj2:j<18446744073709551616:=CU hj (nX (U4 2 (Ms (by decide) (show m+1≤9 by omega))) (by decide));have t1:decide ((j:Int)>127)=true:=decide_eq_true (by omega);have r1:aZ .rem (.int .u64 (j:Int)) (.int .u64 128)=some (.int .u64 ((j%128:Nat):Int)):=jW j 128 (by decide);have q1:aZ .quo (.int .u64 (j:Int)) (.int .u64 128)=some (.int .u64 ((j/128:Nat):Int)):=BI j 128 (by decide) hj2;have w1:IntKind.u8.wrap ((j%128:Nat):Int)=((j%128:Nat):Int):=EQ _ (by omega);have w2:IntKind.u8.wrap (((j%128:Nat):Int)+128)=((j%128+128:Nat):Int):=EQ (j%128+128) (by omega);have b1:A.length+1≤140737488355328:=by omega
    have b2:A.length+1≤maxLen:=by unfold maxLen;omega
    have b3:(A.length+1)*1≤140737488355328:=by omega
    simp only [go_sem,aL,t1,↓r1,↓q1,w1,w2,b1,b2,b3];refine ⟨m,by omega,A++[j%128+128],j/128,?_,?_,?_,?_⟩
    ·rw [←hA,B8,if_pos hlt,eE];rfl
    ·rw [Cj] at hj;omega
    ·simp;omega
    ·simp only [bl,gQ,cN,eQ]
  ·have t1:decide ((j:Int)>127)=false:=decide_eq_false (by omega);simp only [go_sem,t1];refine ⟨A,j,?_,by omega,rfl⟩;rw [←hA]
   cases m with
   | zero=>rfl
   | succ m=>rw [B8,if_neg hlt]
 rintro s ⟨A,j,hA,hj,rfl⟩;have hl:=fF k;rw [←hA] at hl;simp at hl;have w1:IntKind.u8.wrap (j:Int)=(j:Int):=EQ _ (by omega);have b2:A.length+1≤maxLen:=by unfold maxLen;omega
 have b3:(A.length+1)*1≤140737488355328:=by omega
 have b1:A.length+1≤140737488355328:=by omega
 rw [←hA];simp only [go_sem,aL,w1,b1,b2,b3,gQ,cN,eQ]
def sX (n:Int) (h1:-9223372036854775808≤n) (h2:n≤9223372036854775807):aC PQ G gG [.v (.int .i64 n)] [] λr T'=>r=.own 0∧T'=[some (.arr 1 (bl (bJ n)))]:=by
 refine aF JX (by decide) ?_;have hz:=ME h1 h2;unfold bJ;simp only [go_sem];by_cases hn:n<0
 ·obtain ⟨m,rfl,hm⟩:∃ m:Nat,n=-((m:Int)+1)∧m≤9223372036854775807:=⟨(-(n+1)).toNat,by omega,by omega⟩
  have t1:decide (-((m:Int)+1)<0)=true:=decide_eq_true hn;have w1:IntKind.i64.wrap (-((m:Int)+1)+1)=-(m:Int):=by rw [aJ (by omega) (by omega)];omega
  have w2:IntKind.i64.wrap (0 - -(m:Int))=(m:Int):=by rw [aJ (by omega) (by omega)];omega
  have w3:IntKind.u64.wrap (m:Int)=(m:Int):=bG m (by omega);have m1:aZ .mul (.int .u64 (m:Int)) (.int .u64 2)=some (.int .u64 ((m*2:Nat):Int)):=jV m 2 (by omega);have a1:aZ .add (.int .u64 ((m*2:Nat):Int)) (.int .u64 1)=some (.int .u64 ((m*2+1:Nat):Int)):=cW (m*2) 1 (by omega);have hzz:UF (-((m:Int)+1))=m*2+1:=by unfold UF;rw [if_pos hn];omega
  rw [hzz];simp only [go_sem,t1,w1,w2,w3,↓m1,↓a1];refine aS (aA _) rfl (OF (m*2+1) (by omega)) ?_;simp only [go_sem]
 ·obtain ⟨m,rfl⟩:∃ m:Nat,n=(m:Int):=⟨n.toNat,by omega⟩
  have t1:decide ((m:Int)<0)=false:=decide_eq_false hn;have w3:IntKind.u64.wrap (m:Int)=(m:Int):=bG m (by omega);have m1:aZ .mul (.int .u64 (m:Int)) (.int .u64 2)=some (.int .u64 ((m*2:Nat):Int)):=jV m 2 (by omega);have hzz:UF (m:Int)=m*2:=by unfold UF;rw [if_neg hn];omega
  rw [hzz];simp only [go_sem,t1,w3,↓m1];refine aS (aA _) rfl (OF (m*2) (by omega)) ?_;simp only [go_sem]
def bP (n:Int):(bJ n).length≤10:=fF _
def B9 {n:Int} (h1:-9223372036854775808≤n) (h2:n≤9223372036854775807):wC (bJ n):=EP (ME h1 h2)
def idB (a b:Int) (c:Nat):List Nat:=bJ a++bJ b++fA c
def aCA (a b:Int) (c:Nat) (ha1:-9223372036854775808≤a) (ha2:a≤9223372036854775807) (hb1:-9223372036854775808≤b) (hb2:b≤9223372036854775807) (hc:c<18446744073709551616) :
  aC PQ G oJ [.ag [.v (.int .i64 a),.v (.int .i64 b),.v (.int .u64 (c:Int))]] [] λr T'=>r=.own 0∧T'=[some (.arr 1 (bl (idB a b c)))]:=by
 refine aF MB (by decide) ?_;have l1:=bP a;have l2:=bP b;have l3:=fF c;have e1:(bl (bJ a)).length=(bJ a).length:=by simp
 have e2:(bl (bJ b)).length=(bJ b).length:=by simp
 have e3:(bl (fA c)).length=(fA c).length:=by simp
 simp only [go_sem];refine aS (aA _) rfl (sX a ha1 ha2) ?_;simp only [go_sem];refine aS (aA _) rfl (sX b hb1 hb2) ?_;have b1:(bJ a).length+(bJ b).length≤140737488355328:=by omega
 have b2:(bJ a).length+(bJ b).length≤maxLen:=by unfold maxLen;omega
 have b3:((bJ a).length+(bJ b).length)*1≤140737488355328:=by omega
 simp only [go_sem,aL,b1,b2,b3];refine aS (aA _) rfl (OF c hc) ?_;have d1:(bJ a).length+(bJ b).length+(fA c).length≤140737488355328:=by omega
 have d2:(bJ a).length+(bJ b).length+(fA c).length≤maxLen:=by unfold maxLen;omega
 have d3:((bJ a).length+(bJ b).length+(fA c).length)*1≤140737488355328:=by omega
 simp only [go_sem,aL,dU,d1,d2,d3,idB,bl,gQ]
def R6 (lab b:List Nat):Fq:=Ds lab (dR b++[b.length])
def R7 (S:ByteArray) (lab b:List Nat) (hS:jH S=bl lab) (hs:S.size=lab.length) (hb:wC lab) (hl:lab.length≤1000) (hbb:wC b) (hbl:b.length≤1000000):aC PQ G zF [.v (.string S),.ls 1 (bl b)] [] λr T'=>r=.v (fu (R6 lab b))∧T'=[]:=by
 refine aF MD (by decide) ?_;have hwl:=Fz b;have hw:=ID hbb;have z1:IntKind.u64.wrap (b.length:Int)=(b.length:Int):=bG _ (by omega);have b2:(dR b).length+1≤maxLen:=by unfold maxLen;omega
 have b3:((dR b).length+1)*8≤140737488355328:=by omega
 simp only [go_sem];refine aS (aA _) rfl (R3 b hbb (by omega)) ?_;have e1:ul (dR b)++[[AV.v (.int .u64 (b.length:Int))]]=ul (dR b++[b.length]):=by simp only [ul,gQ,cN,eQ]
 simp only [go_sem,aL,z1,b2,b3];rw [e1];refine lN (aA _) rfl rfl (aAh S lab (dR b++[b.length]) hS hs hb hl (λn hn=>?_) (by simp;omega)) ?_
 ·rcases eO.1 hn with h | h
  ·exact IX (hw n h) (by decide)
  ·rw [gZ.1 h];omega
 simp only [go_sem];rfl
def NQ (lab ns:List Nat):Nat:=1+(Ds lab ns).val%2305843009213693949
def Pq (lab ns:List Nat):1≤NQ lab ns∧NQ lab ns≤2305843009213693949:=by unfold NQ;omega
def OG (S:ByteArray) (lab ns:List Nat) (hS:jH S=bl lab) (hs:S.size=lab.length) (hb:wC lab) (hl:lab.length≤1000) (hn:∀ n∈ns,n<18446744073709551616) (hnl:ns.length≤10000000):aC PQ G wG [.v (.string S),.ls 1 (ul ns)] [] λr T'=>r=.v (.int .u64 ((NQ lab ns:Nat):Int))∧T'=[]:=by
 refine aF JW (by decide) ?_;have hlt:=Pq lab ns;have r1:aZ .rem (fu (Ds lab ns)) (.int .u64 2305843009213693949)=some (.int .u64 (((Ds lab ns).val%2305843009213693949:Nat):Int)):=jW _ 2305843009213693949 (by decide);have a1:aZ .add (.int .u64 1) (.int .u64 (((Ds lab ns).val%2305843009213693949:Nat):Int))=some (.int .u64 ((NQ lab ns:Nat):Int)):=cW 1 _ (by unfold NQ at hlt;omega);simp only [go_sem];refine aB (aA _) rfl (aAh S lab ns hS hs hb hl hn hnl) rfl ?_;simp only [go_sem,↓r1,↓a1]
end
end
end Hud
