import Derived.Test.YthlndebkfkanbaaGreatDoorLib11
set_option linter.all false
namespace Hud
open Go Go.Proofs.Tryz
section
def aGE:HFun:=⟨6,[(2,none)],zQ (zr [zN 2] [2]) (zQ (zr [zm 3 0,zc 4 cS [zt 3,.func qO],zc 5 oB [zt 4],zm 2 5] [0,5,4,3]) .ret)⟩
theorem aJv:aB prog rD []=some aGE:=by kernel_rfl
def aGF:HFun:=⟨21,[(2,none)],zQ (zr [zN 2] [2]) (zQ (zP 0 (zQ (zQ (zr [zm 3 0,zn 4 3,zj 5 .gtr 4 0,zm 6 5,zh 7 0 6 true,zh 8 0 6 true,zg 9 (.lenL (zt 8)) 6 true,zg 10 (.bin .sub (zt 9) (zw 1)) 6 true,zg 11 (.iad (zt 7) (zt 10) 1) 6 true,zg 12 (.ld none (zt 11)) 6 true,zg 13 (.bin .eql (zt 12) (zu 0)) 6 true,zo 14 (.pick (zt 6) (zt 13) zF)] [13,12,11,10,9,8,7,6,5,4,3]) (zC 14 (zK [14] .skip) (zK [14] (.exit 0)))) (.block 1 (zr [zm 15 0,zm 16 0,zn 17 16,zj 18 .sub 17 1,zo 19 (.slc (zt 15) none (some (zt 18)) 1),zm 0 19] [19,18,17,16,15])))) (zQ (zQ (zr [zm 20 0,zm 2 20] [0,20]) (.own 2 none 1)) .ret))⟩
theorem aJw:aB prog oB [(2,none,1)]=some aGF:=by kernel_rfl
def iJ:HFun:=⟨27,[(4,none)],zQ (zr [zN 4] [4]) (zQ (zr [zm 8 0,zn 9 8,zo 10 (.mks 1 [zU] 8 (zt 9) (zt 9)),zm 5 10] [10,9,8]) (zQ (zQ (zr [zm 11 0,zn 12 11,zk 13 0] [0]) (zP 0 (zE [zb 14 .lss 13 12] (zQ (zC 14 (zK [14] .skip) (zK [13,11,12,1,14] (.exit 0))) (zQ (.block 1 (zQ (zr [zm 15 13,zi 16 11 13 1,zl 17 16,zm 6 15,zm 7 17] [17,16,15]) (zr [zm 18 5,zm 19 6,zm 20 1,zm 21 6,zm 22 7,zo 23 (.call (zt 20) [zt 21,zt 22]),zi 24 18 19 1,zs (.st 1 (zt 24) (zt 23))] [6,7,24,23,22,21,20,19,18]))) (zr [zj 25 .add 13 1,zm 13 25] [25])))))) (zQ (zQ (zr [zm 26 5,zm 4 26] [5,26]) (.own 4 none 1)) .ret)))⟩
theorem kN:aB prog cS [(4,none,1)]=some iJ:=by kernel_rfl
def aCA:HFun:=⟨7,[(4,none)],zK [0] (zQ (zr [zo 4 (.mov (zu 0))] [4]) (zQ (zr [zm 5 1,zc 6 aZ [zt 5],zm 4 6] [1,6,5]) .ret))⟩
theorem aFM:aB prog qO []=some aCA:=by kernel_rfl
def aJx:HFun:=⟨16,[(4,none)],zQ (zr [zo 3 (.box (zt 1)),zN 4] [1,4]) (zQ (zQ (zr [zm 5 0,zn 6 5,zl 7 3,zn 8 7,zb 9 .lss 6 8] [8,7,6,5]) (zC 9 (zK [9] (zr [zl 10 3,zm 11 0,zm 0 10,zs (.st 1 (zt 3) (zt 11))] [11,10])) (zK [9] .skip))) (zQ (zr [zm 12 0,zo 13 (.clo pA [zt 3]),zc 14 cS [zt 12,zt 13],zc 15 oB [zt 14],zm 4 15] [0,3,15,14,13,12]) .ret))⟩
theorem aLF:aB prog zH []=some aJx:=by kernel_rfl
def aEu:HFun:=⟨18,[(5,none)],zQ (zr [zo 5 (.mov (zu 0))] [5]) (zQ (zQ (zr [zm 6 0,zl 7 2,zn 8 7,zb 9 .lss 6 8] [8,7,6]) (zC 9 (zK [9] (zQ (zr [zm 10 1,zl 11 2,zm 12 0,zi 13 11 12 1,zl 14 13,zc 15 iO [zt 10,zt 14],zm 5 15] [1,2,0,15,14,13,12,11,10]) .ret)) (zK [2,0,9] .skip))) (zQ (zr [zm 16 1,zc 17 aZ [zt 16],zm 5 17] [1,17,16]) .ret))⟩
theorem aHu:aB prog pA []=some aEu:=by kernel_rfl
def aJy:HFun:=⟨62,[(4,none)],zQ (zr [zN 4] [4]) (zQ (zr [zm 10 0,zc 11 rD [zt 10],zm 12 1,zc 13 rD [zt 12],zm 0 11,zm 1 13] [13,12,11,10]) (zQ (zQ (zr [zm 14 0,zn 15 14,zj 16 .eql 15 0,zm 17 16,zh 18 1 17 false,zg 19 (.lenL (zt 18)) 17 false,zg 20 (.bin .eql (zt 19) (zw 0)) 17 false,zo 21 (.pick (zt 17) zT (zt 20))] [20,19,18,17,16,15,14]) (zC 21 (zK [0,1,21] (zQ (zE [zN 4] (.own 4 none 1)) .ret)) (zK [21] .skip))) (zQ (zr [zm 22 0,zn 23 22,zm 24 1,zn 25 24,zb 26 .add 23 25,zj 27 .sub 26 1,zo 28 (.mks 1 [zU] 8 (zt 27) (zt 27)),zm 5 28] [28,27,26,25,24,23,22]) (zQ (zQ (zr [zm 29 0,zn 30 29,zk 31 0] [0]) (zP 0 (zE [zb 32 .lss 31 30] (zQ (zC 32 (zK [32] .skip) (zK [31,29,30,1,32] (.exit 0))) (zQ (.block 1 (zQ (zr [zm 33 31,zi 34 29 31 1,zl 35 34,zm 6 33,zm 7 35] [35,34,33]) (zE [zm 36 1,zn 37 36,zk 38 0] (zP 2 (zE [zb 39 .lss 38 37] (zQ (zC 39 (zK [39] .skip) (zK [38,36,37,7,6,39] (.exit 2))) (zQ (.block 3 (zQ (zr [zm 40 38,zi 41 36 38 1,zl 42 41,zm 8 40,zm 9 42] [42,41,40]) (zR (zq (zm 43 5) (zq (zm 44 6) (zq (zm 45 8) (zq (zb 46 .add 44 45) (zq (zm 47 5) (zq (zm 48 6) (zq (zm 49 8) (zq (zb 50 .add 48 49) (zq (zi 51 47 50 1) (zq (zl 52 51) (zq (zm 53 7) (zq (zm 54 9) (zA (zc 55 gG [zt 53,zt 54]) [zl 52 51,zi 51 47 50 1,zb 50 .add 48 49,zm 49 8,zm 48 6,zm 47 5,zb 46 .add 44 45,zm 45 8,zm 44 6,zm 43 5] (zA (zc 56 iO [zt 52,zt 55]) [zb 46 .add 44 45,zm 45 8,zm 44 6,zm 43 5] (zq (zi 57 43 46 1) (zA (zs (.st 1 (zt 57) (zt 56))) [] (.done false) .no)) .no) .no))))))))))))) [8,9,57,56,55,54,53,52,51,50,49,48,47,46,45,44,43]))) (zr [zj 58 .add 38 1,zm 38 58] [58])))))))) (zr [zj 59 .add 31 1,zm 31 59] [59])))))) (zQ (zQ (zr [zm 60 5,zc 61 oB [zt 60],zm 4 61] [5,61,60]) (.own 4 none 1)) .ret)))))⟩
theorem aLG:aB prog tQ [(4,none,1)]=some aJy:=by kernel_rfl
end
section
abbrev fl (l:List Fq):List (List AV):=l.map fun c=>[.v (fu c)]
def uC (F:Nat->Fq->Fq) (l:List Fq) (i:Nat):List Fq:=l.mapIdx fun j x=>if j<i then F j x else 0
theorem aTo (F:Nat->Fq->Fq) (l:List Fq):uC F l 0=List.replicate l.length 0:=by
 apply List.ext_getElem? fun j=>?_
 simp only [uC,List.getElem?_mapIdx,List.getElem?_replicate]
 by_cases h:j<l.length
 ·rw [if_pos h,List.getElem?_eq_getElem h];rfl
 ·rw [if_neg h,List.getElem?_eq_none (by omega)];rfl
theorem aTp (F:Nat->Fq->Fq) (l:List Fq):uC F l l.length=l.mapIdx F:=by
 apply List.ext_getElem? fun j=>?_
 simp only [uC,List.getElem?_mapIdx]
 by_cases h:j<l.length
 ·rw [List.getElem?_eq_getElem h];simp [h]
 ·rw [List.getElem?_eq_none (by omega)];rfl
theorem aMT (F:Nat->Fq->Fq) (l:List Fq) (i:Nat):(uC F l i).length=l.length:=by simp [uC]
theorem aMU (F:Nat->Fq->Fq) (l:List Fq) (i:Nat) (h:i<l.length):(fl (uC F l i))[i]?=some [.v (fu 0)]:=by
 simp [fl,uC,h]
theorem aMV (F:Nat->Fq->Fq) (l:List Fq) (i:Nat) (h:i<l.length):(fl (uC F l i)).set i [.v (fu (F i l[i]))]=fl (uC F l (i+1)):=by
 have:(uC F l i).set i (F i l[i])=uC F l (i+1):=by
  apply List.ext_getElem? fun j=>?_
  rw [List.getElem?_set]
  simp only [uC,List.getElem?_mapIdx,List.length_mapIdx]
  by_cases e:i=j
  ·subst e;simp [h]
  ·rw [if_neg e]
   by_cases h2:j<i
   ·simp [h2,Nat.lt_succ_of_lt h2]
   ·have:¬j<i+1:=by omega
    simp [h2,this]
 rw [<-this]
 simp only [fl,List.map_set]
theorem bD4 {c:Fq} (h:(((c.val:Nat):Int)==0)=true):c=0:=Fin.ext (by simp at h;simp [h])
theorem bD5 {c:Fq} (h:(((c.val:Nat):Int)==0)=false):c≠0:=fun e=>by subst e;simp at h
theorem aFN (l:List Fq) (i:Nat) (h:i<l.length):(fl l)[i]?=some [.v (fu l[i])]:=by simp [fl,h]
theorem bB1 (l:List Fq) (i:Nat) (c:Fq):(fl l).set i [.v (fu c)]=fl (l.set i c):=by simp only [fl,List.map_set]
theorem aRP (n:Nat):List.replicate n [AV.v (.int .u64 0)]=fl (List.replicate n 0):=by simp only [fl,List.map_replicate];rfl
section
variable {G:Nat->Option (List AV)}
theorem aZ9 (f:FuncId) (F:Nat->Fq->Fq) (l:List Fq) (hl:l.length<=1000000000) (hf:∀ i x,i<l.length->aD prog G f [.v (.int .i64 ((i:Nat):Int)),.v (fu x)] [] fun r T'=>r=.v (fu (F i x))/\T'=[]) :
  aD prog G cS [.ls 1 (fl l),.cl f []] [] fun r T'=>r=.own 0/\T'=[some (.arr 1 (fl (l.mapIdx F)))]:=by
 refine aF kN (by decide) ?_
 unfold iJ
 dsimp only [zj,zT,zF,zC,zE,zP,zQ,zq,zA,zm,zo,zs,zg,zh,zl,zv,zf,zi,zn,zb,zc,ze,zk,zw,zu,zt,zr,zR,zK,zN,zS,z0,zU]
 simp only [go_sem,↓reduceIte,List.length_map,aRP,Int.le_refl,show (l.length:Int)*8<=140737488355328 by omega,show (l.length:Int)<=(maxLen:Int) by unfold maxLen;omega]
 refine aL l.length (fun i=>⟨0,[(1,.cl f []),(5,.own 0),(11,.ls 1 (fl l)),(12,.v (.int .i64 l.length)),(13,.v (.int .i64 i))],[some (.arr 1 (fl (uC F l i)))]⟩) (fun _=>True) ?_ trivial ?_ ?_
 ·simp only [go_sem,↓reduceIte,aTo]
 ·intro i hi _
  have g1:=aFN l i hi
  have g2:=aMU F l i hi
  have g3:=aMV F l i hi
  simp only [go_sem,↓reduceIte,List.length_map,bQ hi,g1]
  refine aC (aA _) rfl (hf i l[i] hi) rfl ?_
  simp only [go_sem,↓reduceIte,List.length_map,aMT,hi,g2,g3,aH (show i<9223372036854775807 by omega)]
 ·intro _
  simp only [go_sem,↓reduceIte,List.length_map,bV (Nat.lt_irrefl _),aTp]
theorem aTq (f:FuncId) (c:AV) (ho:eN c=[]) (F:Nat->Fq->Fq) (l:List Fq) (hl:l.length<=1000000000) (hf:∀ i x,i<l.length->aD prog G f [.v (.int .i64 ((i:Nat):Int)),.v (fu x),.ptr 0 0] [some (.box [c])] fun r T'=>r=.v (fu (F i x))/\T'=[some (.box [c])]) :
  aD prog G cS [.ls 1 (fl l),.cl f [.ptr 0 0]] [some (.box [c])] fun r T'=>r=.own 1/\T'=[some (.box [c]),some (.arr 1 (fl (l.mapIdx F)))]:=by
 refine aF kN (by decide) ?_
 have hr:=fun L=>bAc (L:=L) ho
 have hb:=fun L n=>aTk (L:=L) (n:=n) ho
 unfold iJ
 dsimp only [zj,zT,zF,zC,zE,zP,zQ,zq,zA,zm,zo,zs,zg,zh,zl,zv,zf,zi,zn,zb,zc,ze,zk,zw,zu,zt,zr,zR,zK,zN,zS,z0,zU]
 simp only [go_sem,↓reduceIte,List.length_map,aRP,Int.le_refl,show (l.length:Int)*8<=140737488355328 by omega,show (l.length:Int)<=(maxLen:Int) by unfold maxLen;omega]
 refine aL l.length (fun i=>⟨1,[(1,.cl f [.ptr 0 0]),(5,.own 1),(11,.ls 1 (fl l)),(12,.v (.int .i64 l.length)),(13,.v (.int .i64 i))],[some (.box [c]),some (.arr 1 (fl (uC F l i)))]⟩) (fun _=>True) ?_ trivial ?_ ?_
 ·simp only [go_sem,↓reduceIte,aTo,ho,hr]
 ·intro i hi _
  have g1:=aFN l i hi
  have g2:=aMU F l i hi
  have g3:=aMV F l i hi
  simp only [go_sem,↓reduceIte,List.length_map,bQ hi,g1]
  refine aG [0] (aA _) (by decide) (by simp) rfl (by simp only [go_sem,↓reduceIte,hr]) (hf i l[i] hi) ?_
  rintro r T' ⟨rfl,rfl⟩
  simp only [go_sem,↓reduceIte,List.length_map,aMT,hi,g2,g3,aH (show i<9223372036854775807 by omega),ho,hr,hb]
 ·intro _
  simp only [go_sem,↓reduceIte,List.length_map,bV (Nat.lt_irrefl _),aTp,ho,hr]
def vw0 (n N:Nat):AV:=if n=N then .own 0 else .vw 0 1 0 n
theorem aZa (l:List Fq) (n:Nat) (hn:n<=l.length) (hl:l.length<=1000000000) :
  aD prog G oB [vw0 n l.length] [some (.arr 1 (fl l))] fun r T'=>r=vw0 (bT (l.take n)).length l.length/\T'=[some (.arr 1 (fl l))]:=by
 refine aF aJw (by decide) ?_
 unfold aGF
 dsimp only [zj,zT,zF,zC,zE,zP,zQ,zq,zA,zm,zo,zs,zg,zh,zl,zv,zf,zi,zn,zb,zc,ze,zk,zw,zu,zt,zr,zR,zK,zN,zS,z0,zU]
 simp only [go_sem,↓reduceIte]
 refine fS (fun m s=>m<=n/\bT (l.take m)=bT (l.take n)/\s=⟨1,[(0,vw0 m l.length)],[some (.arr 1 (fl l))]⟩) n ⟨Nat.le_refl _,rfl,by simp only [vw0];split<;>simp only [go_sem,↓reduceIte]⟩ ?_
 rintro m s ⟨hm,ht,rfl⟩
 cases m with
 | zero =>
  have e:bT (l.take n)=[]:=by rw [<-ht];rfl
  simp only [vw0]
  split
  ·rename_i h0
   simp only [go_sem,↓reduceIte,List.length_map,<-h0,e]
   simp [vw0]
  ·simp only [go_sem,↓reduceIte,List.length_map,e]
   simp [vw0, *]
 | succ m =>
  have hm':m<l.length:=by omega
  have g1:=aFN l m hm'
  have ht2:bT (l.take (m+1))=if l[m]=0 then bT (l.take m) else l.take (m+1):=by
   rw [List.take_succ_eq_append_getElem hm',tZ]
  have hw:=aML (show m<9223372036854775807 by omega)
  have hmn:m≠l.length:=by omega
  simp only [vw0]
  split
  ·rename_i h0
   simp only [go_sem,↓reduceIte,List.length_map,<-h0,hw,g1,Nat.lt_add_one]
   refine bM (fun h=>?_) (fun h=>?_)
   ·have h0':=bD4 h
    rw [if_pos h0'] at ht2
    simp only [go_sem,↓reduceIte,List.length_map,<-h0,hw,Nat.zero_le,Nat.sub_zero,Nat.le_add_right]
    refine ⟨m,by omega,by omega,by rw [<-ht2,ht],?_⟩
    simp only [vw0,if_neg hmn,if_neg (show m≠m+1 by omega)]
   ·have h0':=bD5 h
    rw [if_neg h0'] at ht2
    have e:(bT (l.take n)).length=m+1:=by rw [<-ht,ht2,List.length_take];omega
    simp only [go_sem,↓reduceIte,vw0,e,h0]
  ·rename_i h0
   simp only [go_sem,↓reduceIte,List.length_map,hw,g1,Nat.lt_add_one]
   refine bM (fun h=>?_) (fun h=>?_)
   ·have h0':=bD4 h
    rw [if_pos h0'] at ht2
    simp only [go_sem,↓reduceIte,List.length_map,hw,Nat.zero_le,Nat.sub_zero,Nat.le_add_right]
    refine ⟨m,by omega,by omega,by rw [<-ht2,ht],?_⟩
    simp only [vw0,if_neg hmn,if_neg (show m≠m+1 by omega)]
   ·have h0':=bD5 h
    rw [if_neg h0'] at ht2
    have e:(bT (l.take n)).length=m+1:=by rw [<-ht,ht2,List.length_take];omega
    simp only [go_sem,↓reduceIte,vw0,e,h0]
theorem aOh (l:List Fq) (hl:l.length<=1000000000) :
  aD prog G oB [.own 0] [some (.arr 1 (fl l))] fun r T'=>r=vw0 (bT l).length l.length/\T'=[some (.arr 1 (fl l))]:=by
 have:=aZa (G:=G) l l.length (Nat.le_refl _) hl
 rwa [vw0,if_pos rfl,List.take_length] at this
theorem aWS (i:Nat) (x:Fq):aD prog G qO [.v (.int .i64 ((i:Nat):Int)),.v (fu x)] [] fun r T'=>r=.v (fu x)/\T'=[]:=by
 refine aF aFM (by decide) ?_
 unfold aCA
 dsimp only [zj,zT,zF,zC,zE,zP,zQ,zq,zA,zm,zo,zs,zg,zh,zl,zv,zf,zi,zn,zb,zc,ze,zk,zw,zu,zt,zr,zR,zK,zN,zS,z0,zU]
 simp only [go_sem,↓reduceIte]
 refine aC (aA _) rfl (aJs x) rfl ?_
 simp only [go_sem,↓reduceIte]
theorem aMW (l:List Fq):l.mapIdx (fun _ x=>x)=l:=by
 apply List.ext_getElem? fun j=>?_
 simp
theorem aTr (l:List Fq):(fl l).take (bT l).length=fl (bT l):=by
 obtain ⟨k,hk⟩:=aOf l
 have:fl l=fl (bT l)++fl (List.replicate k 0):=by rw [<-List.map_append,<-hk]
 rw [this,List.take_left' (by simp)]
theorem bB2 (l:List Fq) (hl:l.length<=1000000000) :
  aD prog G rD [.ls 1 (fl l)] [] fun r T'=>r=vw0 (bT l).length l.length/\T'=[some (.arr 1 (fl l))]:=by
 refine aF aJv (by decide) ?_
 unfold aGE
 dsimp only [zj,zT,zF,zC,zE,zP,zQ,zq,zA,zm,zo,zs,zg,zh,zl,zv,zf,zi,zn,zb,zc,ze,zk,zw,zu,zt,zr,zR,zK,zN,zS,z0,zU]
 simp only [go_sem,↓reduceIte]
 refine bU (aA _) rfl (aZ9 qO (fun _ x=>x) l hl fun i x _=>aWS i x) ?_
 simp only [go_sem,↓reduceIte,aMW]
 refine aG [0] (aA _) (by decide) (by simp) rfl rfl (aOh l hl) ?_
 rintro r T' ⟨rfl,rfl⟩
 simp only [go_sem,↓reduceIte,vw0]
 split<;>simp only [go_sem,↓reduceIte]
theorem aTs {f:FuncId} {args:List AV} {l:List Fq} (hc:aD prog G f args [] fun r T'=>r=vw0 (bT l).length l.length/\T'=[some (.arr 1 (fl l))]):aD prog G f args [] fun r T'=>r=.ls 1 (fl (bT l))/\T'=[]:=by
 refine hc.fin [0] ?_
 rintro r T' ⟨rfl,rfl⟩
 have h1:=aTr l
 have h2:=oF l
 simp only [vw0]
 split
 ·rename_i h
  rw [h,List.take_of_length_le (by simp)] at h1
  simp only [go_sem,↓reduceIte,h1]
 ·simp only [go_sem,↓reduceIte,Nat.zero_add,List.length_map,h2,h1]
theorem aTt (l:List Fq) (hl:l.length<=1000000000):aD prog G rD [.ls 1 (fl l)] [] fun r T'=>r=.ls 1 (fl (bT l))/\T'=[]:=aTs (bB2 l hl)
end
end
section
def leN:List Nat->Nat
 | []=>0
 | x::r=>x+256*leN r
def qF:Nat->List Nat->List Nat
 | 0,_=>[]
 | _+1,[]=>[]
 | n+1,x::b=>leN ((x::b).take 7)::qF n ((x::b).drop 7)
def dG (b:List Nat):List Nat:=qF b.length b
theorem aJz:∀ {b:List Nat},okB b->leN b<256^b.length
 | [],_=>by simp [leN]
 | x::r,h=>by
  have h1:=aJz (b:=r) fun y hy=>h y (List.mem_cons_of_mem _ hy)
  have h2:=h x List.mem_cons_self
  simp only [leN,List.length_cons,Nat.pow_succ];omega
theorem aMX {b:List Nat} (h:okB b) (hl:b.length<=7):leN b<72057594037927936 :=
 Nat.lt_of_lt_of_le (aJz h) (Nat.le_trans (Nat.pow_le_pow_right (by decide) hl) (by decide))
theorem aGG:∀ (n m:Nat) (b:List Nat),b.length<=n->b.length<=m->qF n b=qF m b
 | 0,m,b,h,_=>by
  have:b=[]:=List.eq_nil_of_length_eq_zero (by omega)
  subst this
  cases m<;>rfl
 | n+1,m,[],_,_=>by cases m<;>rfl
 | n+1,0,x::b,_,h=>by simp at h
 | n+1,m+1,x::b,h1,h2=>by
  simp only [qF]
  rw [aGG n m ((x::b).drop 7) (by simp at h1 ⊢;omega) (by simp at h2 ⊢;omega)]
theorem aRQ:dG []=[]:=rfl
theorem aBp {b:List Nat} (h:b≠[]):dG b=leN (b.take 7)::dG (b.drop 7):=by
 cases b with
 | nil=>exact absurd rfl h
 | cons x b =>
  unfold dG
  simp only [List.length_cons,qF]
  rw [aGG _ ((x::b).drop 7).length _ (by simp) (Nat.le_refl _)]
theorem aRR {b:List Nat} (h:b≠[]) (hl:b.length<=7):dG b=[leN b]:=by
 rw [aBp h,List.take_of_length_le hl,List.drop_of_length_le hl,aRQ]
theorem aJA (b:List Nat):(dG b).length<=b.length:=by
 have:∀ (n:Nat) (b:List Nat),(qF n b).length<=n:=by
  intro n
  induction n with
  | zero=>intro b;simp [qF]
  | succ n ih=>intro b;cases b<;>simp [qF,ih]
 exact this _ _
theorem aMY {b:List Nat} (h:okB b):∀ w∈dG b,w<72057594037927936:=by
 have:∀ (n:Nat) (b:List Nat),okB b->∀ w∈qF n b,w<72057594037927936:=by
  intro n
  induction n with
  | zero=>intro b _ w hw;simp [qF] at hw
  | succ n ih =>
   intro b hb w hw
   cases b with
   | nil=>simp [qF] at hw
   | cons x b =>
    simp only [qF,List.mem_cons] at hw
    rcases hw with rfl | hw
    ·exact aMX (pH hb 7) (by rw [List.length_take];omega)
    ·exact ih _ (aEt hb 7) w hw
 exact this _ _ h
theorem aWT {c:List Nat} {j:Nat} (h:j<c.length):leN (c.drop j)=c[j]+256*leN (c.drop (j+1)):=by
 rw [List.drop_eq_getElem_cons h];rfl
theorem xX {w:Nat} (h:w<PP):(Value.int .u64 ((w:Nat):Int))=fu (Fin.ofNat PP w):=by rw [fu,aMS w h]
section
variable {G:Nat->Option (List AV)}
set_option maxHeartbeats 4000000
theorem aWU (b:List Nat) (hb:okB b) (hl:b.length<=100000000):aD prog G rH [.ls 1 (bl b)] [] fun r T'=>r=.own 0/\T'=[some (.arr 1 (ul (dG b)))]:=by
 refine aF aBm (by decide) ?_
 unfold aBl
 dsimp only [zj,zT,zF,zC,zE,zP,zQ,zq,zA,zm,zo,zs,zg,zh,zl,zv,zf,zi,zn,zb,zc,ze,zk,zw,zu,zt,zr,zR,zK,zN,zS,z0,zU]
 simp only [go_sem,↓reduceIte,List.length_map]
 refine fS (fun n s=>∃ (i:Nat) (A:List Nat),n=b.length+7-i/\i<=b.length+6/\A.length<=i/\A++dG (b.drop i)=dG b/\s=⟨0,[(0,.ls 1 (bl b)),(3,.own 0),(4,.v (.int .i64 (i:Int)))],[some (.arr 1 (ul A))]⟩) (b.length+7) ⟨0,[],by omega,by omega,Nat.le_refl _,by simp,?_⟩ ?_
 ·simp only [go_sem,↓reduceIte]
 rintro n s ⟨i,A,rfl,hi,hA,hw,rfl⟩
 by_cases hlt:i<b.length
 ·obtain ⟨e,he1,he2,he3,he4⟩:∃ e:Nat,i<e/\e<=b.length/\e<=i+7/\e=min b.length (i+7):=⟨min b.length (i+7),by omega,by omega,by omega,rfl⟩
  have w1:IntKind.i64.wrap ((i:Int)+7)=((i+7:Nat):Int):=by rw [aM (by omega) (by omega)];omega
  have w2:(if ((i+7:Nat):Int)<(b.length:Int) then ((i+7:Nat):Int) else (b.length:Int))=(e:Int):=by split<;>omega
  have w3:IntKind.i64.wrap ((e:Int)-1)=(e:Int)-1:=aM (by omega) (by omega)
  have hc:((b.drop i).take (e-i)).length=e-i:=by simp;omega
  have okc:okB ((b.drop i).take (e-i)):=pH (aEt hb i) _
  have hcw:leN ((b.drop i).take 7)=leN ((b.drop i).take (e-i)):=by
   rcases Nat.lt_or_ge (i+7) b.length with h | h
   ·rw [show e-i=7 by omega]
   ·rw [List.take_of_length_le (by simp;omega),List.take_of_length_le (by simp;omega)]
  have hget:∀ j (h:j<((b.drop i).take (e-i)).length),(bl b)[i+j]?=some [.v (.int .u8 ((((b.drop i).take (e-i))[j]:Nat):Int))]:=fun j h=>by
   have h1:i+j<b.length:=by omega
   rw [aX U8 b (i+j) h1]
   simp
  generalize (b.drop i).take (e-i)=c at hc okc hcw hget
  have hstep:=aBp (b:=b.drop i) (fun h=>by have:=congrArg List.length h;simp at this;omega)
  rw [hcw,List.drop_drop] at hstep
  rw [hstep] at hw
  simp only [go_sem,↓reduceIte,List.length_map,bQ hlt,w1,w2,w3]
  refine aFy (fun s=>s=⟨0,[(0,.ls 1 (bl b)),(3,.own 0),(4,.v (.int .i64 (i:Int))),(5,.v (.int .u64 ((leN c:Nat):Int)))],[some (.arr 1 (ul A))]⟩) ?_ ?_
  ·refine fS (fun n s=>∃ j:Nat,n=j/\j<=e-i/\s=⟨0,[(0,.ls 1 (bl b)),(3,.own 0),(4,.v (.int .i64 (i:Int))),(5,.v (.int .u64 ((leN (c.drop j):Nat):Int))),(6,.v (.int .i64 (((i+j:Nat):Int)-1)))],[some (.arr 1 (ul A))]⟩) (e-i) ⟨e-i,rfl,Nat.le_refl _,?_⟩ ?_
   ·have h0:leN (c.drop (e-i))=0:=by rw [List.drop_of_length_le (by omega)];rfl
    simp only [go_sem,↓reduceIte,h0,show i+(e-i)=e by omega]
   rintro n s ⟨j,rfl,hj,rfl⟩
   cases n with
   | zero =>
    have hg:decide ((i:Int)<=(i:Int)-1)=false:=decide_eq_false (by omega)
    simp only [go_sem,↓reduceIte,ge_iff_le,hg]
   | succ j =>
    have hjc:j<c.length:=by omega
    have e1:((i+(j+1):Nat):Int)-1=((i+j:Nat):Int):=by omega
    have hg:decide ((i:Int)<=((i+j:Nat):Int))=true:=decide_eq_true (by omega)
    have hW:=aJz (aEt okc (j+1))
    have hW2:leN (c.drop (j+1))<281474976710656:=Nat.lt_of_lt_of_le hW (Nat.le_trans (Nat.pow_le_pow_right (by decide) (show (c.drop (j+1)).length<=6 by simp;omega)) (by decide))
    have hx:=okc c[j] (List.getElem_mem hjc)
    have hd:=aWT hjc
    have g0:=hget j hjc
    have e2:IntKind.i64.wrap (((i+j:Nat):Int)-1)=((i+j:Nat):Int)-1:=aM (by omega) (by omega)
    generalize c[j]=x at hx hd g0
    generalize leN (c.drop (j+1))=W at hW2 hd
    have m1:aU .mul (.int .u64 (W:Int)) (.int .u64 256)=some (.int .u64 ((W*256:Nat):Int)):=jK W 256 (by omega)
    have a1:aU .add (.int .u64 ((W*256:Nat):Int)) (.int .u64 (x:Int))=some (.int .u64 ((W*256+x:Nat):Int)):=cY _ _ (by omega)
    have v1:IntKind.u64.wrap (x:Int)=(x:Int):=aS x (by omega)
    have hd2:W*256+x=leN (c.drop j):=by omega
    simp only [e1]
    simp only [go_sem,↓reduceIte,ge_iff_le,hg,g0,v1,↓m1,↓a1,e2]
    exact ⟨j,by omega,j,rfl,by omega,by rw [hd2]⟩
  rintro s rfl
  have b1:(A.length+1)*8<=140737488355328:=by omega
  have b2:A.length+1<=maxLen:=by unfold maxLen;omega
  simp only [go_sem,↓reduceIte,List.length_map,b1,b2,w1]
  exact ⟨b.length+7-(i+7),by omega,i+7,A++[leN c],by omega,by omega,by simp;omega,by rw [List.append_assoc];exact hw,by simp only [ul,List.map_append,List.map_cons,List.map_nil]⟩
 ·simp only [go_sem,↓reduceIte,List.length_map,bV hlt]
  have:dG (b.drop i)=[]:=by rw [List.drop_of_length_le (by omega)];rfl
  rw [this,List.append_nil] at hw
  rw [hw]
theorem aC8 (w:Fq):∀ (l:List Fq) (s:Fq) (k:Nat),aA9 s k (l++[w])=hst (aA9 s k l) w (k+l.length+1)
 | [],s,k=>rfl
 | x::l,s,k=>by
  rw [List.cons_append,aA9,aA9,aC8 w l]
  congr 1
  simp;omega
def aPQ (lab ns:List Nat):List Fq:=(dG lab++ns.length::ns++[0]).map (Fin.ofNat PP)
def sG (lab ns:List Nat):Fq:=aA9 (Fin.ofNat PP lab.length) 0 (aPQ lab ns)
theorem aWV {l:List Nat} (h:∀ w∈l,w<PP):ul l=fl (l.map (Fin.ofNat PP)):=by
 simp only [ul,fl,List.map_map]
 refine List.map_congr_left fun w hw=>?_
 simp only [Function.comp,xX (h w hw)]
theorem aWW (S:ByteArray) (lab ns:List Nat) (hS:iG S=bl lab) (hs:S.size=lab.length) (hb:okB lab) (hl:lab.length<=1000) (hn:∀ n∈ns,n<18446744073709551616) (hnl:ns.length<=10000000):aD prog G nA [.v (.string S),.ls 1 (ul ns)] [] fun r T'=>r=.v (fu (sG lab ns))/\T'=[]:=by
 refine aF aGz (by decide) ?_
 unfold aJl
 dsimp only [zj,zT,zF,zC,zE,zP,zQ,zq,zA,zm,zo,zs,zg,zh,zl,zv,zf,zi,zn,zb,zc,ze,zk,zw,zu,zt,zr,zR,zK,zN,zS,z0,zU]
 have hw:=aMY hb
 have hwl:=aJA lab
 have hm:lab.length<=maxLen:=by unfold maxLen;omega
 have z1:IntKind.u64.wrap (ns.length:Int)=(ns.length:Int):=aS _ (by omega)
 have z2:IntKind.u64.wrap (lab.length:Int)=(lab.length:Int):=aS _ (by omega)
 simp only [go_sem,↓reduceIte,hS,hs,hm]
 refine bU (aA _) rfl (aWU lab hb (by omega)) ?_
 have b1:((dG lab).length+1)*8<=140737488355328:=by omega
 have b2:(dG lab).length+1<=maxLen:=by unfold maxLen;omega
 simp only [go_sem,↓reduceIte,List.length_map,b1,b2,z1]
 have e1:ul (dG lab)++[[AV.v (.int .u64 (ns.length:Int))]]=fl ((dG lab++[ns.length]).map (Fin.ofNat PP)):=by
  rw [<-aWV (l:=dG lab++[ns.length])]
  ·simp only [ul,List.map_append,List.map_cons,List.map_nil]
  ·intro w h
   rcases List.mem_append.1 h with h | h
   ·exact Nat.lt_trans (hw w h) (by decide)
   ·rw [List.mem_singleton.1 h];show _<2305843009213693951;omega
 rw [e1]
 have hW:((dG lab++[ns.length]).map (Fin.ofNat PP):List Fq).length<=1001:=by simp;omega
 have hfin:aPQ lab ns=(dG lab++[ns.length]).map (Fin.ofNat PP)++(ns.map (Fin.ofNat PP)++[0]):=by
  unfold aPQ
  simp
 unfold sG
 rw [hfin]
 generalize (dG lab++[ns.length]).map (Fin.ofNat PP)=W at hW
 refine aL ns.length (fun i=>⟨0,[(0,.v (.string S)),(1,.ls 1 (ul ns)),(5,.own 0),(6,.v (.int .i64 (i:Int)))],[some (.arr 1 (fl (W++(ns.take i).map (Fin.ofNat PP))))]⟩) (fun _=>True) ?_ trivial ?_ ?_
 ·simp only [go_sem,↓reduceIte]
 ·intro i hi _
  have g0:(ul ns)[i]?=some [.v (.int .u64 ((ns[i]:Nat):Int))]:=by rw [aX _ ns i hi]
  have wn:(Value.int .u64 ((ns[i]%2305843009213693951:Nat):Int))=fu (Fin.ofNat PP ns[i]):=rfl
  have b1:(W.length+min i ns.length+1)*8<=140737488355328:=by omega
  have b2:W.length+min i ns.length+1<=maxLen:=by unfold maxLen;omega
  have hs:fl (W++(ns.take i).map (Fin.ofNat PP))++[[.v (fu (Fin.ofNat PP ns[i]))]]=fl (W++(ns.take (i+1)).map (Fin.ofNat PP)):=by
   rw [List.take_succ_eq_append_getElem hi];simp only [fl,List.map_append,List.map_cons,List.map_nil,List.append_assoc]
  have hlen:(fl (W++(ns.take i).map (Fin.ofNat PP))).length=W.length+min i ns.length:=by simp [fl]
  generalize fl (W++(ns.take i).map (Fin.ofNat PP))=X at hs hlen
  simp only [go_sem,↓reduceIte,List.length_map,bQ hi,g0,↓aC7,wn,hlen,b1,b2,aH (show i<9223372036854775807 by omega),hs]
 ·intro _
  rw [List.take_length]
  have b1:(W.length+ns.length+1)*8<=140737488355328:=by omega
  have b2:W.length+ns.length+1<=maxLen:=by unfold maxLen;omega
  have hs2:fl (W++ns.map (Fin.ofNat PP))++[[.v (.int .u64 0)]]=fl (W++(ns.map (Fin.ofNat PP)++[0])):=by
   rw [<-List.append_assoc];simp only [fl,List.map_append];rfl
  have hlen:(fl (W++ns.map (Fin.ofNat PP))).length=W.length+ns.length:=by simp [fl]
  have hL:(W++(ns.map (Fin.ofNat PP)++[0])).length=W.length+ns.length+1:=by simp;omega
  generalize W++(ns.map (Fin.ofNat PP)++[0])=L at hs2 hL
  generalize fl (W++ns.map (Fin.ofNat PP))=X at hs2 hlen
  have s0:(Value.int .u64 ((lab.length:Nat):Int))=fu (Fin.ofNat PP lab.length):=xX (by show _<2305843009213693951;omega)
  simp only [go_sem,↓reduceIte,List.length_map,bV (Nat.lt_irrefl _),hlen,b1,b2,hs2,hs,z2,s0]
  refine aL L.length (fun i=>⟨0,[(5,.own 0),(7,.v (fu (aA9 (Fin.ofNat PP lab.length) 0 (L.take i)))),(8,.v (.int .i64 (i:Int)))],[some (.arr 1 (fl L))]⟩) (fun _=>True) ?_ trivial ?_ ?_
  ·simp only [go_sem,↓reduceIte]
   rfl
  ·intro i hi _
   have key:hst (aA9 (Fin.ofNat PP lab.length) 0 (L.take i)) L[i] (i+1)=aA9 (Fin.ofNat PP lab.length) 0 (L.take (i+1)):=by
    rw [List.take_succ_eq_append_getElem hi,aC8]
    congr 1
    simp;omega
   unfold hst at key
   have hg:=aFN L i hi
   have ww:=aH (show i<9223372036854775807 by omega)
   have wu:IntKind.u64.wrap ((i+1:Nat):Int)=((i+1:Nat):Int):=aS _ (by omega)
   have fi:(Value.int .u64 ((i+1:Nat):Int))=fu (Fin.ofNat PP (i+1)):=xX (by show _<2305843009213693951;omega)
   generalize aA9 (Fin.ofNat PP lab.length) 0 (L.take i)=x at key
   generalize aA9 (Fin.ofNat PP lab.length) 0 (L.take (i+1))=z at key
   generalize L[i]=y at key hg
   simp only [go_sem,↓reduceIte,List.length_map,bQ hi,hg,hi,ww,wu]
   refine aC (aA _) rfl (aMR 37 x) rfl ?_
   simp only [go_sem,↓reduceIte,List.length_map,hg,hi,ww,wu,fi]
   refine aC (aA _) rfl (aTl y (Fin.ofNat PP (i+1))) rfl ?_
   simp only [go_sem,↓reduceIte]
   refine aC (aA _) rfl (aTl (37*x) (y+Fin.ofNat PP (i+1))) rfl ?_
   simp only [go_sem,↓reduceIte]
   refine aC (aA _) rfl (aPO _ 17 (by decide)) rfl ?_
   simp only [go_sem,↓reduceIte,ww,key]
  ·intro _
   rw [List.take_length]
   simp only [go_sem,↓reduceIte,List.length_map,bV (Nat.lt_irrefl _)]
end
end
section
def aAa:HFun:=⟨6,[(2,none)],zQ (zr [zo 2 (.mov (zu 0))] [2]) (zQ (zr [zm 3 0,zo 4 (.bin .rem (zt 3) (zu 2305843009213693949)),zo 5 (.bin .add (zu 1) (zt 4)),zm 2 5] [0,5,4,3]) .ret)⟩
theorem aAy:aB prog fZ []=some aAa:=by kernel_rfl
def aJB:HFun:=⟨75,[(6,none)],zQ (zr [zN 6] [6]) (zQ (zE [zN 7] (.own 7 none 2)) (zQ (zE [zN 8] (.own 8 none 1)) (zQ (zE [zk 9 0] (zP 0 (zQ (zQ (zr [zm 12 9,zm 13 1,zn 14 13,zb 15 .lss 12 14,zm 16 15,zh 17 7 16 true,zg 18 (.lenL (zt 17)) 16 true,zh 19 2 16 true,zg 20 (.bin .lss (zt 18) (zt 19)) 16 true,zo 21 (.pick (zt 16) (zt 20) zF),zm 22 21,zh 23 0 22 true,zg 24 (.lenL (zt 23)) 22 true,zg 25 (.bin .gtr (zt 24) (zw 0)) 22 true,zo 26 (.pick (zt 22) (zt 25) zF)] [25,24,23,22,21,20,19,18,17,16,15,14,13,12]) (zC 26 (zK [26] .skip) (zK [1,9,26] (.exit 0)))) (zQ (.block 1 (zQ (zr [zm 29 1,zm 30 9,zi 31 29 30 1,zl 32 31,zm 33 0,zn 34 33,zc 35 fY [zt 32,zt 34],zm 10 35] [35,34,33,32,31,30,29]) (zQ (zr [zm 36 8,zm 37 10,zc 38 cM [zt 36,zt 37],zo 39 (.un .not (zt 38))] [38,37,36]) (zC 39 (zK [39] (zQ (zQ (zr [zm 40 8,zm 41 10,zo 42 (.bsl 1 [z0] [(0,(1,zt 41))] 1),zo 43 (.app (zt 40) (zt 42) 1 8),zm 8 43] [43,42,41,40]) (.own 8 none 1)) (zQ (zr [zm 44 7,zm 45 0,zm 46 10,zi 47 45 46 2,zv 48 2 47,zo 49 (.bsl 2 [zU,zU] [(0,(2,zt 48))] 1),zo 50 (.app (zt 44) (zt 49) 2 16),zm 7 50] [10,50,49,48,47,46,45,44]) (.own 7 none 2)))) (zK [10,39] .skip))))) (zr [zm 27 9,zj 28 .add 27 1,zm 9 28] [28,27]))))) (zQ (zE [zk 11 0] (zP 2 (zQ (zQ (zr [zm 51 11,zm 52 0,zn 53 52,zb 54 .lss 51 53,zm 55 54,zh 56 7 55 true,zg 57 (.lenL (zt 56)) 55 true,zh 58 2 55 true,zg 59 (.bin .lss (zt 57) (zt 58)) 55 true,zo 60 (.pick (zt 55) (zt 59) zF)] [59,58,57,56,55,54,53,52,51]) (zC 60 (zK [60] .skip) (zK [8,11,0,2,60] (.exit 2)))) (zQ (.block 3 (zQ (zr [zm 63 8,zm 64 11,zc 65 cM [zt 63,zt 64],zo 66 (.un .not (zt 65))] [65,64,63]) (zC 66 (zK [66] (zQ (zr [zm 67 7,zm 68 0,zm 69 11,zi 70 68 69 2,zv 71 2 70,zo 72 (.bsl 2 [zU,zU] [(0,(2,zt 71))] 1),zo 73 (.app (zt 67) (zt 72) 2 16),zm 7 73] [73,72,71,70,69,68,67]) (.own 7 none 2))) (zK [66] .skip)))) (zr [zm 61 11,zj 62 .add 61 1,zm 11 62] [62,61]))))) (zQ (zQ (zr [zm 74 7,zm 6 74] [7,74]) (.own 6 none 2)) .ret)))))⟩
theorem aLH:aB prog nQ [(6,none,2),(7,none,2),(8,none,1)]=some aJB:=by kernel_rfl
def aJC:HFun:=⟨14,[(4,none)],zQ (zr [zN 4] [4]) (zQ (zE [zN 5] (.own 5 none 1)) (zQ (zQ (zr [zm 6 5,zm 7 0,zm 8 0,zn 9 8,zm 10 1,zo 11 (.mm false (zt 9) (zt 10)),zo 12 (.slc (zt 7) none (some (zt 11)) 1),zo 13 (.app (zt 6) (zt 12) 1 8),zm 4 13] [5,0,1,13,12,11,10,9,8,7,6]) (.own 4 none 1)) .ret))⟩
theorem aLI:aB prog zG [(4,none,1),(5,none,1)]=some aJC:=by kernel_rfl
def aFO:HFun:=⟨18,[(4,none)],zQ (zr [zo 4 (.mov zF)] [4]) (zQ (zE [zk 5 0] (zP 0 (zQ (zQ (zr [zm 6 5,zm 7 0,zn 8 7,zb 9 .lss 6 8] [8,7,6]) (zC 9 (zK [9] .skip) (zK [0,5,1,9] (.exit 0)))) (zQ (.block 1 (zQ (zr [zm 12 0,zm 13 5,zi 14 12 13 1,zl 15 14,zm 16 1,zb 17 .eql 15 16] [16,15,14,13,12]) (zC 17 (zK [5,1,0,17] (zE [zo 4 (.mov zT)] .ret)) (zK [17] .skip)))) (zr [zm 10 5,zj 11 .add 10 1,zm 5 11] [11,10]))))) (zE [zo 4 (.mov zF)] .ret))⟩
theorem aEv:aB prog cM []=some aFO:=by kernel_rfl
def aAb:HFun:=⟨27,[(6,none)],zQ (zr [zo 6 (.mov (zu 0))] [6]) (zQ (zQ (zr [zm 7 2,zm 8 1,zn 9 8,zb 10 .leq 7 9] [9,8,7]) (zC 10 (zK [0,10] (zQ (zr [zm 11 1,zm 12 2,zj 13 .sub 12 1,zi 14 11 13 1,zl 15 14,zo 16 (.bin .rem (zt 15) (zu 2305843009213693949)),zo 17 (.bin .add (zu 1) (zt 16)),zm 6 17] [1,2,17,16,15,14,13,12,11]) .ret)) (zK [10] .skip))) (zQ (zr [zm 18 0,zo 19 (.bin .rem (zt 18) (zu 2305843009213693951)),zm 20 2,zm 21 1,zn 22 21,zb 23 .sub 20 22,zo 24 (.conv .u64 (zt 23)),zo 25 (.bsl 1 [zU,zU] [(0,(1,zt 19)),(1,(1,zt 24))] 2),zc 26 mD [.const (.string (Hud.bs [100,114,97,119])),zt 25],zm 6 26] [0,2,1,26,25,24,23,22,21,20,19,18]) .ret))⟩
theorem aAz:aB prog oV []=some aAb:=by kernel_rfl
def aBq:HFun:=⟨30,[(6,none)],zQ (zr [zN 6] [6]) (zQ (zr [zm 10 0,zo 11 (.bsl 1 [zU] [(0,(1,zt 10))] 1),zm 12 1,zo 13 (.app (zt 11) (zt 12) 1 8),zm 7 13] [0,1,13,12,11,10]) (zQ (zE [zN 8] (.own 8 none 2)) (zQ (zE [zk 9 1] (zP 0 (zQ (zQ (zr [zm 14 9,zm 15 2,zb 16 .leq 14 15] [15,14]) (zC 16 (zK [16] .skip) (zK [9,7,2,16] (.exit 0)))) (zQ (.block 1 (zQ (zr [zm 19 8,zm 20 9,zo 21 (.conv .u64 (zt 20)),zm 22 7,zm 23 9,zo 24 (.conv .u64 (zt 23)),zc 25 zL [zt 22,zt 24],zo 26 (.bld [zU,zU] [(0,(1,zt 21)),(1,(1,zt 25))]),zo 27 (.bsl 2 [zU,zU] [(0,(2,zt 26))] 1),zo 28 (.app (zt 19) (zt 27) 2 16),zm 8 28] [28,27,26,25,24,23,22,21,20,19]) (.own 8 none 2))) (zr [zm 17 9,zj 18 .add 17 1,zm 9 18] [18,17]))))) (zQ (zQ (zr [zm 29 8,zm 6 29] [8,29]) (.own 6 none 2)) .ret))))⟩
theorem aBr:aB prog rC [(6,none,2),(8,none,2)]=some aBq:=by kernel_rfl
def aDu:HFun:=⟨29,[(6,some (some 4))],zE [zo 6 (.alloc [zU,zU,zU,zU])] (zQ (zr [zm 9 0,zm 10 1,zc 11 jD [zt 9,zt 10],zm 7 11] [11,10,9]) (zQ (zr [zm 12 0,zm 13 1,zc 14 xT [zt 13],zm 15 2,zm 16 7,zo 17 (.bsl 1 [zU] [(0,(1,zt 16))] 1),zc 18 nA [.const (.string (Hud.bs [109,97,115,107])),zt 17],zc 19 nZ [zt 15,zt 18],zo 20 (.bld [zU,zU,zU,zU] [(0,(1,zt 12)),(1,(1,zt 14)),(2,(1,zt 19))]),zo 8 (.alloc [zU,zU,zU,zU]),zs (.st 4 (zt 8) (zt 20))] [1,2,20,19,18,17,16,15,14,13,12]) (zQ (zr [zm 21 7,zf 22 8 2,zl 23 22,zm 24 0,zo 25 (.bsl 1 [zU,zU,zU] [(0,(1,zt 21)),(1,(1,zt 23)),(2,(1,zt 24))] 3),zc 26 nA [.const (.string (Hud.bs [116,97,103])),zt 25],zf 27 8 3,zs (.st 1 (zt 27) (zt 26))] [7,0,27,26,25,24,23,22,21]) (zQ (zr [zv 28 4 8,zs (.st 4 (zt 6) (zt 28))] [8,28]) .ret))))⟩
theorem aCB:aB prog tR []=some aDu:=by kernel_rfl
def aFP:HFun:=⟨5,[(2,none)],zQ (zr [zo 2 (.mov (zu 0))] [2]) (zQ (zr [zm 3 0,zc 4 jD [zu 37,zt 3],zm 2 4] [0,4,3]) .ret)⟩
theorem aEw:aB prog xT []=some aFP:=by kernel_rfl
def aAc:HFun:=⟨10,[(4,none)],zQ (zr [zo 4 (.mov (zu 0))] [4]) (zQ (zr [zm 5 0,zm 6 1,zc 7 nA [zt 5,zt 6],zo 8 (.bin .rem (zt 7) (zu 2305843009213693949)),zo 9 (.bin .add (zu 1) (zt 8)),zm 4 9] [0,1,9,8,7,6,5]) .ret)⟩
theorem aAA:aB prog mD []=some aAc:=by kernel_rfl
def aDv:HFun:=⟨23,[(4,none)],zQ (zr [zo 4 (.mov (zu 0))] [4]) (zE [zo 5 (.mov (zu 0))] (zQ (zQ (zr [zm 7 0,zn 8 7,zj 9 .sub 8 1,zm 6 9] [9,8,7]) (zP 0 (zQ (zQ (zr [zm 10 6,zj 11 .geq 10 0] [10]) (zC 11 (zK [11] .skip) (zK [1,0,6,11] (.exit 0)))) (zQ (.block 1 (zR (zq (zm 14 5) (zq (zm 15 1) (zq (zm 17 0) (zq (zm 18 6) (zq (zi 19 17 18 1) (zq (zl 20 19) (zA (zc 16 mF [zt 14,zt 15]) [zl 20 19,zi 19 17 18 1,zm 18 6,zm 17 0] (zA (zc 21 nZ [zt 16,zt 20]) [] (zA (zm 5 21) [] (.done false) .no) .no) .no))))))) [21,20,19,18,17,16,15,14])) (zr [zm 12 6,zj 13 .sub 12 1,zm 6 13] [13,12]))))) (zQ (zr [zm 22 5,zm 4 22] [5,22]) .ret)))⟩
theorem aCC:aB prog zL []=some aDv:=by kernel_rfl
def aFQ:HFun:=⟨5,[(2,none)],zQ (zr [zo 2 (.mov (zu 0))] [2]) (zQ (zr [zm 3 0,zc 4 jD [zu 37,zt 3],zm 2 4] [0,4,3]) .ret)⟩
theorem aEx:aB prog qB []=some aFQ:=by kernel_rfl
def aJD:HFun:=⟨29,[(4,some (some 2))],zE [zo 4 (.alloc [zU,zU])] (zQ (zr [zm 8 0,zm 9 1,zc 10 aI8 [zt 9],zo 11 (.bsl 1 [zU,zU] [(0,(1,zt 8)),(1,(1,zt 10))] 2),zc 12 mD [.const (.string (Hud.bs [110,111,110,99,101])),zt 11],zm 5 12] [12,11,10,9,8]) (zQ (zr [zm 13 5,zc 14 jD [zu 37,zt 13],zm 6 14] [14,13]) (zQ (zr [zm 15 6,zm 16 0,zc 17 qB [zt 16],zm 18 1,zc 19 aI9 [zt 15,zt 17,zt 18],zm 20 0,zc 21 aB8 [zt 19,zt 20],zm 7 21] [0,1,21,20,19,18,17,16,15]) (zQ (zr [zm 22 6,zm 23 5,zm 24 7,zb 25 .add 23 24,zc 26 gI [],zb 27 .rem 25 26,zo 28 (.bld [zU,zU] [(0,(1,zt 22)),(1,(1,zt 27))]),zs (.st 2 (zt 4) (zt 28))] [6,5,7,28,27,26,25,24,23,22]) .ret))))⟩
theorem aLJ:aB prog aDg []=some aJD:=by kernel_rfl
def aTu:HFun:=⟨5,[(2,none)],zQ (zr [zo 2 (.mov (zu 0))] [2]) (zQ (zr [zm 3 0,zc 4 vK [.const (.string (Hud.bs [115,105,103,110,101,100])),zt 3],zm 2 4] [0,4,3]) .ret)⟩
theorem aRS:aB prog aI8 []=some aTu:=by kernel_rfl
def aGH:HFun:=⟨30,[(4,none)],zQ (zr [zo 4 (.mov (zu 0))] [4]) (zQ (zr [zm 6 0,zc 7 gI [],zb 8 .rem 6 7,zm 0 8] [8,7,6]) (zQ (zr [zm 9 1,zc 10 gI [],zb 11 .rem 9 10,zm 1 11] [11,10,9]) (zE [zo 5 (.mov (zu 0))] (zQ (zP 0 (zQ (zQ (zr [zm 12 1,zo 13 (.bin .gtr (zt 12) (zu 0))] [12]) (zC 13 (zK [13] .skip) (zK [1,0,13] (.exit 0)))) (.block 1 (zQ (zQ (zr [zm 14 1,zo 15 (.bin .rem (zt 14) (zu 2)),zo 16 (.bin .eql (zt 15) (zu 1))] [15,14]) (zC 16 (zK [16] (zr [zm 17 5,zm 18 0,zb 19 .add 17 18,zc 20 gI [],zb 21 .rem 19 20,zm 5 21] [21,20,19,18,17])) (zK [16] .skip))) (zQ (zr [zm 22 0,zm 23 0,zb 24 .add 22 23,zc 25 gI [],zb 26 .rem 24 25,zm 0 26] [26,25,24,23,22]) (zr [zm 27 1,zo 28 (.bin .quo (zt 27) (zu 2)),zm 1 28] [28,27])))))) (zQ (zr [zm 29 5,zm 4 29] [5,29]) .ret)))))⟩
theorem aJE:aB prog aB8 []=some aGH:=by kernel_rfl
def aTv:HFun:=⟨13,[(6,none)],zQ (zr [zo 6 (.mov (zu 0))] [6]) (zQ (zr [zm 7 0,zm 8 1,zm 9 2,zc 10 aI8 [zt 9],zo 11 (.bsl 1 [zU,zU,zU] [(0,(1,zt 7)),(1,(1,zt 8)),(2,(1,zt 10))] 3),zc 12 nA [.const (.string (Hud.bs [115,105,103])),zt 11],zm 6 12] [0,1,2,12,11,10,9,8,7]) .ret)⟩
theorem aRT:aB prog aI9 []=some aTv:=by kernel_rfl
def aGI:HFun:=⟨1,[(0,none)],zQ (zr [zo 0 (.mov (zu 0))] [0]) (zE [zo 0 (.mov (zu 2305843009213693950))] .ret)⟩
theorem aJF:aB prog gI []=some aGI:=by kernel_rfl
def aGJ:HFun:=⟨16,[(2,none)],zQ (zr [zo 1 (.box (zt 0)),zN 2] [0,2]) (zQ (zR (zq (zf 4 1 0) (zq (zl 5 4) (zq (zf 7 1 1) (zq (zl 8 7) (zA (zc 6 dZ [zt 5]) [zl 8 7,zf 7 1 1] (zA (zc 9 dZ [zt 8]) [] (zA (zo 10 (.app (zt 6) (zt 9) 1 1)) [] (zq (zm 3 10) (.done false)) .no) .no) .no))))) [10,9,8,7,6,5,4]) (zQ (zQ (zr [zm 11 3,zf 12 1 2,zl 13 12,zc 14 oE [zt 13],zo 15 (.app (zt 11) (zt 14) 1 1),zm 2 15] [3,1,15,14,13,12,11]) (.own 2 none 1)) .ret))⟩
theorem aJG:aB prog oD [(2,none,1)]=some aGJ:=by kernel_rfl
def aMZ:HFun:=⟨20,[(2,none)],zQ (zr [zN 2] [2]) (zQ (zE [zN 3] (.own 3 none 1)) (zQ (zP 0 (zQ (zQ (zr [zm 4 0,zo 5 (.bin .gtr (zt 4) (zu 127))] [4]) (zC 5 (zK [5] .skip) (zK [5] (.exit 0)))) (.block 1 (zQ (zQ (zr [zm 6 3,zm 7 0,zo 8 (.bin .rem (zt 7) (zu 128)),zo 9 (.conv .u8 (zt 8)),zo 10 (.bin .add (zt 9) (.const (.int .u8 128))),zo 11 (.bsl 1 [.int .u8 0] [(0,(1,zt 10))] 1),zo 12 (.app (zt 6) (zt 11) 1 1),zm 3 12] [12,11,10,9,8,7,6]) (.own 3 none 1)) (zr [zm 13 0,zo 14 (.bin .quo (zt 13) (zu 128)),zm 0 14] [14,13]))))) (zQ (zQ (zr [zm 15 3,zm 16 0,zo 17 (.conv .u8 (zt 16)),zo 18 (.bsl 1 [.int .u8 0] [(0,(1,zt 17))] 1),zo 19 (.app (zt 15) (zt 18) 1 1),zm 2 19] [3,0,19,18,17,16,15]) (.own 2 none 1)) .ret)))⟩
theorem aOi:aB prog oE [(2,none,1),(3,none,1)]=some aMZ:=by kernel_rfl
def aEy:HFun:=⟨16,[(2,none)],zQ (zr [zN 2] [2]) (zQ (zQ (zr [zm 3 0,zj 4 .lss 3 0] [3]) (zC 4 (zK [4] (zQ (zr [zm 5 0,zj 6 .add 5 1,zo 7 (.un .neg (zt 6)),zo 8 (.conv .u64 (zt 7)),zo 9 (.bin .mul (zt 8) (zu 2)),zo 10 (.bin .add (zt 9) (zu 1)),zc 11 oE [zt 10],zm 2 11] [0,11,10,9,8,7,6,5]) .ret)) (zK [4] .skip))) (zQ (zr [zm 12 0,zo 13 (.conv .u64 (zt 12)),zo 14 (.bin .mul (zt 13) (zu 2)),zc 15 oE [zt 14],zm 2 15] [0,15,14,13,12]) .ret))⟩
theorem aHv:aB prog dZ []=some aEy:=by kernel_rfl
def aGK:HFun:=⟨45,[(6,none)],zQ (zr [zo 5 (.box (zt 2)),zo 6 (.mov zF)] [2,6]) (zQ (zQ (zR (zq (zm 7 0) (zq (zo 8 (.bin .lss (zt 7) (zu 1))) (zq (zm 9 8) (zq (zh 10 0 9 false) (zA (zg 11 (.call (.func gI) []) 9 false) [zh 10 0 9 false] (zq (zg 12 (.bin .gtr (zt 10) (zt 11)) 9 false) (zq (zo 13 (.pick (zt 9) zT (zt 12))) (zq (zm 14 13) (zq (zg 15 (.fad (zt 5) 0) 14 false) (zq (zg 16 (.ld none (zt 15)) 14 false) (zq (zg 17 (.bin .lss (zt 16) (zu 1)) 14 false) (zq (zo 18 (.pick (zt 14) zT (zt 17))) (zq (zm 19 18) (zq (zg 20 (.fad (zt 5) 0) 19 false) (zq (zg 21 (.ld none (zt 20)) 19 false) (zA (zg 22 (.call (.func gI) []) 19 false) [zg 21 (.ld none (zt 20)) 19 false,zg 20 (.fad (zt 5) 0) 19 false] (zq (zg 23 (.bin .gtr (zt 21) (zt 22)) 19 false) (zq (zo 24 (.pick (zt 19) zT (zt 23))) (zq (zm 25 24) (zq (zg 26 (.fad (zt 5) 1) 25 false) (zq (zg 27 (.ld none (zt 26)) 25 false) (zA (zg 28 (.call (.func gI) []) 25 false) [zg 27 (.ld none (zt 26)) 25 false,zg 26 (.fad (zt 5) 1) 25 false] (zq (zg 29 (.bin .geq (zt 27) (zt 28)) 25 false) (zq (zo 30 (.pick (zt 25) zT (zt 29))) (.done false))) .no)))))) .no))))))))))) .no))))) [29,28,27,26,25,24,23,22,21,20,19,18,17,16,15,14,13,12,11,10,9,8,7]) (zC 30 (zK [5,0,1,30] (zE [zo 6 (.mov zF)] .ret)) (zK [30] .skip))) (zQ (zR (zq (zf 31 5 1) (zq (zl 32 31) (zq (zf 34 5 0) (zq (zl 35 34) (zq (zm 36 0) (zq (zf 37 5 0) (zq (zl 38 37) (zq (zm 39 0) (zq (zm 40 1) (zA (zc 33 jD [zu 37,zt 32]) [zm 40 1,zm 39 0,zl 38 37,zf 37 5 0,zm 36 0,zl 35 34,zf 34 5 0] (zA (zc 41 aI9 [zt 38,zt 39,zt 40]) [zm 36 0,zl 35 34,zf 34 5 0] (zA (zc 42 jD [zt 36,zt 41]) [zl 35 34,zf 34 5 0] (zA (zc 43 mF [zt 35,zt 42]) [] (zq (zb 44 .eql 33 43) (zq (zm 6 44) (.done false))) .no) .no) .no) .no)))))))))) [5,0,1,44,43,42,41,40,39,38,37,36,35,34,33,32,31]) .ret))⟩
theorem aJH:aB prog aBa []=some aGK:=by kernel_rfl
def aGL:HFun:=⟨14,[(4,none)],zQ (zr [zo 4 (.mov (zu 0))] [4]) (zQ (zr [zm 5 0,zm 6 1,zc 7 rH [zt 6],zm 8 1,zn 9 8,zo 10 (.conv .u64 (zt 9)),zo 11 (.bsl 1 [zU] [(0,(1,zt 10))] 1),zo 12 (.app (zt 7) (zt 11) 1 8),zc 13 nA [zt 5,zt 12],zm 4 13] [0,1,13,12,11,10,9,8,7,6,5]) .ret)⟩
theorem aJI:aB prog vK []=some aGL:=by kernel_rfl
def aJJ:HFun:=⟨8,[(2,none)],zQ (zr [zN 2] [2]) (zQ (zr [zm 3 0,zo 4 (.lenS (zt 3)),zc 5 dZ [zt 4],zm 6 0,zo 7 (.apS (zt 5) (zt 6)),zm 2 7] [0,7,6,5,4,3]) .ret)⟩
theorem aLK:aB prog zW []=some aJJ:=by kernel_rfl
end
section
def aCl:Nat->Nat->List Nat
 | 0,k=>[k]
 | n+1,k=>if 127<k then (k%128+128)::aCl n (k/128) else [k]
def jL (k:Nat):List Nat:=aCl 9 k
def zig (n:Int):Nat:=if n<0 then (2*(-(n+1))+1).toNat else (2*n).toNat
theorem aOj {n:Int} (h1:-9223372036854775808<=n) (h2:n<=9223372036854775807):zig n<18446744073709551616:=by unfold zig;split<;>omega
def cB (n:Int):List Nat:=jL (zig n)
theorem aTw:∀ (n k:Nat),k<2*128^n->okB (aCl n k)
 | 0,k,h=>fun x hx=>by simp [aCl] at hx;subst hx;simp at h;omega
 | n+1,k,h=>by
  simp only [aCl]
  split
  ·intro x hx
   rcases List.mem_cons.1 hx with rfl | hx
   ·omega
   ·exact aTw n (k/128) (by rw [Nat.pow_succ] at h;omega) x hx
  ·intro x hx
   simp at hx;subst hx;omega
theorem aPR:∀ (n k:Nat),(aCl n k).length<=n+1
 | 0,k=>by simp [aCl]
 | n+1,k=>by
  simp only [aCl]
  split
  ·have:=aPR n (k/128);simp;omega
  ·simp
theorem aC9 {k:Nat} (h:k<18446744073709551616):okB (jL k):=aTw 9 k (by omega)
theorem iR (k:Nat):(jL k).length<=10:=aPR 9 k
theorem aCa (x:Nat) (h:x<256):IntKind.u8.wrap (x:Int)=(x:Int):=by simp [IntKind.wrap,IntKind.bits,IntKind.signed];omega
section
variable {G:Nat->Option (List AV)}
set_option maxHeartbeats 4000000
theorem cC (n:Int):(cB n).length<=10:=iR _
theorem aAd {n:Int} (h1:-9223372036854775808<=n) (h2:n<=9223372036854775807):okB (cB n):=aC9 (aOj h1 h2)
def idB (a b:Int) (c:Nat):List Nat:=cB a++cB b++jL c
def aTx (lab b:List Nat):Fq:=sG lab (dG b++[b.length])
def aDw (lab ns:List Nat):Nat:=1+(sG lab ns).val%2305843009213693949
theorem aEz (lab ns:List Nat):1<=aDw lab ns/\aDw lab ns<=2305843009213693949:=by unfold aDw;omega
theorem aN0 (S:ByteArray) (lab ns:List Nat) (hS:iG S=bl lab) (hs:S.size=lab.length) (hb:okB lab) (hl:lab.length<=1000) (hn:∀ n∈ns,n<18446744073709551616) (hnl:ns.length<=10000000):aD prog G mD [.v (.string S),.ls 1 (ul ns)] [] fun r T'=>r=.v (.int .u64 ((aDw lab ns:Nat):Int))/\T'=[]:=by
 refine aF aAA (by decide) ?_
 unfold aAc
 dsimp only [zj,zT,zF,zC,zE,zP,zQ,zq,zA,zm,zo,zs,zg,zh,zl,zv,zf,zi,zn,zb,zc,ze,zk,zw,zu,zt,zr,zR,zK,zN,zS,z0,zU]
 have hlt:=aEz lab ns
 have r1:aU .rem (fu (sG lab ns)) (.int .u64 2305843009213693949)=some (.int .u64 (((sG lab ns).val%2305843009213693949:Nat):Int)):=qE _ 2305843009213693949 (by decide)
 have a1:aU .add (.int .u64 1) (.int .u64 (((sG lab ns).val%2305843009213693949:Nat):Int))=some (.int .u64 ((aDw lab ns:Nat):Int)):=cY 1 _ (by unfold aDw at hlt;omega)
 simp only [go_sem,↓reduceIte]
 refine aC (aA _) rfl (aWW S lab ns hS hs hb hl hn hnl) rfl ?_
 simp only [go_sem,↓reduceIte,↓r1,↓a1]
end
end
end Hud
