import Derived.Test.YthlndebkfkanbaaGreatDoorLib25
set_option linter.all false
namespace Hud
open Go Go.Proofs.Tryz
section
theorem tQ0 {G:Nat->Option (List AV)}:(evQ kI []).Ok prog G:=sD nN trivial
theorem bBH (G:Nat->Option (List AV)):aEZ prog G tL1:=⟨bZ tQ0 (bBx G) (by kernel_rfl),bZ tQ0 (bDh G) (by kernel_rfl),bZ tQ0 (bBC G) (by kernel_rfl),bZ (sD nN (show aEZ prog G tW1 from ⟨bZ tQ0 (aZA G) (by kernel_rfl),trivial⟩)) (bDn G) (by kernel_rfl),trivial⟩
theorem bBI (G:Nat->Option (List AV)):aEZ prog G tL2:=⟨bZ tQ0 (bBy G) (by kernel_rfl),bZ tQ0 (bDi G) (by kernel_rfl),bZ tQ0 (bBD G) (by kernel_rfl),bZ (sD nN (show aEZ prog G tW2 from ⟨bZ tQ0 (aZB G) (by kernel_rfl),trivial⟩)) (bDp G) (by kernel_rfl),trivial⟩
theorem bBJ (G:Nat->Option (List AV)):aEZ prog G tL3:=⟨bZ tQ0 (bBz G) (by kernel_rfl),bZ tQ0 (bDj G) (by kernel_rfl),bZ tQ0 (bBE G) (by kernel_rfl),bZ (sD nN (show aEZ prog G tW3 from ⟨bZ tQ0 (aZC G) (by kernel_rfl),trivial⟩)) (bDs G) (by kernel_rfl),trivial⟩
theorem bBK (G:Nat->Option (List AV)):aEZ prog G tL4:=⟨bZ tQ0 (bBA G) (by kernel_rfl),bZ tQ0 (bDk G) (by kernel_rfl),bZ tQ0 (bBF G) (by kernel_rfl),bZ (sD nN (show aEZ prog G tW4 from ⟨bZ tQ0 (aZD G) (by kernel_rfl),trivial⟩)) (bDv G) (by kernel_rfl),trivial⟩
theorem bBL (G:Nat->Option (List AV)):aEZ prog G tL5:=⟨bZ tQ0 (bBB G) (by kernel_rfl),bZ tQ0 (bDl G) (by kernel_rfl),bZ tQ0 (bBG G) (by kernel_rfl),bZ (sD nN (show aEZ prog G tW5 from ⟨bZ tQ0 (aZE G) (by kernel_rfl),trivial⟩)) (bDy G) (by kernel_rfl),trivial⟩
end
section
def uS (l:List Fq):List (Nat×Fq):=l.mapIdx fun i v=>(i+1,v)
theorem aSo (l:List Fq) (v:Fq):uS (l++[v])=uS l++[(l.length+1,v)]:=by simp [uS,List.mapIdx_append]
theorem aGc (l:List Fq):(uS l).length=l.length:=by simp [uS]
section
variable {G:Nat->Option (List AV)}
set_option maxHeartbeats 4000000
theorem bBM (d:Nat) (hd:d<=9223372036854775807):aD prog G aDa [iv d] [] fun r T=>r=uv (nU yF d)/\T=[]:=by
 refine aF aMb (by decide) ?_
 unfold aL3
 dsimp only [zj,zT,zF,zC,zE,zP,zQ,zq,zA,zm,zo,zs,zg,zh,zl,zv,zf,zi,zn,zb,zc,ze,zk,zw,zu,zt,zr,zR,zK,zN,zS,z0,zU]
 simp only [go_sem,↓reduceIte]
 refine aC (aA _) rfl (sW (bs [107,101,101,112]) yF d (by rfl) (by rfl) (by intro x hx;simp [yF] at hx;omega) (by decide) hd) rfl ?_
 simp only [go_sem,↓reduceIte]
theorem aZF (lab:List Nat) (d:Nat):nU lab d<18446744073709551616:=by
 have:=aEz lab [d]
 unfold nU;omega
theorem aVj (gs:List Nat) (B:List BX) (V:List Fq) (hB:B.length=gs.length) (hV:V.length=gs.length) (hl:gs.length<=1000) (hg:∀ g∈gs,g<=1000)
  (ho:∀ i (h:i<gs.length),aCR (nU yF gs[i]) B[i]=(V[i],0)) :
  aD prog G iN [nns gs,.ls 4 (B.map BX.A)] [] fun r T=>r=.tup [.own 0,.v (.bool true)]/\T=[some (.arr 2 ((uS V).map fW))]:=by
 refine aF aHN (by decide) ?_
 unfold aF0
 dsimp only [zj,zT,zF,zC,zE,zP,zQ,zq,zA,zm,zo,zs,zg,zh,zl,zv,zf,zi,zn,zb,zc,ze,zk,zw,zu,zt,zr,zR,zK,zN,zS,z0,zU]
 simp only [go_sem,↓reduceIte]
 refine aL gs.length (fun i=>⟨0,[(0,nns gs),(1,.ls 4 (B.map BX.A)),(6,.own 0),(7,iv i)],[some (.arr 2 ((uS (V.take i)).map fW))]⟩) (fun _=>True) ?_ trivial ?_ ?_
 ·simp only [go_sem,↓reduceIte]
  rfl
 ·intro i hi _
  have hd:decide (((i:Nat):Int)<(gs.length:Int))=true:=decide_eq_true (by omega)
  have hd2:decide (((i:Nat):Int)<(B.length:Int))=true:=decide_eq_true (by omega)
  have ws:=aH (show i<9223372036854775807 by omega)
  have wu:IntKind.u64.wrap ((i+1:Nat):Int)=((i+1:Nat):Int):=aS _ (by omega)
  have g0:(gs.map fun n:Nat=>[iv (n:Int)])[i]?=some [iv (gs[i]:Int)]:=by simp [hi]
  have g1:(B.map BX.A)[i]?=some (B[i].A):=by simp [hB,hi]
  have hiV:i<V.length:=by omega
  have hiB:i<B.length:=by omega
  have hlen:(uS (V.take i)).length=i:=by rw [aGc];simp;omega
  have hc:=aS1 (G:=G) (nU yF gs[i]) B[i] (aZF _ _)
  rw [ho i hi] at hc
  simp only [BX.A] at hc
  have hgi:=hg _ (List.getElem_mem hi)
  have e1:uS (V.take (i+1))=uS (V.take i)++[(i+1,V[i])]:=by
   rw [<-List.take_append_getElem hiV,aSo];simp;omega
  simp only [go_sem,↓reduceIte,List.length_map,hd,hd2,g0,g1,hi,hiB,BX.A]
  refine aC (aA _) rfl (bBM gs[i] (by omega)) rfl ?_
  simp only [go_sem,↓reduceIte,g1,BX.A]
  refine aC (aA _) rfl hc rfl ?_
  simp only [go_sem,↓reduceIte,ws,wu,List.length_map,hlen,e1,List.map_append,List.map_cons,List.map_nil,fW,show i+1<=maxLen by unfold maxLen;omega,show (i+1)*16<=140737488355328 by omega]
 ·intro _
  have hd:decide (((gs.length:Nat):Int)<(gs.length:Int))=false:=decide_eq_false (by omega)
  have hlen:(uS (V.take gs.length)).length=gs.length:=by rw [aGc];simp;omega
  have e1:V.take gs.length=V:=List.take_of_length_le (by omega)
  simp only [go_sem,↓reduceIte,List.length_map,hd,undef,e1,aGc,hV,beq_self_eq_true]
theorem aXH (gs:List Nat) (B:List BX) (V:List Fq) (hB:B.length=gs.length) (hV:V.length=gs.length) (hl:gs.length<=1000) (hg:∀ g∈gs,g<=1000)
  (ho:∀ i (h:i<gs.length),aCR (nU yF gs[i]) B[i]=(V[i],0)) :
  aD prog G iN [nns gs,.ls 4 (B.map BX.A)] [] fun r T=>r=.tup [shs (uS V),.v (.bool true)]/\T=[]:=by
 refine (aVj gs B V hB hV hl hg ho).fin [0] ?_
 rintro r T' ⟨rfl,rfl⟩
 simp only [go_sem,↓reduceIte,List.length_nil]
def yN (l:List Int):List Nat:=(l.take 7).map fun n=>(kW n 8).toNat
theorem aNx (l:List Int):(yN l).length=min 7 l.length:=by simp [yN]
theorem aVk (l:List Int) (i:Nat) (hi:i<l.length) (h7:i<7):yN (l.take (i+1))=yN (l.take i)++[(kW l[i] 8).toNat]:=by
 simp only [yN,List.take_take,show min 7 (i+1)=i+1 by omega,show min 7 i=i by omega]
 rw [<-List.take_append_getElem hi,List.map_append];rfl
theorem aQB (l:List Int) (hl:l.length<=9223372036854775807) (hok:∀ x∈l,okN x):aD prog G zD [nts l] [] fun r T=>r=.own 0/\T=[some (.arr 1 ((yN l).map fun n:Nat=>[iv (n:Int)]))]:=by
 refine aF aM9 (by decide) ?_
 unfold aL1
 dsimp only [zj,zT,zF,zC,zE,zP,zQ,zq,zA,zm,zo,zs,zg,zh,zl,zv,zf,zi,zn,zb,zc,ze,zk,zw,zu,zt,zr,zR,zK,zN,zS,z0,zU]
 simp only [go_sem,↓reduceIte]
 refine aL (min 7 l.length) (fun i=>⟨0,[(0,nts l),(3,.own 0),(4,iv i)],[some (.arr 1 ((yN (l.take i)).map fun n:Nat=>[iv (n:Int)]))]⟩) (fun _=>True) ?_ trivial ?_ ?_
 ·simp only [go_sem,↓reduceIte]
  rfl
 ·intro i hi _
  have hi1:i<l.length:=by omega
  have hi2:i<7:=by omega
  have hd:decide (((i:Nat):Int)<(l.length:Int))=true:=decide_eq_true (by omega)
  have hd2:decide (((i:Nat):Int)<7)=true:=decide_eq_true (by omega)
  have ws:=aH (show i<9223372036854775807 by omega)
  have g0:(l.map fun n=>[iv n])[i]?=some [iv l[i]]:=by simp [hi1]
  have hat:=hok _ (List.getElem_mem hi1)
  have har:=yJ l[i] 8 (by omega)
  obtain ⟨k,hk⟩:∃ k:Nat,kW l[i] 8=k:=⟨(kW l[i] 8).toNat,by omega⟩
  have hlen:(yN (l.take i)).length=i:=by rw [aNx];simp;omega
  have e1:=aVk l i hi1 hi2
  rw [hk] at e1
  simp only [go_sem,↓reduceIte,List.length_map,hd,hd2,g0,hi1]
  refine aC (aA _) rfl (pJ l[i] 8 hat.1 hat.2 (by omega) (by omega)) rfl ?_
  simp only [go_sem,↓reduceIte,hk,ws,List.length_map,hlen,e1,List.map_append,List.map_cons,List.map_nil,Int.toNat_natCast,show i+1<=maxLen by unfold maxLen;omega,show (i+1)*8<=140737488355328 by omega]
 ·intro _
  have e1:yN (l.take (min 7 l.length))=yN l:=by
   simp only [yN,List.take_take]
   rcases Nat.le_total 7 l.length with h | h
   ·rw [Nat.min_eq_left h,Nat.min_self]
   ·rw [Nat.min_eq_right h,Nat.min_eq_right h,List.take_of_length_le (Nat.le_refl _),List.take_of_length_le h]
  rcases Nat.lt_or_ge 7 l.length with h | h
  ·have hm:min 7 l.length=7:=by omega
   have hd:decide ((7:Int)<(l.length:Int))=true:=decide_eq_true (by omega)
   have hd2:decide ((7:Int)<7)=false:=by decide
   rw [hm] at e1
   simp only [go_sem,↓reduceIte,List.length_map,hm,hd,hd2,e1]
  ·have hm:min 7 l.length=l.length:=by omega
   have hd:decide (((l.length:Nat):Int)<(l.length:Int))=false:=decide_eq_false (by omega)
   rw [hm] at e1
   simp only [go_sem,↓reduceIte,List.length_map,hm,hd,undef,e1]
theorem aSp (l:List Int) (hl:l.length<=9223372036854775807) (hok:∀ x∈l,okN x):aD prog G zD [nts l] [] fun r T=>r=nns (yN l)/\T=[]:=by
 refine (aQB l hl hok).fin [0] ?_
 rintro r T' ⟨rfl,rfl⟩
 simp only [go_sem,↓reduceIte,List.length_nil]
theorem aHp (B:List BX) (hl:B.length<=1000):aD prog G nJ [.ls 4 (B.map BX.A),.ls 4 (B.map BX.A)] [] fun r T=>r=.v (.bool true)/\T=[]:=by
 refine aF aDM (by decide) ?_
 unfold aAI
 dsimp only [zj,zT,zF,zC,zE,zP,zQ,zq,zA,zm,zo,zs,zg,zh,zl,zv,zf,zi,zn,zb,zc,ze,zk,zw,zu,zt,zr,zR,zK,zN,zS,z0,zU]
 simp only [go_sem,↓reduceIte,List.length_map,bne_self_eq_false]
 refine aL B.length (fun i=>⟨0,[(0,.ls 4 (B.map BX.A)),(1,.ls 4 (B.map BX.A)),(5,iv i)],[]⟩) (fun _=>True) ?_ trivial ?_ ?_
 ·simp only [go_sem,↓reduceIte]
 ·intro i hi _
  have hd:decide (((i:Nat):Int)<(B.length:Int))=true:=decide_eq_true (by omega)
  have ws:=aH (show i<9223372036854775807 by omega)
  have g1:(B.map BX.A)[i]?=some (B[i].A):=by simp [hi]
  simp only [go_sem,↓reduceIte,List.length_map,hd,g1,hi,BX.A,ws]
 ·intro _
  have hd:decide (((B.length:Nat):Int)<(B.length:Int))=false:=decide_eq_false (by omega)
  simp only [go_sem,↓reduceIte,List.length_map,hd]
end
end
section
def xE (ow:List Nat):List CardM:=ow.mapIdx fun i m=>yK (i+1) m
theorem aSq (ow:List Nat) (i:Nat) (h:i<ow.length):xE (ow.take (i+1))=xE (ow.take i)++[yK (i+1) ow[i]]:=by
 rw [<-List.take_append_getElem h]
 simp only [xE,List.mapIdx_append,List.mapIdx_cons,List.mapIdx_nil,List.length_take,Nat.zero_add]
 rw [show min i ow.length=i by omega]
theorem aSr (ow:List Nat):(xE ow).length=ow.length:=by simp [xE]
def gZ (n:Nat):Nat:=1+n%2305843009213693949
theorem aTX (n:Nat):1<=gZ n/\gZ n<=2305843009213693949:=by unfold gZ;omega
section
variable {G:Nat->Option (List AV)}
set_option maxHeartbeats 4000000
theorem sY (n:Nat) (hn:n<18446744073709551616):aD prog G fZ [uv n] [] fun r T=>r=uv (gZ n)/\T=[]:=by
 refine aF aAy (by decide) ?_
 unfold aAa
 dsimp only [zj,zT,zF,zC,zE,zP,zQ,zq,zA,zm,zo,zs,zg,zh,zl,zv,zf,zi,zn,zb,zc,ze,zk,zw,zu,zt,zr,zR,zK,zN,zS,z0,zU]
 have r1:aU .rem (.int .u64 (n:Int)) (.int .u64 2305843009213693949)=some (.int .u64 ((n%2305843009213693949:Nat):Int)):=qE _ 2305843009213693949 (by decide)
 have a1:aU .add (.int .u64 1) (.int .u64 ((n%2305843009213693949:Nat):Int))=some (.int .u64 ((gZ n:Nat):Int)):=cY 1 _ (by omega)
 simp only [go_sem,↓reduceIte,↓r1,↓a1]
theorem aZG (l:List Nat) (k:Nat) (hl:l.length<=9223372036854775807) (hk:k<=1000):aD prog G zG [.ls 1 (ul l),iv k] [] fun r T=>r=.own 0/\T=[some (.arr 1 (ul (l.take k)))]:=by
 refine aF aLI (by decide) ?_
 unfold aJC
 dsimp only [zj,zT,zF,zC,zE,zP,zQ,zq,zA,zm,zo,zs,zg,zh,zl,zv,zf,zi,zn,zb,zc,ze,zk,zw,zu,zt,zr,zR,zK,zN,zS,z0,zU]
 have lu:(ul (l.take k)).length<=1000:=by simp;omega
 by_cases h:k<l.length
 ·have h':((k:Int)<(l.length:Int)):=by omega
  have e1:(0:Int)<=(k:Int):=by omega
  have e2:0<=k/\k<=l.length:=by omega
  simp only [go_sem,↓reduceIte,List.length_map,h',e1,e2,Int.toNat_natCast,Nat.sub_zero,List.drop_zero,show min k l.length*8<=140737488355328 by omega,show min k l.length<=maxLen by unfold maxLen;omega,List.map_take]
 ·have h':¬((k:Int)<(l.length:Int)):=by omega
  have e1:(0:Int)<=(l.length:Int):=by omega
  have e2:0<=l.length/\l.length<=l.length:=by omega
  simp only [go_sem,↓reduceIte,List.length_map,h',e1,e2,Int.toNat_natCast,Nat.sub_zero,List.drop_zero,show l.length*8<=140737488355328 by omega,show l.length<=maxLen by unfold maxLen;omega,List.take_of_length_le (show l.length<=k by omega)]
theorem bBN (l:List Nat) (k:Nat) (hl:l.length<=9223372036854775807) (hk:k<=1000):aD prog G zG [.ls 1 (ul l),iv k] [] fun r T=>r=.ls 1 (ul (l.take k))/\T=[]:=by
 refine (aZG l k hl hk).fin [0] ?_
 rintro r T' ⟨rfl,rfl⟩
 simp only [go_sem,↓reduceIte,List.length_nil]
theorem aXI (ow:List Nat) (hl:ow.length<=1000):aD prog G lO [nns ow] [] fun r T=>r=.own 0/\T=[some (.arr 5 ((xE ow).map CardM.A))]:=by
 refine aF aBw (by decide) ?_
 unfold aBv
 dsimp only [zj,zT,zF,zC,zE,zP,zQ,zq,zA,zm,zo,zs,zg,zh,zl,zv,zf,zi,zn,zb,zc,ze,zk,zw,zu,zt,zr,zR,zK,zN,zS,z0,zU]
 simp only [go_sem,↓reduceIte]
 refine aL ow.length (fun i=>⟨0,[(0,nns ow),(3,.own 0),(4,iv i)],[some (.arr 5 ((xE (ow.take i)).map CardM.A))]⟩) (fun _=>True) ?_ trivial ?_ ?_
 ·simp only [go_sem,↓reduceIte]
  rfl
 ·intro i hi _
  have hd:decide (((i:Nat):Int)<(ow.length:Int))=true:=decide_eq_true (by omega)
  have ws:=aH (show i<9223372036854775807 by omega)
  have g0:(ow.map fun n:Nat=>[iv (n:Int)])[i]?=some [iv (ow[i]:Int)]:=by simp [hi]
  have hlen:(xE (ow.take i)).length=i:=by rw [aSr];simp;omega
  have e1:=aSq ow i hi
  have s1:=sW (G:=G) (bs [108,101,97,100]) aTG (i+1) (by rfl) (by rfl) (aDD (by decide)) (by decide) (by omega)
  have s2:=sW (G:=G) (bs [107,101,101,112]) yF (i+1) (by rfl) (by rfl) (aDD (by decide)) (by decide) (by omega)
  have s3:=sW (G:=G) (bs [115,105,103,110]) uL (i+1) (by rfl) (by rfl) (aDD (by decide)) (by decide) (by omega)
  have p1:=aG5 (G:=G) (nU aTG (i+1)) (iK _ _)
  have p2:=aG5 (G:=G) (nU yF (i+1)) (iK _ _)
  have p3:=aG5 (G:=G) (nU uL (i+1)) (iK _ _)
  simp only [go_sem,↓reduceIte,List.length_map,hd,g0,hi,ws]
  refine aC (aA _) rfl s1 rfl ?_
  simp only [go_sem,↓reduceIte,g0]
  refine aC (aA _) rfl p1 rfl ?_
  simp only [go_sem,↓reduceIte,g0]
  refine aC (aA _) rfl s2 rfl ?_
  simp only [go_sem,↓reduceIte,g0]
  refine aC (aA _) rfl p2 rfl ?_
  simp only [go_sem,↓reduceIte,g0]
  refine aC (aA _) rfl s3 rfl ?_
  simp only [go_sem,↓reduceIte,g0]
  refine aC (aA _) rfl p3 rfl ?_
  simp only [go_sem,↓reduceIte,List.length_map,hlen,e1,List.map_append,List.map_cons,List.map_nil,show i+1<=maxLen by unfold maxLen;omega,show (i+1)*40<=140737488355328 by omega]
  refine ⟨by simp only [g0],?_⟩
  rw [ws]
  simp only [CardM.A_def,yK,fu]
 ·intro _
  have hd:decide (((ow.length:Nat):Int)<(ow.length:Int))=false:=decide_eq_false (by omega)
  simp only [go_sem,↓reduceIte,List.length_map,hd,List.take_length]
theorem aZH (ow:List Nat) (hl:ow.length<=1000):aD prog G lO [nns ow] [] fun r T=>r=.ls 5 ((xE ow).map CardM.A)/\T=[]:=by
 refine (aXI ow hl).fin [0] ?_
 rintro r T' ⟨rfl,rfl⟩
 simp only [go_sem,↓reduceIte,List.length_nil]
end
end
section
abbrev uvs (W:List Nat):List AV:=W.map fun w=>uv w
def orW (W V:List Nat):List Nat:=List.zipWith (fun a b=>a ||| b) W V
def aMm (W:List Nat) (n:Nat):List Nat:=W.set (n/64) (W.getD (n/64) 0 ||| 2^(n%64))
def nG (W:List Nat) (n:Nat):Bool:=(W.getD (n/64) 0).testBit (n%64)
def okW (W:List Nat):Prop:=W.length=4/\∀ w∈W,w<18446744073709551616
theorem aQC (a b:Nat) (ha:a<18446744073709551616) (hb:b<18446744073709551616):aU .or (.int .u64 (a:Int)) (.int .u64 (b:Int))=some (.int .u64 ((a ||| b:Nat):Int)):=by
 have hc:a ||| b<18446744073709551616:=Nat.or_lt_two_pow (n:=64) ha hb
 have h1:(BitVec.ofInt IntKind.u64.bits (a:Int) ||| BitVec.ofInt IntKind.u64.bits (b:Int)).toNat=a ||| b:=by
  have ea:(BitVec.ofInt 64 (a:Int)).toNat=a:=by simp [BitVec.toNat_ofInt];omega
  have eb:(BitVec.ofInt 64 (b:Int)).toNat=b:=by simp [BitVec.toNat_ofInt];omega
  show (BitVec.ofInt 64 (a:Int) ||| BitVec.ofInt 64 (b:Int)).toNat=a ||| b
  rw [BitVec.toNat_or,ea,eb]
 simp only [aU,if_true,h1]
 rw [aS _ (by omega)]
theorem aNy (a b:Nat) (ha:a<18446744073709551616) (hb:b<18446744073709551616):aU .and (.int .u64 (a:Int)) (.int .u64 (b:Int))=some (.int .u64 ((a &&& b:Nat):Int)):=by
 have hc:a &&& b<=a:=Nat.and_le_left
 have h1:(BitVec.ofInt IntKind.u64.bits (a:Int) &&& BitVec.ofInt IntKind.u64.bits (b:Int)).toNat=a &&& b:=by
  have ea:(BitVec.ofInt 64 (a:Int)).toNat=a:=by simp [BitVec.toNat_ofInt];omega
  have eb:(BitVec.ofInt 64 (b:Int)).toNat=b:=by simp [BitVec.toNat_ofInt];omega
  show (BitVec.ofInt 64 (a:Int) &&& BitVec.ofInt 64 (b:Int)).toNat=a &&& b
  rw [BitVec.toNat_and,ea,eb]
 simp only [aU,if_true,h1]
 rw [aS _ (by omega)]
theorem aNz (x m:Nat) (h:m≠0) (hx:x<=9223372036854775807):aU .quo (.int .i64 (x:Int)) (.int .i64 (m:Int))=some (.int .i64 ((x/m:Nat):Int)):=by
 have h0:¬((m:Int)=0):=by omega
 have e:(x:Int).tdiv (m:Int)=((x/m:Nat):Int):=rfl
 have:x/m<=x:=Nat.div_le_self x m
 have h3:((x/m:Nat):Int)<=9223372036854775807:=by omega
 have h4:(-9223372036854775808:Int)<=((x/m:Nat):Int):=by have:=Int.natCast_nonneg (x/m);omega
 simp only [aU,if_true,h0,if_false,e]
 rw [aM h4 h3]
theorem aNA (x m:Nat) (h:m≠0):aU .rem (.int .i64 (x:Int)) (.int .i64 (m:Int))=some (.int .i64 ((x%m:Nat):Int)):=by
 have h0:¬((m:Int)=0):=by omega
 have e:(x:Int).tmod (m:Int)=((x%m:Nat):Int):=rfl
 simp only [aU,if_true,h0,if_false,e]
theorem aSs (k:Nat) (h:k<64):aU .shl (.int .u64 1) (.int .i64 (k:Int))=some (.int .u64 ((2^k:Nat):Int)):=by
 have h0:¬((k:Int)<0):=by omega
 have hm:min k 64=k:=by omega
 have h2:(2:Nat)^k<18446744073709551616:=Nat.lt_of_lt_of_le (Nat.pow_lt_pow_right (by decide) h) (by decide)
 have e:(1:Int)*2^(min (k:Int).toNat IntKind.u64.bits)=((2^k:Nat):Int):=by
  rw [Int.toNat_natCast,show IntKind.u64.bits=64 from rfl,hm,Int.one_mul];exact (Int.natCast_pow 2 k).symm
 simp only [aU,h0,if_false,e]
 rw [aS _ (by omega)]
theorem aVl (x k:Nat) (h:k<64) (hx:x<18446744073709551616):aU .shr (.int .u64 (x:Int)) (.int .i64 (k:Int))=some (.int .u64 ((x/2^k:Nat):Int)):=by
 have h0:¬((k:Int)<0):=by omega
 have hm:min k 64=k:=by omega
 have e:(x:Int).fdiv (2^(min (k:Int).toNat IntKind.u64.bits))=((x/2^k:Nat):Int):=by
  rw [Int.toNat_natCast,show IntKind.u64.bits=64 from rfl,hm,show ((2:Int)^k)=((2^k:Nat):Int) from (Int.natCast_pow 2 k).symm,Int.fdiv_eq_ediv_of_nonneg _ (Int.natCast_nonneg _)]
  rfl
 simp only [aU,h0,if_false,e]
theorem aXJ (W V:List Nat) (hl:V.length=W.length) (i:Nat) (h:i<W.length):(orW W V).take (i+1)++W.drop (i+1)=((orW W V).take i++W.drop i).set i (W.getD i 0 ||| V.getD i 0):=by
 have hol:(orW W V).length=W.length:=by unfold orW;rw [List.length_zipWith];omega
 have hlt:((orW W V).take i).length=i:=by rw [List.length_take];omega
 have e:(orW W V)[i]'(by omega)=W.getD i 0 ||| V.getD i 0:=by
  unfold orW
  rw [List.getElem_zipWith,List.getD_eq_getElem?_getD,List.getD_eq_getElem?_getD,List.getElem?_eq_getElem h,List.getElem?_eq_getElem (by omega)];rfl
 rw [List.take_succ_eq_append_getElem (by omega),List.append_assoc,e,List.drop_eq_getElem_cons h,List.set_append_right _ _ (by omega),hlt,Nat.sub_self]
 rfl
theorem aOT {W V:List Nat} (hW:okW W) (hV:okW V):okW (orW W V):=by
 refine ⟨by unfold orW;rw [List.length_zipWith,hW.1,hV.1];rfl,fun w hw=>?_⟩
 unfold orW at hw
 obtain ⟨i,hi,rfl⟩:=List.getElem_of_mem hw
 rw [List.getElem_zipWith]
 exact Nat.or_lt_two_pow (n:=64) (hW.2 _ (List.getElem_mem _)) (hV.2 _ (List.getElem_mem _))
theorem wM {W:List Nat} (hW:okW W) (i:Nat):W.getD i 0<18446744073709551616:=by
 rw [List.getD_eq_getElem?_getD]
 rcases Nat.lt_or_ge i W.length with h | h
 ·rw [List.getElem?_eq_getElem h];exact hW.2 _ (List.getElem_mem h)
 ·rw [List.getElem?_eq_none h];decide
theorem aTY {W:List Nat} (hW:okW W) (n:Nat):okW (aMm W n):=by
 refine ⟨by unfold aMm;rw [List.length_set,hW.1],fun w hw=>?_⟩
 unfold aMm at hw
 rcases List.mem_or_eq_of_mem_set hw with h | h
 ·exact hW.2 w h
 ·rw [h]
  exact Nat.or_lt_two_pow (n:=64) (wM hW _) (Nat.pow_lt_pow_right (by decide) (Nat.mod_lt _ (by decide)))
theorem aQD (x k:Nat):((((x/2^k &&& 1:Nat):Int))==1)=x.testBit k:=by
 rw [Nat.testBit,Nat.shiftRight_eq_div_pow,Nat.and_one_is_mod,Nat.and_comm,Nat.and_one_is_mod]
 rcases Nat.mod_two_eq_zero_or_one (x/2^k) with h | h<;>rw [h]<;>rfl
section
variable {G:Nat->Option (List AV)}
set_option maxHeartbeats 4000000
theorem aCe (W:List Nat) (i:Nat) (h:i<W.length):(uvs W)[i]?=some (uv (W.getD i 0)):=by
 rw [uvs,List.getElem?_map,List.getD_eq_getElem?_getD,List.getElem?_eq_getElem h];rfl
theorem aVm (W:List Nat) (n:Nat) (hW:okW W) (hn:n<256):aD prog G rS [.ptr 0 0,iv n] [some (.box (uvs W))] fun r T=>T=[some (.box (uvs (aMm W n)))]:=by
 refine aF aDB (by decide) ?_
 unfold aAF
 dsimp only [zj,zT,zF,zC,zE,zP,zQ,zq,zA,zm,zo,zs,zg,zh,zl,zv,zf,zi,zn,zb,zc,ze,zk,zw,zu,zt,zr,zR,zK,zN,zS,z0,zU]
 have q1:aU .quo (.int .i64 (n:Int)) (.int .i64 64)=some (.int .i64 ((n/64:Nat):Int)):=aNz n 64 (by decide) (by omega)
 have q2:aU .rem (.int .i64 (n:Int)) (.int .i64 64)=some (.int .i64 ((n%64:Nat):Int)):=aNA n 64 (by decide)
 have hm:n%64<64:=Nat.mod_lt _ (by decide)
 have hd:n/64<4:=by omega
 have s1:=aSs (n%64) hm
 have h2:(2:Nat)^(n%64)<18446744073709551616:=Nat.lt_of_lt_of_le (Nat.pow_lt_pow_right (by decide) hm) (by decide)
 have o1:=aQC (W.getD (n/64) 0) (2^(n%64)) (wM hW _) h2
 have g0:=aCe W (n/64) (by rw [hW.1];exact hd)
 have hl:=hW.1
 have p1:(0:Int)<=((n/64:Nat):Int):=by omega
 have p2:((n/64:Nat):Int)<4:=by omega
 have es:(uvs W).take (n/64)++[uv (W.getD (n/64) 0 ||| 2^(n%64))]++(uvs W).drop (n/64+1)=uvs (aMm W n):=by
  show _=(W.set (n/64) (W.getD (n/64) 0 ||| 2^(n%64))).map fun w=>uv w
  rw [List.map_set,List.set_eq_take_append_cons_drop,if_pos (by rw [List.length_map,hW.1];exact hd),List.append_assoc];rfl
 generalize n/64=a at *
 generalize n%64=b at *
 simp only [go_sem,↓reduceIte,↓q1,↓q2,↓s1,List.length_map,hl,p1,p2,hd,show a<=3 by omega,g0,↓o1,Nat.mul_one,Nat.zero_add,es]
theorem aZI {α:Type} (pre m post:List α) (i:Nat) (x:α) (h:i<m.length):(pre++(m++post)).take (pre.length+i)++[x]++(pre++(m++post)).drop (pre.length+i+1)=pre++(m.set i x++post):=by
 rw [List.take_length_add_append,show pre.length+i+1=pre.length+(i+1) from rfl,List.drop_length_add_append,List.take_append_of_le_length (by omega),List.drop_append_of_le_length (by omega),List.set_eq_take_append_cons_drop,if_pos h]
 simp only [List.append_assoc,List.cons_append,List.nil_append]
theorem aTZ {α:Type} (pre m post:List α) (i:Nat) (h:i<m.length):(pre++(m++post))[pre.length+i]?=m[i]?:=by
 rw [List.getElem?_append_right (by omega),Nat.add_sub_cancel_left,List.getElem?_append_left h]
theorem aHq (pre post:List AV) (p:Nat) (hp:pre.length=p) (W V:List Nat) (hW:okW W) (hV:okW V) (h1:fI pre=[]) (h2:fI post=[]):aD prog G jE [.ptr 0 p,.ag (uvs V)] [some (.box (pre++(uvs W++post)))] fun r T=>T=[some (.box (pre++(uvs (orW W V)++post)))]:=by
 refine aF aCq (by decide) ?_
 unfold yD
 dsimp only [zj,zT,zF,zC,zE,zP,zQ,zq,zA,zm,zo,zs,zg,zh,zl,zv,zf,zi,zn,zb,zc,ze,zk,zw,zu,zt,zr,zR,zK,zN,zS,z0,zU]
 have hl:=hW.1
 have hvl:=hV.1
 have hone:(uvs V).all gM=true:=by simp [uvs,gM]
 have hids:∀ X:List Nat,fI (uvs X)=[]:=fun X=>aMM _ X
 have hrn:∀ (L:List Nat) (X:List Nat),rnL L (pre++(uvs X++post))=pre++(uvs X++post):=fun L X=>wX (by simp only [aEr,h1,h2,hids,List.append_nil])
 have hid2:∀ X:List Nat,fI (pre++(uvs X++post))=[]:=fun X=>by simp only [aEr,h1,h2,hids,List.append_nil]
 have hrV:∀ (L:List Nat),rnL L (uvs V)=uvs V:=fun L=>wX (hids V)
 have hol:(orW W V).length=4:=by unfold orW;rw [List.length_zipWith];omega
 simp only [go_sem,↓reduceIte,hone]
 refine aL 4 (fun i=>⟨1,[(0,.ptr 0 p),(3,.ptr 1 0),(5,iv i)],[some (.box (pre++(uvs ((orW W V).take i++W.drop i)++post))),some (.box (uvs V))]⟩) (fun _=>True) ?_ trivial ?_ ?_
 ·simp only [go_sem,↓reduceIte,↓hid2,↓hids,↓hrn,↓hrV,List.take_zero]
 ·intro i hi _
  have ws:=aH (show i<9223372036854775807 by omega)
  have hX:((orW W V).take i++W.drop i).length=4:=by rw [List.length_append,List.length_take,List.length_drop,hol,hl];omega
  have gX:((orW W V).take i++W.drop i).getD i 0=W.getD i 0:=by
   rw [List.getD_eq_getElem?_getD,List.getElem?_append_right (by rw [List.length_take];omega),List.length_take,hol,show min i 4=i by omega,Nat.sub_self,List.getElem?_drop,Nat.add_zero,<-List.getD_eq_getElem?_getD]
  rw [aXJ W V (by omega) i (by omega)]
  have o1:=aQC (W.getD i 0) (V.getD i 0) (wM hW _) (wM hV _)
  have gv:=aCe V i (by omega)
  generalize (orW W V).take i++W.drop i=X at *
  have gx:=aCe X i (by omega)
  rw [gX] at gx
  have g0:=aTZ pre (uvs X) post i (by rw [List.length_map];omega)
  rw [gx,hp] at g0
  have es:=aZI pre (uvs X) post i (uv (W.getD i 0 ||| V.getD i 0)) (by rw [List.length_map];omega)
  rw [hp] at es
  have e2:(uvs X).set i (uv (W.getD i 0 ||| V.getD i 0))=uvs (X.set i (W.getD i 0 ||| V.getD i 0)):=by
   show _=(X.set i (W.getD i 0 ||| V.getD i 0)).map fun w=>uv w
   rw [List.map_set]
  rw [e2] at es
  have d1:decide ((i:Int)<4)=true:=decide_eq_true (by omega)
  have i1:(i:Int)<4:=by omega
  have hlen:p+i+1<=pre.length+(X.length+post.length):=by omega
  simp only [go_sem,↓reduceIte,d1,i1,Nat.mul_one,Nat.zero_add,g0,gv,↓o1,hlen,es,ws,↓hid2,↓hids,↓hrn,↓hrV]
 ·intro _
  rw [List.take_of_length_le (by omega),List.drop_of_length_le (by omega),List.append_nil]
  simp only [go_sem,↓reduceIte,↓hid2,↓hids,↓hrn,↓hrV]
theorem aSt (W V:List Nat) (hW:okW W) (hV:okW V):aD prog G jE [.ptr 0 0,.ag (uvs V)] [some (.box (uvs W))] fun r T=>T=[some (.box (uvs (orW W V)))]:=by
 have:=aHq (G:=G) [] [] 0 rfl W V hW hV rfl rfl
 simpa using this
theorem aVn (pre post:List AV) (p:Nat) (hp:pre.length=p) (W:List Nat) (n:Nat) (hW:okW W) (hn:n<256) (h1:fI pre=[]) (h2:fI post=[]):aD prog G rT [.ptr 0 p,iv n] [some (.box (pre++(uvs W++post)))] fun r T=>r=.v (.bool (nG W n))/\T=[some (.box (pre++(uvs W++post)))]:=by
 refine aF aDC (by decide) ?_
 unfold aAG
 dsimp only [zj,zT,zF,zC,zE,zP,zQ,zq,zA,zm,zo,zs,zg,zh,zl,zv,zf,zi,zn,zb,zc,ze,zk,zw,zu,zt,zr,zR,zK,zN,zS,z0,zU]
 have q1:aU .quo (.int .i64 (n:Int)) (.int .i64 64)=some (.int .i64 ((n/64:Nat):Int)):=aNz n 64 (by decide) (by omega)
 have q2:aU .rem (.int .i64 (n:Int)) (.int .i64 64)=some (.int .i64 ((n%64:Nat):Int)):=aNA n 64 (by decide)
 have hm:n%64<64:=Nat.mod_lt _ (by decide)
 have hd:n/64<4:=by omega
 have hx:=wM hW (n/64)
 have s1:=aVl (W.getD (n/64) 0) (n%64) hm hx
 have a1:aU .and (.int .u64 ((W.getD (n/64) 0/2^(n%64):Nat):Int)) (.int .u64 1)=some (.int .u64 ((W.getD (n/64) 0/2^(n%64) &&& 1:Nat):Int)):=aNy _ 1 (Nat.lt_of_le_of_lt (Nat.div_le_self _ _) hx) (by decide)
 have t1:=aQD (W.getD (n/64) 0) (n%64)
 have g0:=aTZ pre (uvs W) post (n/64) (by rw [List.length_map,hW.1];exact hd)
 rw [aCe W (n/64) (by rw [hW.1];exact hd),hp] at g0
 have p1:(0:Int)<=((n/64:Nat):Int):=by omega
 have p2:((n/64:Nat):Int)<4:=by omega
 have hids:∀ X:List Nat,fI (uvs X)=[]:=fun X=>aMM _ X
 have hrn:∀ (L:List Nat) (X:List Nat),rnL L (pre++(uvs X++post))=pre++(uvs X++post):=fun L X=>wX (by simp only [aEr,h1,h2,hids,List.append_nil])
 have hid2:∀ X:List Nat,fI (pre++(uvs X++post))=[]:=fun X=>by simp only [aEr,h1,h2,hids,List.append_nil]
 have hr:nG W n=(W.getD (n/64) 0).testBit (n%64):=rfl
 rw [hr,<-t1]
 clear t1 hr
 generalize n/64=a at *
 generalize n%64=b at *
 simp only [go_sem,↓reduceIte,↓q1,↓q2,↓s1,↓a1,p1,p2,g0,Nat.mul_one,Nat.zero_add,↓hid2,↓hids,↓hrn]
end
end
end Hud
section
namespace Hud
open Go Go.Proofs Go.Sort Go.Shelf
section
variable {P:Program} {α:Type} [Inhabited α] {enc:α->List Value} {k:Nat}
end
end Hud
end
