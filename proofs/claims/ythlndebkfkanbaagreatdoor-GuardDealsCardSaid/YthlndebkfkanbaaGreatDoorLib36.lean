import Derived.Test.YthlndebkfkanbaaGreatDoorLib35
set_option linter.all false
namespace Hud
open Go
section
open Go.Proofs.Tryz
abbrev nl (l:List Nat):List (List AV):=l.map fun n:Nat=>[iv (n:Int)]
theorem aBP (l:List Nat) (i:Nat) (h:i<l.length):(nl l)[i]?=some [.v (.int .i64 ((l.getD i 0:Nat):Int))]:=by
 simp only [nl,List.getElem?_map,List.getElem?_eq_getElem h,Option.map_some,List.getD_eq_getElem?_getD,Option.getD_some]
theorem aZW (l:List Nat) (i j:Nat):((nl l).set i [.v (.int .i64 ((l.getD j 0:Nat):Int))]).set j [.v (.int .i64 ((l.getD i 0:Nat):Int))]=nl (aBo l i j):=by
 simp only [nl,aBo,List.map_set]
theorem bDI (l:List Nat) (i j:Nat) (x:Value) (hj:j<l.length):∃ y,((nl l).set i [.v x])[j]?=some [.v y]:=by
 rw [List.getElem?_set]
 split
 ·exact ⟨x,by rw [if_pos (by rw [List.length_map];omega)]⟩
 ·exact ⟨_,aBP l j hj⟩
section
variable {G:Nat->Option (List AV)}
set_option maxHeartbeats 4000000
theorem aZX (x:Nat):aD prog G fT [.v (.int .i64 ((x:Nat):Int))] [] fun r T'=>r=.v (.bool false)/\T'=[]:=by
 refine aF uO (by decide) ?_
 unfold sC
 dsimp only [zj,zT,zF,zC,zE,zP,zQ,zq,zA,zm,zo,zs,zg,zh,zl,zv,zf,zi,zn,zb,zc,ze,zk,zw,zu,zt,zr,zR,zK,zN,zS,z0,zU]
 simp only [go_sem,↓reduceIte,bne_self_eq_false]
theorem bBW (x y:Nat):aD prog G pG [.v (.int .i64 ((x:Nat):Int)),.v (.int .i64 ((y:Nat):Int))] [] fun r T'=>r=.v (.bool (decide ((x:Int)<(y:Int))))/\T'=[]:=by
 refine aF aER (by decide) ?_
 unfold aBD
 dsimp only [zj,zT,zF,zC,zE,zP,zQ,zq,zA,zm,zo,zs,zg,zh,zl,zv,zf,zi,zn,zb,zc,ze,zk,zw,zu,zt,zr,zR,zK,zN,zS,z0,zU]
 simp only [go_sem,↓reduceIte]
 refine aC (aA _) rfl (aZX x) rfl ?_
 simp only [go_sem,↓reduceIte]
abbrev aGg (l:List Nat) (K:AV->List Nat->Prop):AV->Tab->Prop:=fun r T'=>∃ l',K r l'/\T'=[some (.arr 1 (nl l'))]
theorem bDJ (l:List Nat) (a b:Nat) (hab:a<=b) (hb:b<=l.length) (hl:l.length<=1000000000) :
  aD prog G dP [.own 0,.v (.int .i64 (a:Int)),.v (.int .i64 (b:Int))] [some (.arr 1 (nl l))] (aGg l fun _ l'=>PR a b l l'/\SR a b l'):=by
 refine aF mV (by decide) ?_
 unfold iF
 dsimp only [zj,zT,zF,zC,zE,zP,zQ,zq,zA,zm,zo,zs,zg,zh,zl,zv,zf,zi,zn,zb,zc,ze,zk,zw,zu,zt,zr,zR,zK,zN,zS,z0,zU]
 have wa:IntKind.i64.wrap ((a:Int)+1)=((a+1:Nat):Int):=aH (by omega)
 simp only [go_sem,↓reduceIte,wa]
 refine fS (fun n s=>∃ (i:Nat) (l':List Nat),n=b-i/\a<i/\i<=max b (a+1)/\PR a b l l'/\SR a i l'/\s=⟨1,[(0,.own 0),(1,.v (.int .i64 (a:Int))),(2,.v (.int .i64 (b:Int))),(6,.v (.int .i64 (i:Int)))],[some (.arr 1 (nl l'))]⟩) (b-(a+1))
  ⟨a+1,l,rfl,by omega,by omega,PR.refl a b l,SR.small (by omega),by simp only [go_sem,↓reduceIte]⟩ ?_
 rintro n s ⟨i,l1,hn,hai,hib,hp,hs,rfl⟩
 have hl1:=hp.1
 by_cases hi:i<b
 ·simp only [go_sem,↓reduceIte,bQ hi]
  refine fS (fun m s=>∃ (l2:List Nat),a<=m/\m<=i/\PR a b l l2/\(∀ p q,a<=p->p<q->q<=i->q≠m->l2.getD p 0<=l2.getD q 0)/\s=⟨1,[(0,.own 0),(1,.v (.int .i64 (a:Int))),(2,.v (.int .i64 (b:Int))),(6,.v (.int .i64 (i:Int))),(7,.v (.int .i64 (m:Int)))],[some (.arr 1 (nl l2))]⟩) i
   ⟨l1,by omega,Nat.le_refl _,hp,aWR hs,by simp only [go_sem,↓reduceIte]⟩ ?_
  rintro j s ⟨l2,haj,hji,hp2,hs2,rfl⟩
  have hl2:=hp2.1
  have wi:=aH (show i<9223372036854775807 by omega)
  by_cases hj:a<j
  ·have w1:IntKind.i64.wrap ((j:Int)-1)=((j-1:Nat):Int):=by rw [aM (by omega) (by omega)];omega
   have g1:=aBP l2 j (by omega)
   have g2:=aBP l2 (j-1) (by omega)
   have e1:decide ((j:Int)>(a:Int))=true:=by simpa using hj
   simp only [go_sem,↓reduceIte,e1,List.length_map,show j<l2.length by omega,show j-1<l2.length by omega,w1,g1,g2]
   refine aC (aA _) rfl (bBW _ _) rfl ?_
   simp only [go_sem,↓reduceIte,e1,List.length_map,show j<l2.length by omega,show j-1<l2.length by omega,w1,g1,g2]
   refine bM (fun hc=>?_) (fun hc=>?_)
   ·have hlt:l2.getD j 0<l2.getD (j-1) 0:=by simpa using hc
    obtain ⟨y,g3⟩:=bDI l2 j (j-1) (.int .i64 ((l2.getD (j-1) 0:Nat):Int)) (by omega)
    simp only [go_sem,↓reduceIte,List.length_map,List.length_set,show j<l2.length by omega,show j-1<l2.length by omega,w1,g1,g2,g3,aZW]
    exact ⟨j-1,by omega,aBo l2 j (j-1),by omega,by omega,hp2.trans (aWP (by omega) (by omega) (by omega) (by omega) (by omega)),aWQ (by omega) hj hji hs2 hlt,rfl⟩
   ·have hlt:l2.getD (j-1) 0<=l2.getD j 0:=by simpa using hc
    simp only [go_sem,↓reduceIte,wi]
    exact ⟨b-(i+1),by omega,i+1,l2,rfl,by omega,by omega,hp2,aPP hji hs2 (.inr hlt),rfl⟩
  ·have e1:decide ((j:Int)>(a:Int))=false:=by simpa using hj
   simp only [go_sem,↓reduceIte,e1,wi]
   exact ⟨b-(i+1),by omega,i+1,l2,rfl,by omega,by omega,hp2,aPP hji hs2 (.inl (by omega)),rfl⟩
 ·simp only [go_sem,↓reduceIte,bV hi]
  exact ⟨l1,⟨hp,fun p q h1 h2 h3=>hs p q h1 h2 (by omega)⟩,rfl⟩
theorem bDK (l:List Nat) (k:Int) (hl:l.length<=12):aD prog G cA [.own 0,iv 0,iv l.length,iv k] [some (.arr 1 (nl l))] (aGg l fun _ l'=>PR 0 l.length l l'/\SR 0 l.length l'):=by
 refine aF qM (by decide) ?_
 unfold lG
 dsimp only [zj,zT,zF,zC,zE,zP,zQ,zq,zA,zm,zo,zs,zg,zh,zl,zv,zf,zi,zn,zb,zc,ze,zk,zw,zu,zt,zr,zR,zK,zN,zS,z0,zU]
 have w0:IntKind.i64.wrap ((l.length:Int)-0)=(l.length:Int):=by rw [aM (by omega) (by omega)];omega
 have hd:decide ((l.length:Int)<=12)=true:=decide_eq_true (by omega)
 simp only [go_sem,↓reduceIte]
 refine fS (fun m s=>s=⟨1,[(0,.own 0),(1,iv 0),(2,iv l.length),(3,iv k),(8,.v (.bool true)),(9,.v (.bool true))],[some (.arr 1 (nl l))]⟩) 0 ?_ ?_
 ·simp only [go_sem,↓reduceIte]
 rintro m s rfl
 simp only [go_sem,↓reduceIte,w0,hd]
 refine aG (args2:=[.own 0,iv (0:Nat),iv l.length]) (T2:=[some (.arr 1 (nl l))]) [0] (aA _) (by decide) (by simp) rfl (by simp only [go_sem,↓reduceIte]) (bDJ l 0 l.length (Nat.zero_le _) (Nat.le_refl _) (by omega)) ?_
 rintro r T' ⟨l2,hp,rfl⟩
 simp only [go_sem,↓reduceIte]
 exact ⟨l2,hp,rfl⟩
theorem bBX (l:List Nat) (hl:l.length<=12):aD prog G kE [.own 0] [some (.arr 1 (nl l))] (aGg l fun _ l'=>l'.Perm l/\l'.Pairwise (· <= ·)):=by
 refine aF uZ (by decide) ?_
 unfold pP
 dsimp only [zj,zT,zF,zC,zE,zP,zQ,zq,zA,zm,zo,zs,zg,zh,zl,zv,zf,zi,zn,zb,zc,ze,zk,zw,zu,zt,zr,zR,zK,zN,zS,z0,zU]
 simp only [go_sem,↓reduceIte,List.length_map,aS l.length (by omega)]
 refine gL (aA _) rfl (bDH l.length (by omega)) ?_
 rintro r T' ⟨⟨k,hr,h1,h2,h3⟩,hT⟩
 subst hr
 subst hT
 simp only [go_sem,↓reduceIte]
 refine aG (T2:=[some (.arr 1 (nl l))]) [0] (aA _) (by decide) (by simp) rfl (by simp only [go_sem,↓reduceIte]) (bDK l k hl) ?_
 rintro r T' ⟨l2,⟨hp,hs⟩,hT⟩
 subst hT
 simp only [go_sem,↓reduceIte]
 refine ⟨l2,⟨hp.2.2,aQX ?_⟩,rfl⟩
 rw [hp.1];exact hs
end
end
section
open Go.Proofs.Tryz
section
variable {G:Nat->Option (List AV)}
set_option maxHeartbeats 4000000
theorem aYl (l:List Nat):aD prog G iY [nns l] [] fun r T=>r=.cl bH [.ptr 0 0]/\T=[some (.box [nns l])]:=by
 refine aF sV (by decide) ?_
 unfold nE
 dsimp only [zj,zT,zF,zC,zE,zP,zQ,zq,zA,zm,zo,zs,zg,zh,zl,zv,zf,zi,zn,zb,zc,ze,zk,zw,zu,zt,zr,zR,zK,zN,zS,z0,zU]
 simp only [go_sem,↓reduceIte]
theorem aQY (l:List Nat) (hl:l.length<=1000000):aD prog G gA [.v (.slice none 0 0),.cl bH [.ptr 0 0]] [some (.box [nns l])] fun r T'=>r=.own 1/\T'=[some (.box [nns l]),some (.arr 1 (nl l))]:=by
 refine aF pS (by decide) ?_
 unfold kP
 dsimp only [zj,zT,zF,zC,zE,zP,zQ,zq,zA,zm,zo,zs,zg,zh,zl,zv,zf,zi,zn,zb,zc,ze,zk,zw,zu,zt,zr,zR,zK,zN,zS,z0,zU]
 simp only [go_sem,↓reduceIte]
 refine aJ9 rfl (pZ jX) fun r k1 k2 hy hyR=>?_
 simp only [go_sem,↓reduceIte]
 refine aA8 [0,1,2,3] (aA _) (by decide) (fun i hi=>by simp at hi ⊢;omega) rfl rfl (aF jX (by decide) ?_)
 unfold lR
 dsimp only [zj,zT,zF,zC,zE,zP,zQ,zq,zA,zm,zo,zs,zg,zh,zl,zv,zf,zi,zn,zb,zc,ze,zk,zw,zu,zt,zr,zR,zK,zN,zS,z0,zU]
 simp only [go_sem,↓reduceIte,List.length_map]
 refine aL l.length (fun i=>⟨4,[(0,.yl 3),(5,nns l),(6,iv l.length),(7,iv i)],if i=0 then [some (.box [nns l]),some (.box [.own 2]),some (.arr 1 (nl (l.take i))),some (.lp r [(2,.ptr 1 0)])] else [some (.box [nns l]),some (.box [.own 4]),none,some (.lp r [(2,.ptr 1 0)]),some (.arr 1 (nl (l.take i)))]⟩) (fun _=>True) ?_ trivial ?_ ?_
 ·simp only [go_sem,↓reduceIte,List.take_zero,List.map_nil]
 ·intro i hi _
  have ws:=aH (show i<9223372036854775807 by omega)
  have g0:(l.map fun n:Nat=>[iv (n:Int)])[i]?=some [iv (l[i]:Int)]:=aX _ l i hi
  have ft:=List.take_succ_eq_append_getElem hi
  have hlt:(l.take i).length=i:=by rw [List.length_take];omega
  rcases Nat.eq_zero_or_pos i with rfl | hi0
  ·have hd0:decide ((0:Int)<(l.length:Int))=true:=decide_eq_true (by omega)
   simp only [go_sem,↓reduceIte,hd0,g0,List.length_map,hi,List.take_zero,List.map_nil]
   refine hy _ _ _ _ _ rfl rfl ?_
   simp only [go_sem,↓reduceIte,List.length_nil,Nat.zero_add,show 1<=maxLen by decide,show 1*8<=140737488355328 by decide,ws,ft,List.take_zero,List.nil_append,List.map_cons,List.map_nil,show ¬1=0 by decide]
  ·have hne:¬i=0:=by omega
   simp only [go_sem,↓reduceIte,bQ hi,g0,List.length_map,hi,hne]
   refine hy _ _ _ _ _ rfl rfl ?_
   simp only [go_sem,↓reduceIte,List.length_map,List.length_take,show min i l.length=i by omega,show i+1<=maxLen by unfold maxLen;omega,show (i+1)*8<=140737488355328 by omega,ws,ft,List.map_append,show ¬i+1=0 by omega]
 intro _
 rcases Nat.eq_zero_or_pos l.length with h0 | h0
 ·have hd0:decide ((0:Int)<(0:Int))=false:=by decide
  obtain rfl:l=[]:=List.eq_nil_of_length_eq_zero h0
  simp only [go_sem,↓reduceIte,hd0,List.length_nil,List.take_nil,List.map_nil,k1,k2,aUR]
 ·simp only [go_sem,↓reduceIte,bV (Nat.lt_irrefl _),List.length_map,show ¬l.length=0 by omega,List.take_length,k1,k2,aUR]
theorem aVJ (l:List Nat) (hl:l.length<=1000000):aD prog G lP [.cl bH [.ptr 0 0]] [some (.box [nns l])] fun r T'=>r=.own 1/\T'=[some (.box [nns l]),some (.arr 1 (nl l))]:=by
 refine aF yE (by decide) ?_
 unfold rM
 dsimp only [zj,zT,zF,zC,zE,zP,zQ,zq,zA,zm,zo,zs,zg,zh,zl,zv,zf,zi,zn,zb,zc,ze,zk,zw,zu,zt,zr,zR,zK,zN,zS,z0,zU]
 simp only [go_sem,↓reduceIte]
 refine aG (T2:=[some (.box [nns l])]) [0] (aA _) (by decide) (by simp) rfl (by simp only [go_sem,↓reduceIte]) (aQY l hl) ?_
 rintro r T' ⟨rfl,rfl⟩
 simp only [go_sem,↓reduceIte]
theorem aYm (l:List Nat) (hl:l.length<=12):aD prog G mN [.cl bH [.ptr 0 0]] [some (.box [nns l])] fun r T'=>∃ l':List Nat,(l'.Perm l/\l'.Pairwise (· <= ·))/\r=.own 1/\T'=[some (.box [nns l]),some (.arr 1 (nl l'))]:=by
 refine aF aAi (by decide) ?_
 unfold sL
 dsimp only [zj,zT,zF,zC,zE,zP,zQ,zq,zA,zm,zo,zs,zg,zh,zl,zv,zf,zi,zn,zb,zc,ze,zk,zw,zu,zt,zr,zR,zK,zN,zS,z0,zU]
 simp only [go_sem,↓reduceIte]
 refine aG (T2:=[some (.box [nns l])]) [0] (aA _) (by decide) (by simp) rfl (by simp only [go_sem,↓reduceIte]) (aVJ l (by omega)) ?_
 rintro r T' ⟨rfl,rfl⟩
 simp only [go_sem,↓reduceIte]
 refine aG (T2:=[some (.arr 1 (nl l))]) [1] (aA _) (by decide) (by simp) rfl (by simp only [go_sem,↓reduceIte]) (bBX l hl) ?_
 rintro r T' ⟨l2,hp,rfl⟩
 simp only [go_sem,↓reduceIte]
 exact ⟨l2,hp,rfl⟩
end
end
section
open Go.Proofs.Tryz
section
variable {G:Nat->Option (List AV)}
set_option maxHeartbeats 2000000
theorem bBY (l:List Nat) (i n:Nat):(nl l).set i [.v (.int .i64 (n:Int))]=nl (l.set i n):=by simp only [nl,List.map_set]
def aU8 (l:List Nat) (r:AV) (T:Tab):Prop:=∃ (L:List Nat) (n:Nat),n<=L.length/\(L.take n).Pairwise (· < ·)/\(∀ z,z∈L.take n↔z∈l)/\((r=.own 0/\n=L.length)\/r=.vw 0 1 0 n)/\T=[some (.arr 1 (nl L))]
theorem aQZ {L:List Nat} {x:Nat} (h:L.Pairwise (· < ·)) (h2:∀ y∈L,y<x):(L++[x]).Pairwise (· < ·) :=
 List.pairwise_append.2 ⟨h,List.pairwise_singleton _ _,fun a ha b hb=>by rw [List.mem_singleton.1 hb];exact h2 a ha⟩
theorem aSN {l:List Nat} (hs:l.Pairwise (· <= ·)) {i j:Nat} (h:i<=j) (hj:j<l.length):l[i]<=l[j]:=by
 rcases Nat.lt_or_ge i j with h1 | h1
 ·exact List.pairwise_iff_getElem.1 hs i j (by omega) hj h1
 ·obtain rfl:i=j:=by omega
  exact Nat.le_refl _
theorem aFb {l:List Nat} (hs:l.Pairwise (· <= ·)) {j:Nat} (hj:j<l.length) {y:Nat} (hy:y∈l.take (j+1)):y<=l[j]:=by
 obtain ⟨i,hi,rfl⟩:=List.getElem_of_mem hy
 rw [List.length_take] at hi
 rw [List.getElem_take]
 exact aSN hs (by omega) hj
theorem aVK (l:List Nat) (hs:l.Pairwise (· <= ·)) (hl:l.length<=1000000):aD prog G iH [.own 0] [some (.arr 1 (nl l))] (aU8 l):=by
 refine aF rZ (by decide) ?_
 unfold mL
 dsimp only [zj,zT,zF,zC,zE,zP,zQ,zq,zA,zm,zo,zs,zg,zh,zl,zv,zf,zi,zn,zb,zc,ze,zk,zw,zu,zt,zr,zR,zK,zN,zS,z0,zU]
 by_cases h2:l.length<2
 ·simp only [go_sem,↓reduceIte,List.length_map,show decide (((l.length:Nat):Int)<2)=true from decide_eq_true (by omega)]
  refine ⟨l,l.length,Nat.le_refl _,?_,by simp,.inl ⟨rfl,rfl⟩,rfl⟩
  rw [List.take_length]
  match l,h2 with
  | [],_=>exact .nil
  | [x],_=>exact List.pairwise_singleton _ _
 have whole:(l.take l.length).Pairwise (· < ·)->aU8 l (.own 0) [some (.arr 1 (nl l))]:=fun h=>⟨l,l.length,Nat.le_refl _,h,by simp,.inl ⟨rfl,rfl⟩,rfl⟩
 simp only [go_sem,↓reduceIte,List.length_map,show decide (((l.length:Nat):Int)<2)=false from decide_eq_false (by omega)]
 refine fS (fun m s=>∃ k:Nat,m=l.length-k/\1<=k/\k<=l.length/\(l.take k).Pairwise (· < ·)/\s=⟨1,[(0,.own 0),(3,.v (.int .i64 (k:Int)))],[some (.arr 1 (nl l))]⟩) (l.length-1) ⟨1,rfl,Nat.le_refl _,by omega,?_,by simp only [go_sem,↓reduceIte]⟩ ?_
 ·match l with
  | []=>exact .nil
  | x::l=>simp
 rintro m s ⟨k,rfl,hk1,hk2,hp,rfl⟩
 have w1:IntKind.i64.wrap ((k:Int)-1)=((k-1:Nat):Int):=by rw [aM (by omega) (by omega)];omega
 by_cases hlt:k<l.length
 ·have g1:=aBP l k hlt
  have g2:=aBP l (k-1) (by omega)
  simp only [go_sem,↓reduceIte,List.length_map,bQ hlt,w1,hlt,show k-1<l.length by omega,g1,g2]
  have e1:l.getD k 0=l[k]:=by simp [List.getD_eq_getElem?_getD,hlt]
  have e2:l.getD (k-1) 0=l[k-1]:=by simp [List.getD_eq_getElem?_getD,show k-1<l.length by omega]
  rw [e1,e2]
  have hle:=aSN hs (show k-1<=k by omega) hlt
  have hmemk:∀ z,z∈l.take k->z<=l[k-1]:=fun z hz=>aFb hs (j:=k-1) (by omega) (by rw [show k-1+1=k by omega];exact hz)
  refine bM (fun h=>?_) (fun h=>?_)
  ·have heq:l[k]=l[k-1]:=by have:=eq_of_beq h;omega
   simp only [go_sem,↓reduceIte,List.length_map,Nat.min_self,show k<=l.length by omega,Nat.le_refl,Nat.zero_le]
   refine fS (fun m s=>∃ (i j:Nat) (L:List Nat),m=l.length-j/\1<=i/\i<j/\k+1<=j/\j<=l.length/\L.length=l.length/\(L.take i).Pairwise (· < ·)/\(∀ z,z∈L.take i↔z∈l.take j)/\L.drop (j-1)=l.drop (j-1) /\
    s=⟨1,[(0,.own 0),(3,.v (.int .i64 (i:Int))),(4,.vw 0 1 k (l.length-k)),(5,.v (.int .i64 ((j-k:Nat):Int)))],[some (.arr 1 (nl L))]⟩) (l.length-(k+1)) ⟨k,k+1,l,rfl,hk1,by omega,by omega,by omega,rfl,hp,fun z=>?_,rfl,?_⟩ ?_
   ·rw [List.take_succ_eq_append_getElem hlt,List.mem_append,List.mem_singleton]
    refine ⟨.inl,fun h=>h.elim id fun e=>?_⟩
    rw [e,heq]
    exact List.mem_take_iff_getElem.2 ⟨k-1,by omega,rfl⟩
   ·simp only [go_sem,↓reduceIte,show k+1-k=1 by omega]
   rintro m s ⟨i,j,L,rfl,hi1,hij,hkj,hj,hL,hLp,hLm,hLd,rfl⟩
   by_cases hlt2:j<l.length
   ·have hj1:L.getD j 0=l[j]:=by
     have:(L.drop (j-1))[1]?=(l.drop (j-1))[1]?:=by rw [hLd]
     rw [List.getElem?_drop,List.getElem?_drop,show j-1+1=j by omega,List.getElem?_eq_getElem hlt2] at this
     rw [List.getD_eq_getElem?_getD,this];rfl
    have hj2:L.getD (j-1) 0=l[j-1]:=by
     have:(L.drop (j-1))[0]?=(l.drop (j-1))[0]?:=by rw [hLd]
     rw [List.getElem?_drop,List.getElem?_drop,show j-1+0=j-1 by omega,List.getElem?_eq_getElem (show j-1<l.length by omega)] at this
     rw [List.getD_eq_getElem?_getD,this];rfl
    have g3:=aBP L j (by omega)
    have g4:=aBP L (j-1) (by omega)
    have w2:IntKind.i64.wrap (((j-k:Nat):Int)-1)=((j-k-1:Nat):Int):=by rw [aM (by omega) (by omega)];omega
    have t1:decide (((j-k:Nat):Int)<((l.length-k:Nat):Int))=true:=decide_eq_true (by omega)
    rw [hj1] at g3
    rw [hj2] at g4
    have dj:L.drop j=l.drop j:=by
     have:=congrArg (List.drop 1) hLd
     rwa [List.drop_drop,List.drop_drop,show j-1+1=j by omega] at this
    have hle2:=aSN hs (show j-1<=j by omega) hlt2
    simp only [go_sem,↓reduceIte,t1,w2,List.length_map,hL,show j-k<l.length-k by omega,show j-k-1<l.length-k by omega,show k+(j-k)=j by omega,show k+(j-k-1)=j-1 by omega,g3,g4]
    refine bM (fun h=>?_) (fun h=>?_)
    ·have hne:l[j]≠l[j-1]:=fun e=>by rw [e] at h;simp at h
     simp only [go_sem,↓reduceIte,t1,w2,List.length_map,hL,show j-k<l.length-k by omega,show k+(j-k)=j by omega,show i<l.length by omega,g3,aBP L i (by omega),aH (show i<9223372036854775807 by omega),aH (show j-k<9223372036854775807 by omega)]
     refine ⟨l.length-(j+1),by omega,i+1,j+1,L.set i l[j],rfl,by omega,by omega,by omega,by omega,by simpa using hL,?_,fun z=>?_,?_,?_⟩
     ·rw [List.take_succ_eq_append_getElem (by rw [List.length_set];omega),List.getElem_set_self,List.take_set_of_le (Nat.le_refl i)]
      refine aQZ hLp fun y hy=>?_
      have:=aFb hs (j:=j-1) (by omega) (y:=y) (by rw [show j-1+1=j by omega];exact (hLm y).1 hy)
      omega
     ·rw [List.take_succ_eq_append_getElem (by rw [List.length_set];omega),List.getElem_set_self,List.take_set_of_le (Nat.le_refl i),List.take_succ_eq_append_getElem hlt2,List.mem_append,List.mem_append,hLm]
     ·rw [Nat.add_sub_cancel,List.drop_set_of_lt (by omega),dj]
     ·rw [show j-k+1=j+1-k by omega,bBY]
    ·have hne:l[j]=l[j-1]:=by
      have h:(((l[j]:Nat):Int)!=((l[j-1]:Nat):Int))=false:=h
      simp at h
      omega
     simp only [go_sem,↓reduceIte,aH (show j-k<9223372036854775807 by omega)]
     refine ⟨l.length-(j+1),by omega,i,j+1,L,rfl,by omega,by omega,by omega,by omega,hL,hLp,fun z=>?_,?_,?_⟩
     ·rw [hLm,List.take_succ_eq_append_getElem hlt2,List.mem_append,List.mem_singleton]
      refine ⟨.inl,fun h=>h.elim id fun e=>?_⟩
      rw [e,hne]
      exact List.mem_take_iff_getElem.2 ⟨j-1,by omega,rfl⟩
     ·rw [Nat.add_sub_cancel,dj]
     ·rw [show j-k+1=j+1-k by omega]
   ·obtain rfl:j=l.length:=by omega
    rw [List.take_length] at hLm
    have t1:decide (((l.length-k:Nat):Int)<((l.length-k:Nat):Int))=false:=decide_eq_false (by omega)
    have hil:i<=l.length:=by omega
    simp only [go_sem,↓reduceIte,t1,List.length_map,hL,hil,show i+(l.length-i)=l.length by omega,List.length_replicate,List.length_take,List.length_drop,Nat.min_eq_left hil,Nat.sub_self]
    refine ⟨L.take i++List.replicate (l.length-i) 0,i,by simp;omega,?_,?_,.inr rfl,?_⟩
    ·rw [List.take_append_of_le_length (by simp;omega),List.take_take,Nat.min_self];exact hLp
    ·rw [List.take_append_of_le_length (by simp;omega),List.take_take,Nat.min_self];exact hLm
    ·simp only [nl,List.map_append,List.map_take,List.map_replicate,bAN]
     rw [List.drop_of_length_le (by simp;omega),List.append_nil]
  ·have hne:l[k]≠l[k-1]:=fun e=>by rw [e] at h;simp at h
   simp only [go_sem,↓reduceIte,aH (show k<9223372036854775807 by omega)]
   refine ⟨l.length-(k+1),by omega,k+1,rfl,by omega,by omega,?_,rfl⟩
   rw [List.take_succ_eq_append_getElem hlt]
   refine aQZ hp fun y hy=>?_
   have:=hmemk y hy
   omega
 ·obtain rfl:k=l.length:=by omega
  simp only [go_sem,↓reduceIte,List.length_map,bV hlt]
  exact whole hp
end
end
section
open Go.Proofs.Tryz
section
variable {G:Nat->Option (List AV)}
set_option maxHeartbeats 4000000
def lW (cs:List CardM) (l:List Int):List Nat:=l.map fun d=>(aV cs d).1.Keep
theorem aYn (g:PGM) (l:List Int) (hg:g.ok) (hl:l.length<=1000000):aD prog G qN [.ptr 0 0,nts l] (TG 0 g) fun r T =>
  ((l.all fun d=>(aV g.cards d).2)=true/\r=.tup [.own 3,iv 0]/\T=TG 0 g++[some (.arr 1 (ul (lW g.cards l)))])\/((l.all fun d=>(aV g.cards d).2)=false/\r=.tup [.own 3,iv 17]/\T=TG 0 g++[some (.arr 1 [])]):=by
 refine aF aG2 (by decide) ?_
 unfold aCO
 dsimp only [zj,zT,zF,zC,zE,zP,zQ,zq,zA,zm,zo,zs,zg,zh,zl,zv,zf,zi,zn,zb,zc,ze,zk,zw,zu,zt,zr,zR,zK,zN,zS,z0,zU]
 simp only [go_sem,↓reduceIte,TG,MG,List.length_map]
 refine aL l.length (fun i=>⟨3,[(0,.ptr 0 0),(6,.own 3),(11,nts l),(12,iv l.length),(13,iv i)],TG 0 g++[some (.arr 1 (ul (lW g.cards (l.take i))))]⟩) (fun i=>∀ j (hj:j<l.length),j<i->(aV g.cards l[j]).2=true) ?_ (fun j hj h=>by omega) ?_ ?_
 ·simp only [go_sem,↓reduceIte,TG,MG,List.take_zero,lW,List.map_nil]
 ·intro i hi hJ
  have g0:(l.map fun n=>[iv n])[i]?=some [iv l[i]]:=aX _ l i hi
  have ws:=aH (show i<9223372036854775807 by omega)
  have hf:=bAg (p:=fun d=>(aV g.cards d).2) hi
  have hs:=aTP (p:=fun d=>(aV g.cards d).2) hi hJ
  have hcard:=aU1 (G:=G) g l[i] hg.cn
  have eK:lW g.cards (l.take (i+1))=lW g.cards (l.take i)++[(aV g.cards l[i]).1.Keep]:=by unfold lW;rw [List.take_succ_eq_append_getElem hi,List.map_append];rfl
  have hlt:(lW g.cards (l.take i)).length=i:=by simp [lW];omega
  generalize lW g.cards (l.take (i+1))=K1 at *
  simp only [TG]
  generalize lW g.cards (l.take i)=K0 at *
  generalize aV g.cards l[i]=cd at *
  obtain ⟨c,b⟩:=cd
  simp only [go_sem,↓reduceIte,TG,MG,List.length_map,bQ hi,hi,g0]
  refine aG (T2:=TG 0 g) [0,1,2] (aA _) (by decide) (by simp) rfl (by simp only [go_sem,↓reduceIte,TG,MG]) hcard ?_
  rintro r T' ⟨rfl,rfl⟩
  simp only [go_sem,↓reduceIte,TG,MG,CardM.A_def]
  cases b
  ·simp only [go_sem,↓reduceIte,TG,MG]
   exact .inr (hf rfl)
  ·simp only [go_sem,↓reduceIte,TG,MG,List.length_map,hlt,eK,List.map_append,ws,show i+1<=maxLen by unfold maxLen;omega,show (i+1)*8<=140737488355328 by omega]
   exact hs rfl
 intro hJ
 simp only [go_sem,↓reduceIte,TG,MG,List.length_map,bV (Nat.lt_irrefl _),List.take_length]
 exact .inl (bAh (p:=fun d=>(aV g.cards d).2) (fun j hj _=>hJ j hj hj))
theorem aZY (g:PGM) (l:List Int) (hg:g.ok) (hl:l.length<=1000000):aD prog G qN [.ptr 0 0,nts l] (TG 0 g) fun r T =>
  ((l.all fun d=>(aV g.cards d).2)=true/\r=.tup [.ls 1 (ul (lW g.cards l)),iv 0]/\T=TG 0 g)\/((l.all fun d=>(aV g.cards d).2)=false/\r=.tup [.ls 1 [],iv 17]/\T=TG 0 g):=by
 refine (aYn g l hg hl).fin [3] ?_
 rintro r T' (⟨h,rfl,rfl⟩ | ⟨h,rfl,rfl⟩)
 ·simp only [go_sem,↓reduceIte,TG,MG]
  exact .inl h
 ·simp only [go_sem,↓reduceIte,TG,MG]
  exact .inr h
end
end
section
theorem aR0 {l:List Int}:∀ {n:Nat},pN l n=false->∃ i,i<n/\l.getD i 0∈l.take i
 | 0,h=>by simp [pN] at h
 | n+1,h=>by
  rw [pN,Bool.and_eq_false_iff] at h
  rcases h with h | h
  ·obtain ⟨i,h1,h2⟩:=aR0 h
   exact ⟨i,by omega,h2⟩
  ·exact ⟨n,by omega,by simpa using h⟩
theorem aYo {l M:List Int} (hM:M.Nodup) (hm:∀ z,z∈M↔z∈l):(M.length=l.length)↔pN l l.length=true:=by
 constructor
 ·intro hl
  cases hb:pN l l.length
  ·exfalso
   obtain ⟨i,hi,hd⟩:=aR0 hb
   have gd:l.getD i 0=l[i]:=by rw [List.getD_eq_getElem?_getD,List.getElem?_eq_getElem hi];rfl
   rw [gd] at hd
   have hs:M ⊆ l.take i++l.drop (i+1):=by
    intro z hz
    have hz2:=(hm z).1 hz
    obtain ⟨j,hj,rfl⟩:=List.getElem_of_mem hz2
    rw [List.mem_append]
    rcases Nat.lt_trichotomy j i with h | h | h
    ·exact .inl (List.mem_take_iff_getElem.2 ⟨j,by omega,rfl⟩)
    ·subst h;exact .inl hd
    ·refine .inr (List.mem_drop_iff_getElem.2 ⟨j-(i+1),by omega,?_⟩)
     congr 1;omega
   have:=hM.length_le_of_subset hs
   simp at this
   omega
  ·rfl
 ·intro hb
  have hn:l.Nodup:=by
   rw [List.Nodup,List.pairwise_iff_getElem]
   intro i j hi hj hij e
   have gd:l.getD j 0=l[j]:=by rw [List.getD_eq_getElem?_getD,List.getElem?_eq_getElem hj];rfl
   have:=aU7 hj (by rw [gd,<-e];exact List.mem_take_iff_getElem.2 ⟨i,by omega,rfl⟩)
   rw [hb] at this
   exact absurd this (by decide)
  exact ((List.perm_ext_iff_of_nodup hM hn).2 hm).length_eq
end
end Hud
