import Derived.Test.YthlndebkfkanbaaGreatDoorLib32
set_option linter.all false
namespace Hud
open Go
section
open Go.Proofs.Tryz
def aLs:List Nat:=[100,114,97,119]
def cU (seed:Nat) (said:List Nat) (k:Nat):Nat:=if k<=said.length then 1+said.getD (k-1) 0%2305843009213693949 else aDw aLs [seed%PP,k-said.length]
section
variable {G:Nat->Option (List AV)}
set_option maxHeartbeats 4000000
theorem aQT:okB aLs:=aDD (by decide)
theorem aFa (seed:Nat) (said:List Nat) (k:Nat) (hs:seed<18446744073709551616) (hl:∀ n∈said,n<18446744073709551616) (hn:said.length<=1000) (hk1:1<=k) (hk:k<=1000):aD prog G oV [uv seed,.ls 1 (ul said),iv k] [] fun r T=>r=uv (cU seed said k)/\T=[]:=by
 refine aF aAz (by decide) ?_
 unfold aAb
 dsimp only [zj,zT,zF,zC,zE,zP,zQ,zq,zA,zm,zo,zs,zg,zh,zl,zv,zf,zi,zn,zb,zc,ze,zk,zw,zu,zt,zr,zR,zK,zN,zS,z0,zU]
 simp only [go_sem,↓reduceIte,List.length_map]
 by_cases h:k<=said.length
 ·have hd:decide ((k:Int)<=(said.length:Int))=true:=decide_eq_true (by omega)
  obtain ⟨i,rfl⟩:∃ i,k=i+1:=⟨k-1,by omega⟩
  have w:IntKind.i64.wrap (((i+1:Nat):Int)-1)=(i:Int):=by rw [aM (by omega) (by omega)];omega
  have hi:i<said.length:=by omega
  have g0:(ul said)[i]?=some [uv said[i]]:=aX (fun n:Nat=>[uv n]) said i hi
  have hx:=hl _ (List.getElem_mem hi)
  have gd:said.getD i 0=said[i]:=by rw [List.getD_eq_getElem?_getD,List.getElem?_eq_getElem hi];rfl
  have e:cU seed said (i+1)=1+said[i]%2305843009213693949:=by rw [cU,if_pos h,Nat.add_sub_cancel,gd]
  have q1:aU .rem (.int .u64 ((said[i]:Nat):Int)) (.int .u64 2305843009213693949)=some (.int .u64 ((said[i]%2305843009213693949:Nat):Int)):=by
   simp only [aU,if_true]
   rfl
  have q2:aU .add (.int .u64 1) (.int .u64 ((said[i]%2305843009213693949:Nat):Int))=some (.int .u64 ((1+said[i]%2305843009213693949:Nat):Int)):=by
   have:IntKind.u64.wrap (1+((said[i]%2305843009213693949:Nat):Int))=((1+said[i]%2305843009213693949:Nat):Int):=by
    rw [show (1:Int)+((said[i]%2305843009213693949:Nat):Int)=((1+said[i]%2305843009213693949:Nat):Int) by omega]
    exact aS _ (by omega)
   simp only [aU,if_true,this]
  rw [e]
  simp only [go_sem,↓reduceIte,hd,w,g0,List.length_map,hi,↓q1,↓q2]
 ·have hd:decide ((k:Int)<=(said.length:Int))=false:=decide_eq_false (by omega)
  have e:cU seed said k=aDw aLs [seed%PP,k-said.length]:=by rw [cU,if_neg h]
  have q1:aU .rem (.int .u64 (seed:Int)) (.int .u64 2305843009213693951)=some (.int .u64 ((seed%PP:Nat):Int)):=by
   simp only [aU,if_true]
   rfl
  have w1:IntKind.i64.wrap ((k:Int)-(said.length:Int))=((k-said.length:Nat):Int):=by rw [aM (by omega) (by omega)];omega
  have w2:IntKind.u64.wrap ((k-said.length:Nat):Int)=((k-said.length:Nat):Int):=aS _ (by omega)
  rw [e]
  simp only [go_sem,↓reduceIte,hd,↓q1,List.length_map,w1,w2]
  refine bJ (aA _) rfl rfl (aN0 _ aLs [seed%PP,k-said.length] (by rfl) (by rfl) aQT (by decide) (fun n hn=>?_) (by simp)) ?_
  ·have:seed%PP<PP:=Nat.mod_lt _ (by decide)
   have hp:PP<18446744073709551616:=by decide
   simp at hn
   rcases hn with rfl | rfl<;>omega
  ·simp only [go_sem,↓reduceIte]
def TD (k0 seed:Nat) (said:List Nat) (used:Nat):Tab:=[some (.box [.cl oU [.ptr (k0+1) 0,.ptr (k0+2) 0,.ptr (k0+3) 0],iv used]),some (.box [.ptr k0 0]),some (.box [.ls 1 (ul said)]),some (.box [uv seed])]
theorem aQU (seed:Nat) (said:List Nat) (hn:said.length<=1000):aD prog G kA [uv seed,.ls 1 (ul said)] [] fun r T=>r=.ptr 0 0/\T=[some (.box [.cl oU [.ptr 1 0,.ptr 2 0,.ptr 3 0],iv 0]),some (.box [.ptr 0 0]),some (.box [.own 4]),some (.box [uv seed]),some (.arr 1 (ul said))]:=by
 refine aF aLL (by decide) ?_
 unfold aJK
 dsimp only [zj,zT,zF,zC,zE,zP,zQ,zq,zA,zm,zo,zs,zg,zh,zl,zv,zf,zi,zn,zb,zc,ze,zk,zw,zu,zt,zr,zR,zK,zN,zS,z0,zU]
 cases said with
 | nil =>
  simp only [go_sem,↓reduceIte,List.map_nil]
 | cons x l =>
  have e1:(l.length+1)*8<=140737488355328:=by simp at hn;omega
  have e2:l.length+1<=maxLen:=by simp at hn;unfold maxLen;omega
  simp only [go_sem,↓reduceIte,List.length_map,e1,e2]
theorem qK (seed:Nat) (said:List Nat) (hn:said.length<=1000):aD prog G kA [uv seed,.ls 1 (ul said)] [] fun r T=>r=.ptr 0 0/\T=TD 0 seed said 0:=by
 refine (aQU seed said hn).fin [4] ?_
 rintro r T' ⟨rfl,rfl⟩
 simp only [go_sem,↓reduceIte,TD,List.length_nil]
theorem aOZ (seed:Nat) (said:List Nat) (used:Nat) (hs:seed<18446744073709551616) (hl:∀ n∈said,n<18446744073709551616) (hn:said.length<=1000) (hu:used<=900):aD prog G oU [.ptr 1 0,.ptr 2 0,.ptr 3 0] (TD 0 seed said used) fun r T=>r=uv (cU seed said (used+1))/\T=TD 0 seed said (used+1):=by
 refine aF aHx (by decide) ?_
 unfold aEB
 dsimp only [zj,zT,zF,zC,zE,zP,zQ,zq,zA,zm,zo,zs,zg,zh,zl,zv,zf,zi,zn,zb,zc,ze,zk,zw,zu,zt,zr,zR,zK,zN,zS,z0,zU]
 have ws:=aH (show used<9223372036854775807 by omega)
 by_cases h:used+1<=said.length
 ·have hd:decide (((used+1:Nat):Int)<=(said.length:Int))=true:=decide_eq_true (by omega)
  have w:IntKind.i64.wrap (((used+1:Nat):Int)-1)=(used:Int):=by rw [aM (by omega) (by omega)];omega
  have hi:used<said.length:=by omega
  have g0:(ul said)[used]?=some [uv said[used]]:=aX (fun n:Nat=>[uv n]) said used hi
  have gd:said.getD used 0=said[used]:=by rw [List.getD_eq_getElem?_getD,List.getElem?_eq_getElem hi];rfl
  have e:cU seed said (used+1)=1+said[used]%2305843009213693949:=by rw [cU,if_pos h,Nat.add_sub_cancel,gd]
  have q1:aU .rem (.int .u64 ((said[used]:Nat):Int)) (.int .u64 2305843009213693949)=some (.int .u64 ((said[used]%2305843009213693949:Nat):Int)):=by
   simp only [aU,if_true]
   rfl
  have q2:aU .add (.int .u64 1) (.int .u64 ((said[used]%2305843009213693949:Nat):Int))=some (.int .u64 ((1+said[used]%2305843009213693949:Nat):Int)):=by
   have:IntKind.u64.wrap (1+((said[used]%2305843009213693949:Nat):Int))=((1+said[used]%2305843009213693949:Nat):Int):=by
    rw [show (1:Int)+((said[used]%2305843009213693949:Nat):Int)=((1+said[used]%2305843009213693949:Nat):Int) by omega]
    exact aS _ (by omega)
   simp only [aU,if_true,this]
  rw [e]
  simp only [go_sem,↓reduceIte,TD,ws,List.length_map,hd,w,g0,hi,↓q1,↓q2]
 ·have hd:decide (((used+1:Nat):Int)<=(said.length:Int))=false:=decide_eq_false (by omega)
  have e:cU seed said (used+1)=aDw aLs [seed%PP,used+1-said.length]:=by rw [cU,if_neg h]
  have q1:aU .rem (.int .u64 (seed:Int)) (.int .u64 2305843009213693951)=some (.int .u64 ((seed%PP:Nat):Int)):=by
   simp only [aU,if_true]
   rfl
  have w1:IntKind.i64.wrap (((used+1:Nat):Int)-(said.length:Int))=((used+1-said.length:Nat):Int):=by rw [aM (by omega) (by omega)];omega
  have w2:IntKind.u64.wrap ((used+1-said.length:Nat):Int)=((used+1-said.length:Nat):Int):=aS _ (by omega)
  rw [e]
  simp only [go_sem,↓reduceIte,TD,ws,List.length_map,hd,↓q1,w1,w2]
  refine bJ (aA _) rfl rfl (aV8 _ aLs [seed%PP,used+1-said.length] (by rfl) (by rfl) aQT (by decide) (by decide) (fun n hn=>?_) (by simp)) ?_
  ·have:seed%PP<PP:=Nat.mod_lt _ (by decide)
   have hp:PP<18446744073709551616:=by decide
   simp at hn
   rcases hn with rfl | rfl<;>omega
  ·simp only [go_sem,↓reduceIte]
theorem aYk (seed:Nat) (said:List Nat) (used:Nat) (hs:seed<18446744073709551616) (hl:∀ n∈said,n<18446744073709551616) (hn:said.length<=1000) (hu:used<=900):aD prog G lA [.ptr 0 0] (TD 0 seed said used) fun r T=>r=uv (cU seed said (used+1))/\T=TD 0 seed said (used+1):=by
 refine aF aBt (by decide) ?_
 unfold vV
 dsimp only [zj,zT,zF,zC,zE,zP,zQ,zq,zA,zm,zo,zs,zg,zh,zl,zv,zf,zi,zn,zb,zc,ze,zk,zw,zu,zt,zr,zR,zK,zN,zS,z0,zU]
 simp only [go_sem,↓reduceIte,TD]
 refine aG (args2:=[.ptr 1 0,.ptr 2 0,.ptr 3 0]) (T2:=TD 0 seed said used) [0,1,2,3] (aA _) (by decide) (by simp) rfl rfl (aOZ seed said used hs hl hn hu) ?_
 rintro r T' ⟨rfl,rfl⟩
 simp only [go_sem,↓reduceIte,TD]
theorem aP0 (seed:Nat) (said:List Nat) (used:Nat):aD prog G kZ [.ptr 0 0] (TD 0 seed said used) fun r T=>r=iv used/\T=TD 0 seed said used:=by
 refine aF aBs (by decide) ?_
 unfold vU
 dsimp only [zj,zT,zF,zC,zE,zP,zQ,zq,zA,zm,zo,zs,zg,zh,zl,zv,zf,zi,zn,zb,zc,ze,zk,zw,zu,zt,zr,zR,zK,zN,zS,z0,zU]
 simp only [go_sem,↓reduceIte,TD]
end
end
section
open Go.Proofs.Tryz
def pN (l:List Int):Nat->Bool
 | 0=>true
 | i+1=>pN l i&&!decide (l.getD i 0∈l.take i)
def cE (cs:List CardM) (l:List Int) (need:Int):Int :=
 if need<1\/(l.length:Int)<need\/12<l.length then 1
 else if pN l l.length=false then 1
 else if (l.all fun d=>(aV cs d).2)=false then 17 else 0
section
variable {G:Nat->Option (List AV)}
set_option maxHeartbeats 4000000
theorem aU7 {l:List Int} {i:Nat} (h:i<l.length) (hd:l.getD i 0∈l.take i):pN l l.length=false:=by
 have:∀ n,i<n->pN l n=false:=by
  intro n
  induction n with
  | zero=>intro h;omega
  | succ n ih =>
   intro hn
   rw [pN]
   rcases Nat.lt_or_ge i n with h1 | h1
   ·rw [ih h1,Bool.false_and]
   ·obtain rfl:i=n:=by omega
    rw [decide_eq_true hd];simp
 exact this _ h
theorem aQV (g:GM) (l:List Int) (need:Int) (hg:g.ok) (hl:l.length<=1000000):aD prog G vG [.ag g.A,nts l,iv need] [] fun r T=>r=iv (cE g.Cards l need)/\T=[]:=by
 refine aF aBO (by decide) ?_
 unfold aBN
 dsimp only [zj,zT,zF,zC,zE,zP,zQ,zq,zA,zm,zo,zs,zg,zh,zl,zv,zf,zi,zn,zb,zc,ze,zk,zw,zu,zt,zr,zR,zK,zN,zS,z0,zU]
 have hW:cE g.Cards l need=cE g.Cards l need:=rfl
 conv at hW=>rhs;unfold cE
 cases h1:decide (need<1)
 rotate_left
 ·rw [if_pos (.inl (of_decide_eq_true h1))] at hW
  rw [hW]
  simp only [go_sem,↓reduceIte,h1,undef,List.length_map]
 cases h2:decide (need>(l.length:Int))
 rotate_left
 ·rw [if_pos (.inr (.inl (by simpa using h2)))] at hW
  rw [hW]
  simp only [go_sem,↓reduceIte,h1,h2,undef,List.length_map]
 cases h3:decide ((l.length:Int)>12)
 rotate_left
 ·rw [if_pos (.inr (.inr (by have:=of_decide_eq_true h3;omega)))] at hW
  rw [hW]
  simp only [go_sem,↓reduceIte,h1,h2,h3,undef,List.length_map]
 rw [if_neg (by have:=of_decide_eq_false h1;have:=of_decide_eq_false h2;have:=of_decide_eq_false h3;omega)] at hW
 simp only [go_sem,↓reduceIte,h1,h2,h3,List.length_map]
 refine aL l.length (fun i=>⟨0,[(1,nts l),(3,.ptr 0 0),(7,iv i)],[some (.box g.A)]⟩) (fun i=>pN l i=true) ?_ rfl ?_ ?_
 ·simp only [go_sem,↓reduceIte]
 ·intro i hi hJ
  have g0:(l.map fun n=>[iv n])[i]?=some [iv l[i]]:=aX _ l i hi
  have gd:l.getD i 0=l[i]:=by rw [List.getD_eq_getElem?_getD,List.getElem?_eq_getElem hi];rfl
  have ws:=aH (show i<9223372036854775807 by omega)
  have gt:(l.map fun n=>[iv n]).take i=(l.take i).map fun n=>[iv n]:=(List.map_take ..).symm
  have hs:pN l (i+1)=!decide (l[i]∈l.take i):=by rw [pN,hJ,gd,Bool.true_and]
  simp only [go_sem,↓reduceIte,List.length_map,bQ hi,hi,g0,gt,show i<=l.length by omega]
  refine aC (aA _) rfl (bAi (l.take i) l[i] (by rw [List.length_take];omega)) rfl ?_
  simp only [go_sem,↓reduceIte]
  cases hb:decide (l[i]∈l.take i)
  ·rw [hb] at hs
   simp only [go_sem,↓reduceIte,ws]
   exact hs
  ·rw [hW,if_pos (aU7 hi (by rw [gd];exact of_decide_eq_true hb))]
   simp only [go_sem,↓reduceIte]
 intro hJ
 rw [if_neg (by rw [hJ];decide)] at hW
 simp only [go_sem,↓reduceIte,List.length_map,bV (Nat.lt_irrefl _)]
 refine aL l.length (fun i=>⟨0,[(1,nts l),(3,.ptr 0 0),(8,iv i)],[some (.box g.A)]⟩) (fun i=>∀ j (hj:j<l.length),j<i->(aV g.Cards l[j]).2=true) ?_ (fun j hj h=>by omega) ?_ ?_
 ·simp only [go_sem,↓reduceIte]
 ·intro i hi hJ
  have g0:(l.map fun n=>[iv n])[i]?=some [iv l[i]]:=aX _ l i hi
  have ws:=aH (show i<9223372036854775807 by omega)
  have hf:=bAg (p:=fun d=>(aV g.Cards d).2) hi
  have hs:=aTP (p:=fun d=>(aV g.Cards d).2) hi hJ
  have hcard:=aQo (G:=G) g l[i] hg
  simp only [go_sem,↓reduceIte,List.length_map,bQ hi,hi,g0]
  generalize aV g.Cards l[i]=cd at *
  obtain ⟨c,b⟩:=cd
  refine And.intro ?_ ?_
  all_goals refine aC (aA _) rfl hcard rfl ?_
  all_goals simp only [go_sem,↓reduceIte,CardM.A_def]
  all_goals cases b
  all_goals simp only [go_sem,↓reduceIte,ws]
  all_goals first
   | exact hs rfl
   | (rw [hW,if_pos (hf rfl)])
 intro hJ
 rw [if_neg (by rw [bAh (p:=fun d=>(aV g.Cards d).2) (fun j hj _=>hJ j hj hj)];decide)] at hW
 rw [hW]
 simp only [go_sem,↓reduceIte,List.length_map,bV (Nat.lt_irrefl _)]
end
end
section
open Go.Proofs.Tryz
def bL (need:Nat) (num:Nat->Nat):List Fq:=(List.range (need-1)).map fun k=>nq (num (k+1))
def pO (cs:List CardM) (n:Fq) (l:List Int) (need:Nat) (num:Nat->Nat):List BX :=
 (List.range l.length).map fun i=>aBF (nq (aV cs (l.getD i 0)).1.Keep) (num (need+i)) (ev (n::bL need num) (nq (i+1)))
theorem aIn (seed:Nat) (said:List Nat) (k:Nat):1<=cU seed said k/\cU seed said k<PP:=by
 have hp:PP=2305843009213693951:=by decide
 unfold cU
 split
 ·omega
 ·have:=aEz aLs [seed%PP,k-said.length]
  omega
theorem aLt (i:Nat) (num:Nat->Nat):bL (i+1+1) num=bL (i+1) num++[nq (num (i+1))]:=by
 simp [bL,List.range_succ]
theorem qL (k:Nat) (num:Nat->Nat):(bL k num).length=k-1:=by simp [bL]
theorem aNG {cs:List CardM} {d:Int} (h:(aV cs d).2=true):(aV cs d).1∈cs:=by
 unfold aV at h ⊢
 split at h
 ·rename_i c e
  exact List.mem_of_find?_eq_some e
 ·simp at h
def aAJ (cs:List CardM) (n:Fq) (l:List Int) (need:Nat) (num:Nat->Nat) (m:Nat):List BX :=
 (List.range m).map fun i=>aBF (nq (aV cs (l.getD i 0)).1.Keep) (num (need+i)) (ev (n::bL need num) (nq (i+1)))
theorem aNH (cs:List CardM) (n:Fq) (l:List Int) (need:Nat) (num:Nat->Nat) (m:Nat):aAJ cs n l need num (m+1)=aAJ cs n l need num m++[aBF (nq (aV cs (l.getD m 0)).1.Keep) (num (need+m)) (ev (n::bL need num) (nq (m+1)))]:=by
 simp [aAJ,List.range_succ]
theorem aNI (cs:List CardM) (n:Fq) (l:List Int) (need:Nat) (num:Nat->Nat) (m:Nat):(aAJ cs n l need num m).length=m:=by simp [aAJ]
section
variable {G:Nat->Option (List AV)}
set_option maxHeartbeats 4000000
theorem aQW (g:GM) (n:Fq) (l:List Int) (need:Int) (seed:Nat) (said:List Nat) (hg:g.ok) (hK:∀ c∈g.Cards,c.Keep<PP) (hl:l.length<=1000000) (hs:seed<18446744073709551616) (hsd:∀ n∈said,n<18446744073709551616) (hsl:said.length<=900) :
  aD prog G iX [.ag g.A,.v (fu n),nts l,iv need,uv seed,.ls 1 (ul said)] [] fun r T=>(cE g.Cards l need≠0/\r=.tup [.own 0,iv (cE g.Cards l need)]/\T=[some (.arr 4 [])]) \/
   (cE g.Cards l need=0/\r=.tup [.own 0,iv 0]/\T=[some (.arr 4 ((pO g.Cards n l need.toNat (cU seed said)).map BX.A))]):=by
 refine aF aCV (by decide) ?_
 unfold aDL
 dsimp only [zj,zT,zF,zC,zE,zP,zQ,zq,zA,zm,zo,zs,zg,zh,zl,zv,zf,zi,zn,zb,zc,ze,zk,zw,zu,zt,zr,zR,zK,zN,zS,z0,zU]
 simp only [go_sem,↓reduceIte]
 refine aC (aA _) rfl (aQV g l need hg hl) rfl ?_
 simp only [go_sem,↓reduceIte]
 refine bM (fun h=>?_) (fun h=>?_)
 ·simp only [bne_iff_ne,ne_eq] at h
  simp only [go_sem,↓reduceIte,h]
  exact .inl trivial
 simp only [bne_eq_false_iff_eq] at h
 have hneed:1<=need/\need<=l.length/\l.length<=12:=by
  unfold cE at h
  split at h
  ·simp at h
  ·omega
 obtain ⟨k,rfl⟩:∃ k:Nat,need=k:=⟨need.toNat,by omega⟩
 have hcards:∀ j (hj:j<l.length),(aV g.Cards l[j]).2=true:=by
  intro j hj
  unfold cE at h
  split at h
  ·simp at h
  split at h
  ·simp at h
  split at h
  ·simp at h
  ·rename_i h1
   simp only [Bool.not_eq_false,List.all_eq_true] at h1
   exact h1 _ (List.getElem_mem hj)
 refine gV (fun s=>s=⟨0,[(6,.ptr 0 0),(1,.v (fu n)),(2,nts l),(3,iv k),(4,uv seed),(5,.ls 1 (ul said))],[some (.box g.A)]⟩) (by simp only [go_sem,↓reduceIte,h]) ?_
 rintro s rfl
 obtain ⟨k0,rfl⟩:∃ k0,k=k0+1:=⟨k-1,by omega⟩
 have hp:PP=2305843009213693951:=by decide
 simp only [go_sem,↓reduceIte]
 refine aL k0 (fun i=>⟨0,[(1,.v (fu n)),(2,nts l),(3,iv (k0+1:Nat)),(4,uv seed),(5,.ls 1 (ul said)),(6,.ptr 0 0),(15,.own 1),(16,iv (i+1:Nat))],[some (.box g.A),some (.arr 1 (fl (bL (i+1) (cU seed said))))]⟩) (fun _=>True) ?_ trivial ?_ ?_
 ·simp only [go_sem,↓reduceIte]
  rfl
 ·intro i hi _
  have hd:decide (((i+1:Nat):Int)<((k0+1:Nat):Int))=true:=decide_eq_true (by omega)
  have ws:=aH (show i+1<9223372036854775807 by omega)
  have hN:=aFa (G:=G) seed said (i+1) hs hsd (by omega) (by omega) (by omega)
  have hl1:=(aIn seed said (i+1)).2
  have hnq:AV.v (fu (nq (cU seed said (i+1))))=uv (cU seed said (i+1)):=by rw [pI _ hl1]
  have hcl:=qL (i+1) (cU seed said)
  simp only [go_sem,↓reduceIte,hd]
  refine aC (aA _) rfl hN rfl ?_
  simp only [go_sem,↓reduceIte,List.length_map,hcl,aLt,List.map_append,hnq,ws,Nat.add_sub_cancel,show i+1<=maxLen by unfold maxLen;omega,show (i+1)*8<=140737488355328 by omega]
 intro _
 have hd:decide (((k0+1:Nat):Int)<((k0+1:Nat):Int))=false:=decide_eq_false (by omega)
 simp only [go_sem,↓reduceIte,hd,List.length_map]
 have hcl:=qL (k0+1) (cU seed said)
 refine aIb [1] [0] (aA _) (args3:=[.v (fu n),.ls 1 (fl (bL (k0+1) (cU seed said))),iv l.length]) (by decide) (by simp) rfl rfl (by simp only [go_sem,↓reduceIte]) rfl (by simp only [go_sem,↓reduceIte]) (aQf n (bL (k0+1) (cU seed said)) l.length (by omega) (by omega)) (by simp only [go_sem,↓reduceIte]) ?_
 simp only [go_sem,↓reduceIte]
 refine aL l.length (fun i=>⟨0,[(2,nts l),(3,iv (k0+1:Nat)),(4,uv seed),(5,.ls 1 (ul said)),(6,.ptr 0 0),(17,shs (aT (n::bL (k0+1) (cU seed said)) l.length)),(18,.own 1),(19,iv i)],[some (.box g.A),some (.arr 4 ((aAJ g.Cards n l (k0+1) (cU seed said) i).map BX.A))]⟩) (fun _=>True) ?_ trivial ?_ ?_
 ·simp only [go_sem,↓reduceIte]
  rfl
 ·intro i hi _
  have g0:(l.map fun n=>[iv n])[i]?=some [iv l[i]]:=aX _ l i hi
  have gd:l.getD i 0=l[i]:=by rw [List.getD_eq_getElem?_getD,List.getElem?_eq_getElem hi];rfl
  have ws:=aH (show i<9223372036854775807 by omega)
  have hcard:=aQo (G:=G) g l[i] hg
  have hb:=hcards i hi
  have hkp:=hK _ (aNG hb)
  have hS:((aT (n::bL (k0+1) (cU seed said)) l.length).map fW)[i]?=some [uv (i+1:Nat),.v (fu (ev (n::bL (k0+1) (cU seed said)) (nq (i+1))))]:=by
   rw [List.getElem?_map,aT,List.getElem?_map,List.getElem?_range hi];rfl
  have hsl:=gT (n::bL (k0+1) (cU seed said)) l.length
  have wn:IntKind.i64.wrap (((k0+1:Nat):Int)+(i:Int))=((k0+1+i:Nat):Int):=by rw [aM (by omega) (by omega)];omega
  have hN:=aFa (G:=G) seed said (k0+1+i) hs hsd (by omega) (by omega) (by omega)
  have hl1:=(aIn seed said (k0+1+i)).2
  have eI:=aNH g.Cards n l (k0+1) (cU seed said) i
  have hlen:=aNI g.Cards n l (k0+1) (cU seed said) i
  rw [gd] at eI
  generalize aAJ g.Cards n l (k0+1) (cU seed said) (i+1)=D1 at *
  generalize aAJ g.Cards n l (k0+1) (cU seed said) i=D at *
  generalize ev (n::bL (k0+1) (cU seed said)) (nq (i+1))=V at *
  have hM:=aRZ (G:=G) (nq (aV g.Cards l[i]).1.Keep) (cU seed said (k0+1+i)) V (by omega)
  rw [pI _ hkp] at hM
  generalize aBF (nq (aV g.Cards l[i]).1.Keep) (cU seed said (k0+1+i)) V=B at *
  generalize aV g.Cards l[i]=cd at *
  obtain ⟨c,b⟩:=cd
  simp only at hb
  subst hb
  generalize cU seed said (k0+1+i)=nu at *
  simp only [go_sem,↓reduceIte,List.length_map,bQ hi,hi,g0]
  refine And.intro ?_ ?_
  all_goals refine aC (aA _) rfl hcard rfl ?_
  all_goals simp only [go_sem,↓reduceIte,CardM.A_def,wn,hS,hsl,hi,List.length_map]
  all_goals refine aC (aA _) rfl hN rfl ?_
  all_goals simp only [go_sem,↓reduceIte,hS,hsl,hi,List.length_map]
  all_goals refine aC (aA _) rfl hM rfl ?_
  all_goals simp only [go_sem,↓reduceIte,BX.A,List.length_map,hlen,eI,List.map_append,ws,show i+1<=maxLen by unfold maxLen;omega,show (i+1)*32<=140737488355328 by omega]
 intro _
 simp only [go_sem,↓reduceIte,List.length_map,bV (Nat.lt_irrefl _)]
 exact .inr ⟨h,rfl⟩
def lF (cs:List CardM) (n:Fq) (l:List Int) (need:Int) (num:Nat->Nat):List BX×Int:=if cE cs l need≠0 then ([],cE cs l need) else (pO cs n l need.toNat num,0)
theorem aLu (g:GM) (n:Fq) (l:List Int) (need:Int) (seed:Nat) (said:List Nat) (hg:g.ok) (hK:∀ c∈g.Cards,c.Keep<PP) (hl:l.length<=1000000) (hs:seed<18446744073709551616) (hsd:∀ n∈said,n<18446744073709551616) (hsl:said.length<=900) :
  aD prog G iX [.ag g.A,.v (fu n),nts l,iv need,uv seed,.ls 1 (ul said)] [] fun r T=>r=.tup [.ls 4 ((lF g.Cards n l need (cU seed said)).1.map BX.A),iv (lF g.Cards n l need (cU seed said)).2]/\T=[]:=by
 refine (aQW g n l need seed said hg hK hl hs hsd hsl).fin [0] ?_
 rintro r T' (⟨h,rfl,rfl⟩ | ⟨h,rfl,rfl⟩)
 ·rw [lF,if_pos h]
  simp only [go_sem,↓reduceIte,List.length_nil,List.map_nil]
 ·rw [lF,if_neg (by simp [h])]
  simp only [go_sem,↓reduceIte,List.length_nil]
end
end
section
section
variable {G:Nat->Option (List AV)}
set_option maxHeartbeats 1000000
end
end
section
open Go.Proofs.Tryz
section
variable {G:Nat->Option (List AV)}
theorem aZV (x:Nat) (hx:x<65536):aD prog G pE [.v (.int .u64 (x:Int))] [] fun r T'=>(∃ n:Nat,r=.v (.int .i64 (n:Int))/\n<=16/\x<2^n/\(x=0\/2^n<=2*x))/\T'=[]:=by
 refine aF aBk (by decide) ?_
 unfold vS
 dsimp only [zj,zT,zF,zC,zE,zP,zQ,zq,zA,zm,zo,zs,zg,zh,zl,zv,zf,zi,zn,zb,zc,ze,zk,zw,zu,zt,zr,zR,zK,zN,zS,z0,zU]
 generalize hb:bs _=tab
 have key:(List.range 256).all (fun i=>match tab.data[i]? with | some t=>decide (t.toNat<=8/\i<2^t.toNat/\(i=0\/2^t.toNat<=2*i)) | none=>false)=true:=by rw [<-hb];decide +kernel
 clear hb
 have ht:∀ i,i<256->∃ t,tab.data[i]?=some t/\t.toNat<=8/\i<2^t.toNat/\(i=0\/2^t.toNat<=2*i):=by
  intro i hi
  have:=List.all_eq_true.1 key i (List.mem_range.2 hi)
  split at this
  ·rename_i t h;exact ⟨t,h,of_decide_eq_true this⟩
  ·cases this
 have e1:decide ((x:Int)>=4294967296)=false:=decide_eq_false (by omega)
 have e2:decide ((x:Int)>=65536)=false:=decide_eq_false (by omega)
 by_cases h:256<=x
 ·have e3:decide ((x:Int)>=256)=true:=decide_eq_true (by omega)
  have sh:aU .shr (.int .u64 (x:Int)) (.int .u64 8)=some (.int .u64 ((x/256:Nat):Int)):=by
   have:(x:Int).fdiv (2^min 8 64)=((x/256:Nat):Int):=by simp [Int.fdiv_eq_ediv]
   rw [<-this]
   simp only [aU]
   rfl
  obtain ⟨t,t1,t2,t3,t4⟩:=ht (x/256) (by omega)
  have w1:=aEq (show t.toNat<=9223372036854775807 by omega)
  have w2:IntKind.i64.wrap (IntKind.i64.wrap 8+(t.toNat:Int))=((8+t.toNat:Nat):Int):=by rw [show IntKind.i64.wrap 8=8 from rfl,aM (by omega) (by omega)];omega
  have w3:IntKind.i64.wrap (8+(t.toNat:Int))=((8+t.toNat:Nat):Int):=by rw [aM (by omega) (by omega)];omega
  simp only [go_sem,↓reduceIte,e1,e2,e3,↓sh,aCa _ (show x/256<256 by omega),t1,w1,w2,w3]
  refine ⟨8+t.toNat,rfl,by omega,?_,.inr ?_⟩
  ·rw [Nat.pow_add];have:(2:Nat)^8=256:=rfl;omega
  ·rw [Nat.pow_add];have:(2:Nat)^8=256:=rfl;omega
 ·have e3:decide ((x:Int)>=256)=false:=decide_eq_false (by omega)
  obtain ⟨t,t1,t2,t3,t4⟩:=ht x (by omega)
  have w1:=aEq (show t.toNat<=9223372036854775807 by omega)
  have w2:IntKind.i64.wrap (0+(t.toNat:Int))=(t.toNat:Int):=by rw [Int.zero_add];exact w1
  simp only [go_sem,↓reduceIte,e1,e2,e3,aCa _ (show x<256 by omega),t1,w1,w2]
  exact ⟨t.toNat,rfl,by omega,t3,t4⟩
theorem bDH (x:Nat) (hx:x<65536):aD prog G rW [.v (.int .u64 (x:Int))] [] fun r T'=>(∃ n:Nat,r=.v (.int .i64 (n:Int))/\n<=16/\x<2^n/\(x=0\/2^n<=2*x))/\T'=[]:=by
 refine aF aDq (by decide) ?_
 unfold aAw
 dsimp only [zj,zT,zF,zC,zE,zP,zQ,zq,zA,zm,zo,zs,zg,zh,zl,zv,zf,zi,zn,zb,zc,ze,zk,zw,zu,zt,zr,zR,zK,zN,zS,z0,zU]
 simp only [go_sem,↓reduceIte]
 refine gL (aA _) rfl (aZV x hx) ?_
 rintro r T' ⟨⟨n,rfl,hn⟩,rfl⟩
 simp only [go_sem,↓reduceIte]
 exact ⟨n,rfl,hn⟩
end
end
end Hud
