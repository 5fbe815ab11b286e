import Derived.Test.YthlndebkfkanbaaGreatDoorLib19
set_option linter.all false
namespace Hud
open Go
section
open Go.Proofs.Tryz
section
variable {G:Nat->Option (List AV)}
set_option maxHeartbeats 4000000
theorem bAi (l:List Int) (x:Int) (hl:l.length<9223372036854775807):aD prog G cM [nts l,iv x] [] fun r T=>r=.v (.bool (decide (x∈l)))/\T=[]:=by
 refine aF aEv (by decide) ?_
 unfold aFO
 dsimp only [zj,zT,zF,zC,zE,zP,zQ,zq,zA,zm,zo,zs,zg,zh,zl,zv,zf,zi,zn,zb,zc,ze,zk,zw,zu,zt,zr,zR,zK,zN,zS,z0,zU]
 simp only [go_sem,↓reduceIte]
 refine aL l.length (fun i=>⟨0,[(0,nts l),(1,iv x),(5,iv i)],[]⟩) (fun i=>∀ j (hj:j<l.length),j<i->l[j]≠x) ?_ (by intro j hj h;omega) ?_ ?_
 ·simp only [go_sem,↓reduceIte]
 ·intro i hi hJ
  have g0:(l.map fun n=>[iv n])[i]?=some [iv l[i]]:=aX _ l i hi
  simp only [go_sem,↓reduceIte,List.length_map,bQ hi,hi,g0]
  refine bM (fun h=>?_) (fun h=>?_)<;>simp only [go_sem,↓reduceIte,aH (show i<9223372036854775807 by omega)]
  ·have e:x∈l:=by have:=List.getElem_mem hi;simp only [beq_iff_eq] at h;rw [h] at this;exact this
   rw [decide_eq_true e]
  ·intro j hj hji
   rcases Nat.lt_or_ge j i with h1 | h1
   ·exact hJ j hj h1
   ·obtain rfl:j=i:=by omega
    simpa using h
 ·intro hJ
  have e:¬x∈l:=fun hm=>by
   obtain ⟨j,hj,he⟩:=List.getElem_of_mem hm
   exact hJ j hj hj he
  simp only [go_sem,↓reduceIte,List.length_map,bV (Nat.lt_irrefl _),decide_eq_false e]
theorem aQo (g:GM) (d:Int) (hg:g.ok):aD prog G kC [.ag g.A,iv d] [] fun r T=>r=.tup [.ag (aV g.Cards d).1.A,.v (.bool (aV g.Cards d).2)]/\T=[]:=by
 refine aF aCG (by decide) ?_
 unfold aDy
 dsimp only [zj,zT,zF,zC,zE,zP,zQ,zq,zA,zm,zo,zs,zg,zh,zl,zv,zf,zi,zn,zb,zc,ze,zk,zw,zu,zt,zr,zR,zK,zN,zS,z0,zU]
 have hl:g.Cards.length<9223372036854775807:=by have:=hg.cn;omega
 simp only [go_sem,↓reduceIte]
 refine aL g.Cards.length (fun i=>⟨0,[(1,iv d),(2,.ptr 0 0),(4,.ptr 1 0),(6,iv i)],[some (.box g.A),some (.box [iv 0,iv 0,AV.v (.int .u64 0),AV.v (.int .u64 0),AV.v (.int .u64 0)])]⟩) (fun i=>∀ j (hj:j<g.Cards.length),j<i->(g.Cards[j].Device==d)=false) ?_ (by intro j hj h;omega) ?_ ?_
 ·simp only [go_sem,↓reduceIte]
 ·intro i hi hJ
  have g0:(g.Cards.map CardM.A)[i]?=some [iv g.Cards[i].Device,iv g.Cards[i].Member,uv g.Cards[i].Lead,uv g.Cards[i].Keep,uv g.Cards[i].Sign]:=aX _ g.Cards i hi
  simp only [go_sem,↓reduceIte,List.length_map,bQ hi,hi,g0]
  refine bM (fun h=>?_) (fun h=>?_)<;>simp only [go_sem,↓reduceIte,List.length_map,hi,g0,aH (show i<9223372036854775807 by omega)]
  ·have e:g.Cards.find? (fun c=>c.Device==d)=some g.Cards[i]:=List.find?_eq_some_iff_getElem.2 ⟨h,i,hi,rfl,fun j hj=>by simp [hJ j (by omega) hj]⟩
   simp only [aV,e,CardM.A_def]
  ·intro j hj hji
   rcases Nat.lt_or_ge j i with h1 | h1
   ·exact hJ j hj h1
   ·obtain rfl:j=i:=by omega
    exact h
 ·intro hJ
  have e:g.Cards.find? (fun c=>c.Device==d)=none:=List.find?_eq_none.2 fun x hx=>by
   obtain ⟨j,hj,rfl⟩:=List.getElem_of_mem hx
   simp [hJ j hj hj]
  simp only [go_sem,↓reduceIte,List.length_map,bV (Nat.lt_irrefl _),aV,e,CardM.A_def]
  rfl
theorem aZq (l:List Nat):nns l=nts (l.map fun n:Nat=>(n:Int)):=by simp only [nns,nts,List.map_map];rfl
theorem aXr {l:List Nat} {i:Nat}:decide ((i:Int)∈l.map fun n:Nat=>(n:Int))=decide (i∈l):=by
 rw [Bool.eq_iff_iff]
 simp only [decide_eq_true_eq,List.mem_map]
 constructor
 ·rintro ⟨k,hk,e⟩;obtain rfl:k=i:=by omega
  exact hk
 ·intro h;exact ⟨i,h,rfl⟩
theorem aQp (u:List Nat) (b:List Bool):(u.foldl (fun b k=>b.set k true) b).length=b.length:=by
 induction u generalizing b with
 | nil=>rfl
 | cons k u ih=>rw [List.foldl_cons,ih,List.length_set]
theorem aNi (Up:List (List Nat)) (up:List Nat) (a:List Bool) (i:Nat):(aNf Up up a i).length=a.length:=by
 unfold aNf
 split<;>split<;>simp [aQp]
theorem aNj (Up:List (List Nat)) (up:List Nat):∀ (n:Nat) (a:List Bool),(aQm Up up n a).length=a.length
 | 0,_=>rfl
 | n+1,a=>by rw [aQm,aNj Up up n,aNi]
theorem aNk (g:GM) (up:List Nat):(pY g up).length=g.L.length:=by rw [pY,aNj,List.length_replicate]
theorem aXs (l:List Nat) (i:Nat) (hl:l.length<9223372036854775807):aD prog G cM [nns l,iv i] [] fun r T=>r=.v (.bool (decide (i∈l)))/\T=[]:=by
 rw [aZq,<-aXr]
 exact bAi _ (i:Int) (by simpa using hl)
end
end
section
open Go.Proofs.Tryz
def aZr (k:Nat):List Value:=[.int .u64 (k:Int)]
theorem aTQ {k:Nat}:∀ (D:List Nat) (i:Nat),k∉D->jV [.int .u64] [.int .u64 (k:Int)] (D.map aZr) i=some none
 | [],_,_=>rfl
 | e::D,i,h=>by
  simp only [List.mem_cons,not_or] at h
  have h1:(((k:Nat):Int)==((e:Nat):Int))=false:=by
   have:((k:Nat):Int)≠((e:Nat):Int):=by omega
   simpa using this
  simp only [List.map_cons,aZr,jV,eqV,and_self,if_true,h1,Bool.false_and]
  exact aTQ D (i+1) h.2
def MU (i:Nat) (D:List Nat):AObj:=.map false (D.map aZr) (D.map fun _=>AV.v (.bool true)) (List.range i) i
def ksA (l:List (Nat×Fq)) (i:Nat):List Nat:=0::(l.take i).map (·.1)
theorem aZs (l:List (Nat×Fq)) (i:Nat) (h:i<l.length):ksA l (i+1)=ksA l i++[l[i].1]:=by
 simp only [ksA,<-List.take_append_getElem h,List.map_append,List.map_cons,List.map_nil,List.cons_append]
theorem yJ (n m:Int) (h3:1<=m):0<=kW n m/\kW n m<m:=by
 unfold kW
 split
 ·exact ⟨Int.emod_nonneg _ (by omega),Int.emod_lt_of_pos _ (by omega)⟩
 ·exact ⟨Int.emod_nonneg _ (by omega),Int.emod_lt_of_pos _ (by omega)⟩
theorem xD:∀ {a b:List Nat},a.Nodup->(∀ x∈a,x∈b)->a.length<=b.length
 | [],_,_,_=>Nat.zero_le _
 | x::a,b,hn,hs=>by
  have h1:=List.nodup_cons.1 hn
  have hb:=hs x List.mem_cons_self
  have:=xD (a:=a) (b:=b.erase x) h1.2 fun y hy=>(List.mem_erase_of_ne (by rintro rfl;exact h1.1 hy)).2 (hs y (List.mem_cons_of_mem _ hy))
  rw [List.length_erase_of_mem hb] at this
  have:=List.length_pos_of_mem hb
  simp only [List.length_cons];omega
def iD (l:List (Nat×Fq)) (hd:List Nat):List (Nat×Fq):=hd.map fun i=>l.getD i (0,0)
theorem aKR (l:List (Nat×Fq)) (hd:List Nat) (k:Nat):iD l (hd++[k])=iD l hd++[l.getD k (0,0)]:=by simp [iD]
section
variable {G:Nat->Option (List AV)}
set_option maxHeartbeats 4000000
theorem aZt (l:List (Nat×Fq)) (hl:l.length<=1000) (h1:∀ p∈l,p.1<PP) (hn:(0::l.map (·.1)).Nodup):aD prog G wT [shs l] [] fun r T=>r=.v (.bool true)/\T=[]:=by
 refine aF aFT (by decide) ?_
 unfold aCF
 dsimp only [zj,zT,zF,zC,zE,zP,zQ,zq,zA,zm,zo,zs,zg,zh,zl,zv,zf,zi,zn,zb,zc,ze,zk,zw,zu,zt,zr,zR,zK,zN,zS,z0,zU]
 simp only [go_sem,↓reduceIte,List.length_map]
 refine aL l.length (fun i=>⟨0,[(3,.mp 0),(8,shs l),(9,iv l.length),(10,iv i)],[some (MU (i+1) (ksA l i))]⟩) (fun _=>True) ?_ trivial ?_ ?_
 ·simp only [go_sem,↓reduceIte]
  rfl
 ·intro i hi _
  have hd:decide (((i:Nat):Int)<(l.length:Int))=true:=decide_eq_true (by omega)
  have ws:=aH (show i<9223372036854775807 by omega)
  have g0:(l.map fW)[i]?=some [uv l[i].1,.v (fu l[i].2)]:=by simp [fW,hi]
  have hf:=aJs (G:=G) (nq l[i].1)
  rw [pI _ (h1 _ (List.getElem_mem hi))] at hf
  have hno:l[i].1∉ksA l i:=by
   intro h
   have:=hn
   rw [<-List.take_append_drop i l,List.drop_eq_getElem_cons hi,List.map_append,<-List.cons_append,List.nodup_append] at this
   exact this.2.2 _ h l[i].1 (List.mem_map_of_mem List.mem_cons_self) rfl
  have hk:=aTQ (ksA l i) 0 hno
  simp only [go_sem,↓reduceIte,hd,g0,ws]
  refine aC (aA _) rfl hf rfl ?_
  simp only [go_sem,↓reduceIte,MU,hk]
  refine aC (aA _) rfl hf rfl ?_
  simp only [go_sem,↓reduceIte,MU,hk,aZs l i hi,List.map_append,aZr,List.range_succ]
  rw [ws]
 ·intro _
  have hd:decide (((l.length:Nat):Int)<(l.length:Int))=false:=decide_eq_false (by omega)
  simp only [go_sem,↓reduceIte,hd]
theorem aQq (a b:Nat×Fq) (ha:a.1<PP) (hab:a.1=b.1):aD prog G vE [.ag (fW a),.ag (fW b)] [] fun r T=>r=.tup [.ag (fW (a.1,a.2+b.2)),iv 0]/\T=[]:=by
 refine aF aJM (by decide) ?_
 unfold aGN
 dsimp only [zj,zT,zF,zC,zE,zP,zQ,zq,zA,zm,zo,zs,zg,zh,zl,zv,zf,zi,zn,zb,zc,ze,zk,zw,zu,zt,zr,zR,zK,zN,zS,z0,zU]
 have hf:=aJs (G:=G) (nq a.1)
 rw [pI _ ha] at hf
 simp only [go_sem,↓reduceIte,fW,<-hab]
 refine aC (aA _) rfl hf rfl ?_
 simp only [go_sem,↓reduceIte]
 refine aC (aA _) rfl hf rfl ?_
 simp only [go_sem,↓reduceIte]
 refine aC (aA _) rfl hf rfl ?_
 simp only [go_sem,↓reduceIte]
 refine aC (aA _) rfl (aMO a.2 b.2) rfl ?_
 simp only [go_sem,↓reduceIte]
theorem aOH (l:List (Nat×Fq)) (at_:List Int) (most:Nat) (hl:l.length<=1000) (ha:at_.length<=9223372036854775807) (hok:∀ x∈at_,okN x) (hm:most<=l.length) :
  aD prog G nQ [shs l,nts at_,iv most] [] fun r T=>∃ hd:List Nat,hd.Nodup/\(∀ x∈hd,x<l.length)/\hd.length=most/\r=.own 0/\T=[some (.arr 2 ((iD l hd).map fW))]:=by
 refine aF aLH (by decide) ?_
 unfold aJB
 dsimp only [zj,zT,zF,zC,zE,zP,zQ,zq,zA,zm,zo,zs,zg,zh,zl,zv,zf,zi,zn,zb,zc,ze,zk,zw,zu,zt,zr,zR,zK,zN,zS,z0,zU]
 rw [aOa]
 rw [dH]
 refine gV (fun s=>s=⟨0,[(0,shs l),(1,nts at_),(2,iv most)],[]⟩) (by simp only [go_sem,↓reduceIte]) ?_
 rintro s rfl
 rw [dH]
 refine gV (fun s=>s=⟨0,[(7,.own 0),(0,shs l),(1,nts at_),(2,iv most)],[some (.arr 2 [])]⟩) (by simp only [go_sem,↓reduceIte]) ?_
 rintro s rfl
 rw [dH]
 refine gV (fun s=>s=⟨0,[(8,.own 1),(7,.own 0),(0,shs l),(1,nts at_),(2,iv most)],[some (.arr 2 []),some (.arr 1 [])]⟩) (by simp only [go_sem,↓reduceIte]) ?_
 rintro s rfl
 rw [dH]
 refine gV (fun s=>∃ hd:List Nat,hd.Nodup/\(∀ x∈hd,x<l.length)/\hd.length<=most/\s=⟨0,[(0,shs l),(2,iv most),(7,.own 0),(8,.own 1)],[some (.arr 2 ((iD l hd).map fW)),some (.arr 1 (hd.map fun n:Nat=>[iv (n:Int)]))]⟩) ?_ ?_
 ·simp only [go_sem,↓reduceIte]
  refine fS (fun m s=>∃ (hd:List Nat) (i:Nat),m=at_.length-i/\i<=at_.length/\hd.Nodup/\(∀ x∈hd,x<l.length)/\hd.length<=most/\s=⟨0,[(0,shs l),(1,nts at_),(2,iv most),(7,.own 0),(8,.own 1),(9,iv i)],[some (.arr 2 ((iD l hd).map fW)),some (.arr 1 (hd.map fun n:Nat=>[iv (n:Int)]))]⟩) at_.length ⟨[],0,rfl,Nat.zero_le _,List.nodup_nil,(fun x h=>by cases h),Nat.zero_le _,?_⟩ ?_
  ·simp only [go_sem,↓reduceIte,iD]
   try rfl
  rintro m s ⟨hd,i,rfl,hi,hn,hx,hlm,rfl⟩
  have hpl:(iD l hd).length=hd.length:=by simp [iD]
  have hhl:hd.length<=1000:=by omega
  have b1:hd.length+1<=maxLen:=by unfold maxLen;omega
  have b2:(hd.length+1)*8<=140737488355328:=by omega
  have b3:(hd.length+1)*16<=140737488355328:=by omega
  by_cases h1:i<at_.length
  rotate_left
  ·have d1:decide ((i:Int)<(at_.length:Int))=false:=decide_eq_false (by omega)
   simp only [go_sem,↓reduceIte,List.length_map,d1,undef]
   exact ⟨hd,hn,hx,hlm,rfl⟩
  have d1:decide ((i:Int)<(at_.length:Int))=true:=decide_eq_true (by omega)
  by_cases h2:hd.length<most
  rotate_left
  ·have d2:decide ((hd.length:Int)<(most:Int))=false:=decide_eq_false (by omega)
   simp only [go_sem,↓reduceIte,List.length_map,hpl,d1,d2,undef]
   exact ⟨hd,hn,hx,hlm,rfl⟩
  have d2:decide ((hd.length:Int)<(most:Int))=true:=decide_eq_true (by omega)
  have d3:decide ((l.length:Int)>0)=true:=decide_eq_true (by omega)
  have g0:((at_.map fun n=>[iv n]))[i]?=some [iv at_[i]]:=by simp [h1]
  have hat:=hok _ (List.getElem_mem h1)
  have har:=yJ at_[i] l.length (by omega)
  obtain ⟨k,hk⟩:∃ k:Nat,kW at_[i] (l.length:Int)=k:=⟨(kW at_[i] (l.length:Int)).toNat,by omega⟩
  have hkl:k<l.length:=by omega
  have ws:=aH (show i<9223372036854775807 by omega)
  simp only [go_sem,↓reduceIte,List.length_map,hpl,d1,d2,d3,g0,h1]
  refine aC (aA _) rfl (pJ at_[i] l.length hat.1 hat.2 (by omega) (by omega)) rfl ?_
  simp only [go_sem,↓reduceIte,hk]
  refine bJ (aA _) rfl rfl (aXs hd k (by omega)) ?_
  have gk:(l.map fW)[k]?=some (fW (l.getD k (0,0))):=by simp [hkl]
  by_cases h4:k∈hd
  ·have d4:decide (k∈hd)=true:=decide_eq_true h4
   simp only [go_sem,↓reduceIte,d4,ws]
   exact ⟨at_.length-(i+1),by omega,hd,i+1,rfl,by omega,hn,hx,hlm,rfl⟩
  ·have d4:decide (k∈hd)=false:=decide_eq_false h4
   simp only [go_sem,↓reduceIte,d4,ws,List.length_map,hpl,hkl,gk,b1,b2,b3,fW]
   refine ⟨at_.length-(i+1),by omega,hd++[k],i+1,rfl,by omega,?_,?_,by simp;omega,?_⟩
   ·rw [List.nodup_append];exact ⟨hn,by simp,fun a ha b hb e=>by simp at hb;subst hb;exact h4 (e ▸ ha)⟩
   ·intro x h
    rcases List.mem_append.1 h with h | h
    ·exact hx x h
    ·rw [List.mem_singleton.1 h];exact hkl
   ·simp only [aKR,List.map_append,List.map_cons,List.map_nil,fW]
 rintro s ⟨hd,hn,hx,hlm,rfl⟩
 simp only [go_sem,↓reduceIte]
 refine fS (fun m s=>∃ (ks:List Nat) (k:Nat),m=l.length-k/\k<=l.length/\(hd++ks).Nodup/\(∀ x∈ks,x<k)/\(∀ j,j<k->j∈hd++ks)/\(hd++ks).length<=most/\s=⟨0,[(0,shs l),(2,iv most),(7,.own 0),(8,.own 1),(11,iv k)],[some (.arr 2 ((iD l (hd++ks)).map fW)),some (.arr 1 (hd.map fun n:Nat=>[iv (n:Int)]))]⟩) l.length ⟨[],0,rfl,Nat.zero_le _,by simpa using hn,(fun x h=>by cases h),(fun j h=>by omega),by simpa using hlm,?_⟩ ?_
 ·simp only [go_sem,↓reduceIte,List.append_nil]
  try rfl
 rintro m s ⟨ks,k,rfl,hk,hnk,hxk,hall,hlk,rfl⟩
 have hpl:(iD l (hd++ks)).length=(hd++ks).length:=by simp [iD]
 have hhl:(hd++ks).length<=1000:=by omega
 have b1:(hd++ks).length+1<=maxLen:=by unfold maxLen;omega
 have b2:((hd++ks).length+1)*16<=140737488355328:=by omega
 have hxa:∀ x∈hd++ks,x<l.length:=by
  intro x h
  rcases List.mem_append.1 h with h | h
  ·exact hx x h
  ·have:=hxk x h;omega
 by_cases h1:k<l.length
 rotate_left
 ·have d1:decide ((k:Int)<(l.length:Int))=false:=decide_eq_false (by omega)
  have hge:=xD (a:=List.range l.length) (b:=hd++ks) List.nodup_range fun x h=>hall x (by have:=List.mem_range.1 h;omega)
  rw [List.length_range] at hge
  simp only [go_sem,↓reduceIte,List.length_map,d1,undef]
  exact ⟨hd++ks,hnk,hxa,by omega,rfl⟩
 have d1:decide ((k:Int)<(l.length:Int))=true:=decide_eq_true (by omega)
 generalize hq:hd++ks=q at *
 by_cases h2:q.length<most
 rotate_left
 ·have d2:decide ((q.length:Int)<(most:Int))=false:=decide_eq_false (by omega)
  simp only [go_sem,↓reduceIte,List.length_map,hpl,d1,d2,undef]
  exact ⟨q,hnk,hxa,by omega,rfl⟩
 have d2:decide ((q.length:Int)<(most:Int))=true:=decide_eq_true (by omega)
 have ws:=aH (show k<9223372036854775807 by omega)
 simp only [go_sem,↓reduceIte,List.length_map,hpl,d1,d2]
 refine bJ (aA _) rfl rfl (aXs hd k (by omega)) ?_
 have gk:(l.map fW)[k]?=some (fW (l.getD k (0,0))):=by simp [h1]
 by_cases h4:k∈hd
 ·have d4:decide (k∈hd)=true:=decide_eq_true h4
  simp only [go_sem,↓reduceIte,d4,ws]
  refine ⟨l.length-(k+1),by omega,ks,k+1,rfl,by omega,by rw [hq];exact hnk,(fun x h=>by have:=hxk x h;omega),?_,by have:=congrArg List.length hq;rw [List.length_append] at this;omega,by rw [hq]⟩
  intro j hj
  rcases Nat.lt_or_ge j k with h | h
  ·rw [hq];exact hall j h
  ·rw [show j=k by omega];exact List.mem_append_left _ h4
 ·have d4:decide (k∈hd)=false:=decide_eq_false h4
  simp only [go_sem,↓reduceIte,d4,ws,List.length_map,hpl,h1,gk,b1,b2,fW]
  refine ⟨l.length-(k+1),by omega,ks++[k],k+1,rfl,by omega,?_,?_,?_,?_,?_⟩
  ·rw [<-List.append_assoc,hq,List.nodup_append]
   refine ⟨hnk,by simp,fun a ha b hb e=>?_⟩
   simp at hb;subst hb;subst e
   rw [<-hq] at ha
   rcases List.mem_append.1 ha with h | h
   ·exact h4 h
   ·have:=hxk _ h;omega
  ·intro x h
   rcases List.mem_append.1 h with h | h
   ·have:=hxk x h;omega
   ·rw [List.mem_singleton.1 h];omega
  ·intro j hj
   rw [<-List.append_assoc,hq]
   rcases Nat.lt_or_ge j k with h | h
   ·exact List.mem_append_left _ (hall j h)
   ·rw [show j=k by omega];simp
  ·have:=congrArg List.length hq;rw [List.length_append] at this;simp only [List.length_append,List.length_cons,List.length_nil];omega
  ·rw [<-List.append_assoc,hq]
   simp only [aKR,List.map_append,List.map_cons,List.map_nil,fW]
end
end
section
open Go.Proofs.Tryz
def pts (l:List (Nat×Fq)):List (Fq×Fq):=l.map fun p=>(nq p.1,p.2)
def aXt (l:List (Nat×Fq)) (x:Fq):Fq:=ev (yG (pts l)) x
theorem aSh {a b:Nat} (ha:a<PP) (hb:b<PP) (h:nq a=nq b):a=b:=by
 have:=congrArg Fin.val h
 rwa [aS3 a ha,aS3 b hb] at this
theorem aG8 {l:List (Nat×Fq)} (h1:∀ p∈l,p.1<PP) (hn:(l.map (·.1)).Nodup):((pts l).map (·.1)).Nodup:=by
 simp only [pts,List.map_map]
 rw [List.Nodup,List.pairwise_map] at hn ⊢
 exact hn.imp_of_mem fun ha hb h e=>h (aSh (h1 _ ha) (h1 _ hb) e)
theorem bAj {l:List (Nat×Fq)} (h1:∀ p∈l,p.1<PP):(l.map fun p=>[uv p.1])=fl ((pts l).map (·.1)):=by
 simp only [fl,pts,List.map_map]
 refine List.map_congr_left fun p hp=>?_
 simp only [Function.comp,pI _ (h1 p hp)]
theorem bAk (l:List (Nat×Fq)):(l.map fun p=>[AV.v (fu p.2)])=fl ((pts l).map (·.2)):=by
 simp only [fl,pts,List.map_map];rfl
section
variable {G:Nat->Option (List AV)}
set_option maxHeartbeats 4000000
theorem aSi (l:List (Nat×Fq)) (x:Fq) (hl:l.length<=1000) (h0:l≠[]) (h1:∀ p∈l,p.1<PP) (hn:(0::l.map (·.1)).Nodup):aD prog G aDb [shs l,.v (fu x)] [] fun r T=>r=.tup [.v (fu (aXt l x)),iv 0]/\T=[]:=by
 refine aF aLN (by decide) ?_
 unfold aJP
 dsimp only [zj,zT,zF,zC,zE,zP,zQ,zq,zA,zm,zo,zs,zg,zh,zl,zv,zf,zi,zn,zb,zc,ze,zk,zw,zu,zt,zr,zR,zK,zN,zS,z0,zU]
 have hpos:=List.length_pos_iff.2 h0
 have hz:((l.length:Int)==0)=false:=by rw [beq_eq_false_iff_ne];omega
 have ha:=aZt (G:=G) l hl h1 hn
 simp only [go_sem,↓reduceIte,List.length_map,hz]
 refine aC (aA _) rfl ha rfl ?_
 simp only [go_sem,↓reduceIte]
 refine aL l.length (fun i=>⟨0,[(1,.v (fu x)),(6,.own 0),(7,.own 1),(18,shs l),(19,iv l.length),(20,iv i)],[some (.arr 1 ((l.take i).map fun p=>[uv p.1])),some (.arr 1 ((l.take i).map fun p=>[AV.v (fu p.2)]))]⟩) (fun _=>True) ?_ trivial ?_ ?_
 ·simp only [go_sem,↓reduceIte,List.take_zero,List.map_nil]
 ·intro i hi _
  have hd:decide (((i:Nat):Int)<(l.length:Int))=true:=decide_eq_true (by omega)
  have ws:=aH (show i<9223372036854775807 by omega)
  have g0:(l.map fW)[i]?=some [uv l[i].1,.v (fu l[i].2)]:=by simp [fW,hi]
  have ht:l.take (i+1)=l.take i++[l[i]]:=(List.take_append_getElem hi).symm
  have hlen:(l.take i).length=i:=by simp;omega
  have b1:i+1<=maxLen:=by unfold maxLen;omega
  have b2:(i+1)*8<=140737488355328:=by omega
  rw [ht]
  generalize l.take i=q at *
  simp only [go_sem,↓reduceIte,List.length_map,hd,g0,ws,hlen,b1,b2,List.map_append,List.map_cons,List.map_nil]
 ·intro _
  have hd:decide (((l.length:Nat):Int)<(l.length:Int))=false:=decide_eq_false (by omega)
  have hF:=aXj (G:=G) (pts l) _ _ rfl rfl (aG8 h1 (List.nodup_cons.1 hn).2) (by simpa [pts] using hl) (by simpa [pts] using h0)
  have hpl:(yG (pts l)).length<=1000000:=by
   have h:=aG6 (aG8 h1 (List.nodup_cons.1 hn).2)
   have e:(pts l).length=l.length:=by simp [pts]
   rw [e] at h;omega
  have hE:=aOu (G:=G) (yG (pts l)) x hpl
  rw [List.take_length,bAj h1,bAk]
  generalize (pts l).map (·.1)=X at *
  generalize (pts l).map (·.2)=Y at *
  simp only [go_sem,↓reduceIte,hd]
  refine aIb [0,1] [0,1] (aA _) (args3:=[.ls 1 (fl X),.ls 1 (fl Y)]) (by decide) (by simp) rfl rfl (by simp only [go_sem,↓reduceIte]) rfl (by simp only [go_sem,↓reduceIte]) hF (by simp only [go_sem,↓reduceIte]) ?_
  simp only [go_sem,↓reduceIte]
  refine aC (aA _) rfl hE rfl ?_
  simp only [go_sem,↓reduceIte]
  rfl
theorem aEX (l:List (Nat×Fq)) (hl:l.length<=1000) (h0:l≠[]) (h1:∀ p∈l,p.1<PP) (hn:(0::l.map (·.1)).Nodup):aD prog G dW [shs l] [] fun r T=>r=.tup [.v (fu (aXt l 0)),iv 0]/\T=[]:=by
 refine aF aHw (by decide) ?_
 unfold aEA
 dsimp only [zj,zT,zF,zC,zE,zP,zQ,zq,zA,zm,zo,zs,zg,zh,zl,zv,zf,zi,zn,zb,zc,ze,zk,zw,zu,zt,zr,zR,zK,zN,zS,z0,zU]
 simp only [go_sem,↓reduceIte]
 refine aC (aA _) rfl (aSi l 0 hl h0 h1 hn) rfl ?_
 simp only [go_sem,↓reduceIte]
end
end
section
structure EvT where
 fn:Nat->Option HFun
 pr:Nat->List AV->Tab->Option (AV×Tab)
inductive ER where
 | bad
 | ok (e:Ex) (st:St)
def aZu:Value->Value->Bool
 | .int k a,.int k' b=>k==k'&&a==b
 | .bool a,.bool b=>a==b
 | .slice none a b,.slice none c d=>Nat.beq a c&&Nat.beq b d
 | .pointer none,.pointer none=>true
 | _,_=>false
mutual
def aAP:AV->AV->Bool
 | .v x,.v y=>aZu x y
 | .ls k l,.ls k' m=>Nat.beq k k'&&aSj l m
 | .ag l,.ag m=>aM7 l m
 | .tup l,.tup m=>aM7 l m
 | .rp l,.rp m=>aM7 l m
 | .own i,.own j=>Nat.beq i j
 | .mp i,.mp j=>Nat.beq i j
 | .ptr i a,.ptr j b=>Nat.beq i j&&Nat.beq a b
 | .elt i a b c,.elt j d e f=>Nat.beq i j&&(Nat.beq a d&&(Nat.beq b e&&Nat.beq c f))
 | .vw i a b c,.vw j d e f=>Nat.beq i j&&(Nat.beq a d&&(Nat.beq b e&&Nat.beq c f))
 | _,_=>false
def aM7:List AV->List AV->Bool
 | [],[]=>true
 | x::l,y::m=>aAP x y&&aM7 l m
 | _,_=>false
def aSj:List (List AV)->List (List AV)->Bool
 | [],[]=>true
 | x::l,y::m=>aM7 x y&&aSj l m
 | _,_=>false
end
def bBr:Option AObj->Option AObj->Bool
 | none,none=>true
 | some (.box l),some (.box m)=>aM7 l m
 | some (.arr k l),some (.arr k' m)=>Nat.beq k k'&&aSj l m
 | some (.arf k l),some (.arf k' m)=>Nat.beq k k'&&aSj l m
 | _,_=>false
def aNl:Tab->Tab->Bool
 | [],[]=>true
 | x::l,y::m=>bBr x y&&aNl l m
 | _,_=>false
def aVh:List (Nat×AV)->List (Nat×AV)->Bool
 | [],[]=>true
 | x::l,y::m=>Nat.beq x.1 y.1&&(aAP x.2 y.2&&aVh l m)
 | _,_=>false
def aXu (a b:St):Bool:=Nat.beq a.r b.r&&(aVh a.s b.s&&aNl a.T b.T)
def aSk:List (Nat×AV)->Nat->AV
 | [],_=>.any
 | p::r,j=>match Nat.beq p.1 j with | true=>p.2 | false=>aSk r j
def aXv:List (Nat×AV)->Nat->List (Nat×AV)
 | [],_=>[]
 | p::r,j=>match Nat.beq p.1 j with | true=>aXv r j | false=>p::aXv r j
def aEY (l:List (Nat×AV)) (d:Option Nat) (x:AV):List (Nat×AV):=match d with | some j=>(j,x)::aXv l j | none=>l
def aZv (i:Nat):List Nat->Bool
 | []=>false
 | j::r=>match Nat.beq i j with | true=>true | false=>aZv i r
def aQr (d:List Nat):List (Nat×AV)->List (Nat×AV)
 | []=>[]
 | p::r=>match aZv p.1 d with | true=>aQr d r | false=>p::aQr d r
theorem aXw {i j:Nat} (h:i≠j):Nat.beq i j=false:=by
 cases e:Nat.beq i j with
 | false=>rfl
 | true=>exact absurd (Nat.eq_of_beq_eq_true e) h
theorem pK:∀ (l:List (Nat×AV)) (j:Nat),aSk l j=aK l j
 | [],_=>rfl
 | (i,x)::r,j=>by
  simp only [aSk,aK]
  by_cases h:i=j
  ·subst h;rw [Nat.beq_refl];simp
  ·rw [if_neg h,aXw h];exact pK r j
theorem aOI:∀ (l:List (Nat×AV)) (j:Nat),aXv l j=aDR l j
 | [],_=>rfl
 | (i,x)::r,j=>by
  simp only [aXv,aDR]
  by_cases h:i=j
  ·subst h;rw [Nat.beq_refl,if_pos rfl];exact aOI r i
  ·rw [if_neg h,aXw h];simp only [aOI r j]
theorem wI (l:List (Nat×AV)) (d:Option Nat) (x:AV):aEY l d x=cG l d x:=by
 cases d with
 | none=>rfl
 | some j=>simp only [aEY,cG,aAQ,aOI]
theorem aTR (i:Nat):∀ d:List Nat,aZv i d=d.contains i
 | []=>rfl
 | j::r=>by
  simp only [aZv,List.contains_cons]
  by_cases h:i=j
  ·subst h;rw [Nat.beq_refl];simp
  ·rw [aXw h,aTR i r];simp [h]
theorem pL (d:List Nat):∀ l:List (Nat×AV),aQr d l=hZ d l
 | []=>rfl
 | (i,x)::r=>by
  simp only [aQr,hZ,aTR,pL d r]
  cases d.contains i<;>simp
def aHM (G:Nat->Option (List AV)) (s:List (Nat×AV)):Operand->AV
 | .tmp t=>aSk s t
 | .const x=>.v x
 | .global g=>match G g with | some cs=>.rp cs | none=>.any
 | .func f=>.cl f []
theorem wJ (G:Nat->Option (List AV)) (s:List (Nat×AV)):aHM G s=evO G s:=by
 funext x
 cases x with
 | tmp t=>simp [aHM,evO,pK]
 | const c=>rfl
 | global g=>simp only [aHM,evO];cases G g<;>rfl
 | func f=>rfl
def aDH (s:List (Nat×AV)):Option (Nat×Bool)->Option Bool
 | none=>some true
 | some (j,b)=>match aSk s j with
  | .v (.bool t)=>some (t==b)
  | .v (.tuple _)=>some false
  | _=>none
theorem oM (s:List (Nat×AV)) (g:Option (Nat×Bool)):aDH s g=cL s g:=by
 cases g with
 | none=>rfl
 | some p=>obtain ⟨j,b⟩:=p;simp only [aDH,cL,pK];cases aK s j with
  | v x=>cases x<;>rfl
  | _=>rfl
def bDg:HD->Bool
 | .no=>true
 | _=>false
def aXx (r1:Option St) (n:Bool) (r2:Option St):Option St:=match n with
 | true=>r1
 | false=>match r1,r2 with
  | some s1,some s2=>if aXu s1 s2 then some s1 else none
  | _,_=>none
section
variable (G:Nat->Option (List AV)) (tb:EvT)
def aQs (h:HFun):ER->Option (AV×Tab)
 | .ok .normal st=>match aFv st h.res with
  | some l=>let r:=aD6 l;let L:=pT st.T (List.range st.r++eN r);some (rnA L r,rnT L st.T)
  | none=>none
 | .ok .ret st=>match aFv st h.res with
  | some l=>let r:=aD6 l;let L:=pT st.T (List.range st.r++eN r);some (rnA L r,rnT L st.T)
  | none=>none
 | _=>none
def evB (ev:HC->St->ER) (f:Nat) (args:List AV) (T:Tab):Option (AV×Tab) :=
 match tb.pr f args T with
 | some x=>some x
 | none=>match tb.fn f with
  | some h=>aQs h (ev h.code ⟨T.length,lN 0 args,T⟩)
  | none=>none
def aOJ (ev:HC->St->ER) (f:Nat) (args:List AV) (T:Tab):Option (AV×Tab) :=
 match fI args with
 | []=>match evB tb ev f args [] with
  | some (r,T')=>some (bkA [] T.length r,T++T'.map (bkO [] T.length))
  | none=>none
 | ids=>let L:=(pT T ids).filter (· < T.length)
  match evB tb ev f (rnL L args) (rnT L T) with
  | some (r,T')=>some (bkA L T.length r,bkT L T.length T L T')
  | none=>none
def aXy (ev:HC->St->ER) (st:St):HOp->Option (AV×Tab)
 | .call f args=>match aHM G st.s f with
  | .cl g caps=>aOJ tb ev g (args.map (aHM G st.s)++caps) st.T
  | .bm g k cs=>aOJ tb ev g (cs.take k++args.map (aHM G st.s)++cs.drop k) st.T
  | _=>none
 | .nxt _=>none
 | .nilS neg kd x=>if aNP kd (aHM G st.s x) then none else hop st.T (aHM G st.s) (.nilS neg kd x)
 | o=>hop st.T (aHM G st.s) o
def aNm (ev:HC->St->ER):List HOper->St->Option St
 | [],st=>some st
 | o::os,st=>match aDH st.s o.guard with
  | some true=>match aXy G tb ev st o.op with
   | some (x,T)=>aNm ev os ⟨st.r,aEY st.s o.dst x,T⟩
   | none=>none
  | some false=>aNm ev os ⟨st.r,aEY st.s o.dst (.v undef),st.T⟩
  | none=>none
def aKS (st:St):List HOper->Bool
 | []=>true
 | o::os=>(match aDH st.s o.guard,o.dst with
  | some true,some d=>match hop st.T (aHM G st.s) o.op with
   | some (x,_)=>aAP (aSk st.s d) x
   | none=>false
  | some false,some d=>(match aSk st.s d with | .v (.tuple a)=>a.size==0 | _=>false)
  | _,_=>false)&&aKS st os
def aDI (ev:HC->St->ER):HD->St->Option St
 | .done b,st=>some (if b then gcs [] st else st)
 | .q o next,st=>match aDH st.s o.guard with
  | some true=>match hop st.T (aHM G st.s) o.op with
   | some (x,_)=>aDI ev next ⟨st.r,aEY st.s o.dst x,st.T⟩
   | none=>none
  | some false=>aDI ev next ⟨st.r,aEY st.s o.dst (.v undef),st.T⟩
  | none=>none
 | .alt o chk next other,st=>aXx (match aDH st.s o.guard with
  | some true=>match aXy G tb ev st o.op with
   | some (x,T)=>if aKS G ⟨st.r,aEY st.s o.dst x,T⟩ chk then aDI ev next ⟨st.r,aEY st.s o.dst x,T⟩ else none
   | none=>none
  | some false=>if aKS G ⟨st.r,aEY st.s o.dst (.v undef),st.T⟩ chk then aDI ev next ⟨st.r,aEY st.s o.dst (.v undef),st.T⟩ else none
  | none=>none) (bDg other) (aDI ev other st)
 | _,_=>none
def evC:Nat->HC->St->ER
 | 0,_,_=>.bad
 | n+1,hc,st=>match hc with
  | .skip=>.ok .normal st
  | .reg ops=>match aNm G tb (evC n) ops st with
   | some s=>.ok .normal s
   | none=>.bad
  | .regd d=>match aDI G tb (evC n) d st with
   | some s=>.ok .normal s
   | none=>.bad
  | .seq a b=>match evC n a st with
   | .ok .normal s=>evC n b s
   | r=>r
  | .cond c a b=>match aHM G st.s c with
   | .v (.bool true)=>evC n a st
   | .v (.bool false)=>evC n b st
   | _=>.bad
  | .block id a=>match evC n a st with
   | .ok (.exit j) s=>if j=id then .ok .normal s else .ok (.exit j) s
   | r=>r
  | .loop d a=>match evC n a st with
   | .ok .normal s=>evC n (.loop d a) (gcs d s)
   | r=>r
  | .exit id=>.ok (.exit id) st
  | .ret=>.ok .ret st
  | .kill d=>.ok .normal ⟨st.r,aQr d st.s,st.T⟩
  | .own j c k=>.ok .normal (aIs st j c k)
  | .shut j=>.ok .normal (gcs [] (aIt st j))
  | .rng _ _ _ _ _=>.bad
def evF (n:Nat) (f:Nat) (args:List AV) (T:Tab):Option (AV×Tab):=evB tb (evC G tb n) f args T
end
structure EvT.Ok (P:Program) (G:Nat->Option (List AV)) (tb:EvT):Prop where
 fn:∀ f h,tb.fn f=some h->∃ H,aB P f H=some h
 pr:∀ f args T r T',tb.pr f args T=some (r,T')->aD P G f args T fun r' T''=>r'=r/\T''=T'
section
variable {P:Program} {G:Nat->Option (List AV)} {tb:EvT}
def aOK (P:Program) (G:Nat->Option (List AV)) (ev:HC->St->ER):Prop:=∀ hc st e st',ev hc st=.ok e st'->∀ Q:Ex->St->Prop,Q e st'->cF P G hc Q st
theorem aSl (ht:tb.Ok P G) {ev:HC->St->ER} (he:aOK P G ev) {f:Nat} {args:List AV} {T:Tab} {r:AV} {T':Tab} (h:evB tb ev f args T=some (r,T')):aD P G f args T fun r' T''=>r'=r/\T''=T':=by
 unfold evB at h
 split at h
 ·rename_i x hx
  injection h with h
  subst h
  exact ht.pr _ _ _ _ _ hx
 ·split at h
  ·rename_i hf hh
   obtain ⟨H,hc⟩:=ht.fn _ _ hh
   refine aTg hc trivial ?_
   unfold bAw
   cases hev:ev hf.code ⟨T.length,lN 0 args,T⟩ with
   | bad=>rw [hev] at h;simp [aQs] at h
   | ok e st =>
    rw [hev] at h
    refine he _ _ _ _ hev _ ?_
    cases e with
    | normal =>
     simp only [aQs] at h
     simp only [aTf,aPG]
     cases hr:aFv st hf.res with
     | none=>rw [hr] at h;simp at h
     | some l=>rw [hr] at h;simp only [Option.some.injEq,Prod.mk.injEq] at h;exact .inl ⟨h.1,h.2⟩
    | ret =>
     simp only [aQs] at h
     simp only [aTf,aPG]
     cases hr:aFv st hf.res with
     | none=>rw [hr] at h;simp at h
     | some l=>rw [hr] at h;simp only [Option.some.injEq,Prod.mk.injEq] at h;exact .inl ⟨h.1,h.2⟩
    | exit i=>simp [aQs] at h
  ·simp at h
theorem aNn (ht:tb.Ok P G) {ev:HC->St->ER} (he:aOK P G ev) {f:Nat} {args:List AV} {T:Tab} {r:AV} {T':Tab} {K:AV->Tab->Prop} (h:aOJ tb ev f args T=some (r,T')) (hk:K r T'):aDT P G f args T K:=by
 unfold aOJ at h
 split at h
 ·rename_i hi
  split at h
  ·rename_i r0 T0 h0
   simp only [Option.some.injEq,Prod.mk.injEq] at h
   exact gL (K:=K) (aA args) hi (aSl ht he h0) fun r1 T1 ⟨e1,e2⟩=>by rw [e1,e2,h.1,h.2];exact hk
  ·simp at h
 ·simp only at h
  split at h
  ·rename_i r0 T0 h0
   simp only [Option.some.injEq,Prod.mk.injEq] at h
   exact aOg (K:=K) (aA args) rfl rfl rfl (aSl ht he h0) fun r1 T1 ⟨e1,e2⟩=>by rw [e1,e2,h.1,h.2];exact hk
  ·simp at h
theorem aTS (ht:tb.Ok P G) {ev:HC->St->ER} (he:aOK P G ev) {st:St} {o:HOp} {r:AV} {T':Tab} {K:AV->Tab->Prop} (h:aXy G tb ev st o=some (r,T')) (hk:K r T'):opW P G st o K:=by
 unfold aXy at h
 simp only [wJ,wI,oM,pL,pK] at h
 split at h
 ·rename_i f args
  simp only [opW]
  split at h
  ·rename_i g caps e;simp only [e];exact aNn ht he h hk
  ·rename_i g k cs e;simp only [e];exact aNn ht he h hk
  ·simp at h
 ·simp at h
 ·simp only [opW]
  split at h
  ·simp at h
  ·rename_i hn
   rw [if_neg hn,h]
   exact hk
 ·rename_i h1 h2 h3
  unfold opW
  split
  ·exact absurd rfl (h1 _ _)
  ·exact absurd rfl (h2 _)
  ·exact absurd rfl (h3 _ _ _)
  ·rw [h];exact hk
theorem aKT (ht:tb.Ok P G) {ev:HC->St->ER} (he:aOK P G ev) {K:St->Prop}:∀ {os:List HOper} {st s:St},aNm G tb ev os st=some s->K s->aFh P G os st K
 | [],st,s,h,hk=>by simp only [aNm,Option.some.injEq] at h;subst h;exact hk
 | o::os,st,s,h,hk=>by
  simp only [aNm,wJ,wI,oM,pL,pK] at h
  simp only [aFh]
  split at h
  ·rename_i hw
   simp only [hw]
   split at h
   ·rename_i x T hx
    exact aTS ht he hx (aKT ht he h hk)
   ·simp at h
  ·rename_i hw
   simp only [hw]
   exact aKT ht he h hk
  ·simp at h
theorem aIg {x y:Value} (h:aZu x y=true):x=y:=by
 unfold aZu at h
 split at h<;>simp_all
mutual
theorem aOL:∀ (x y:AV),aAP x y=true->x=y
 | .v x,y,h=>by
  cases y<;>simp only [aAP,Bool.false_eq_true] at h
  rw [aIg h]
 | .ls k l,y,h=>by
  cases y<;>simp only [aAP,Bool.false_eq_true,Bool.and_eq_true,Nat.beq_eq] at h
  rw [h.1,aIh l _ h.2]
 | .ag l,y,h=>by
  cases y<;>simp only [aAP,Bool.false_eq_true] at h
  rw [aAn l _ h]
 | .tup l,y,h=>by
  cases y<;>simp only [aAP,Bool.false_eq_true] at h
  rw [aAn l _ h]
 | .rp l,y,h=>by
  cases y<;>simp only [aAP,Bool.false_eq_true] at h
  rw [aAn l _ h]
 | .own i,y,h=>by
  cases y<;>simp only [aAP,Bool.false_eq_true,Nat.beq_eq] at h
  rw [h]
 | .mp i,y,h=>by
  cases y<;>simp only [aAP,Bool.false_eq_true,Nat.beq_eq] at h
  rw [h]
 | .ptr i a,y,h=>by
  cases y<;>simp only [aAP,Bool.false_eq_true,Bool.and_eq_true,Nat.beq_eq] at h
  rw [h.1,h.2]
 | .elt i a b c,y,h=>by
  cases y<;>simp only [aAP,Bool.false_eq_true,Bool.and_eq_true,Nat.beq_eq] at h
  rw [h.1,h.2.1,h.2.2.1,h.2.2.2]
 | .vw i a b c,y,h=>by
  cases y<;>simp only [aAP,Bool.false_eq_true,Bool.and_eq_true,Nat.beq_eq] at h
  rw [h.1,h.2.1,h.2.2.1,h.2.2.2]
 | .yl i,y,h=>by cases y<;>simp only [aAP,Bool.false_eq_true] at h
 | .bm f k cs,y,h=>by cases y<;>simp only [aAP,Bool.false_eq_true] at h
 | .cl f cs,y,h=>by cases y<;>simp only [aAP,Bool.false_eq_true] at h
 | .any,y,h=>by cases y<;>simp only [aAP,Bool.false_eq_true] at h
theorem aAn:∀ (x y:List AV),aM7 x y=true->x=y
 | [],y,h=>by cases y<;>simp only [aM7,Bool.false_eq_true] at h;rfl
 | x::l,y,h=>by
  cases y<;>simp only [aM7,Bool.false_eq_true,Bool.and_eq_true] at h
  rw [aOL x _ h.1,aAn l _ h.2]
theorem aIh:∀ (x y:List (List AV)),aSj x y=true->x=y
 | [],y,h=>by cases y<;>simp only [aSj,Bool.false_eq_true] at h;rfl
 | x::l,y,h=>by
  cases y<;>simp only [aSj,Bool.false_eq_true,Bool.and_eq_true] at h
  rw [aAn x _ h.1,aIh l _ h.2]
end
theorem aZw:∀ {x y:Option AObj},bBr x y=true->x=y:=by
 intro x y h
 unfold bBr at h
 split at h
 ·rfl
 ·rw [aAn _ _ h]
 ·simp only [Bool.and_eq_true,Nat.beq_eq] at h
  rw [h.1,aIh _ _ h.2]
 ·simp only [Bool.and_eq_true,Nat.beq_eq] at h
  rw [h.1,aIh _ _ h.2]
 ·simp at h
theorem aQt:∀ {x y:Tab},aNl x y=true->x=y
 | [],[],_=>rfl
 | x::l,y::m,h=>by
  simp only [aNl,Bool.and_eq_true] at h
  rw [aZw h.1,aQt h.2]
 | [],_::_,h=>by simp [aNl] at h
 | _::_,[],h=>by simp [aNl] at h
theorem aTT:∀ {x y:List (Nat×AV)},aVh x y=true->x=y
 | [],[],_=>rfl
 | (i,x)::l,(j,y)::m,h=>by
  simp only [aVh,Bool.and_eq_true,Nat.beq_eq] at h
  rw [h.1,aOL _ _ h.2.1,aTT h.2.2]
 | [],_::_,h=>by simp [aVh] at h
 | _::_,[],h=>by simp [aVh] at h
theorem aXz {a b:St} (h:aXu a b=true):a=b:=by
 obtain ⟨r,s,T⟩:=a
 obtain ⟨r',s',T'⟩:=b
 simp only [aXu,Bool.and_eq_true,Nat.beq_eq] at h
 rw [h.1,aTT h.2.1,aQt h.2.2]
theorem aXA {r1 r2:Option St} {n:Bool} {s:St} (h:aXx r1 n r2=some s):r1=some s/\(n=true\/r2=some s):=by
 unfold aXx at h
 split at h
 ·exact ⟨h,.inl rfl⟩
 ·split at h
  ·split at h
   ·rename_i hb
    have:=aXz hb
    subst this
    exact ⟨h,.inr h⟩
   ·simp at h
  ·simp at h
theorem aKU {st:St}:∀ {os:List HOper},aKS G st os=true->kK G st os
 | [],_=>trivial
 | o::os,h=>by
  simp only [aKS,wJ,wI,oM,pL,pK,Bool.and_eq_true] at h
  refine ⟨?_,aKU h.2⟩
  have h1:=h.1
  split at h1
  ·rename_i d hw hd
   simp only [hw,hd,Option.map_some]
   split at h1
   ·rename_i x T hx
    simp only [hx]
    rw [aOL _ _ h1]
   ·simp at h1
  ·rename_i d hw hd
   simp only [hw,hd,Option.map_some]
   split at h1
   ·rename_i a ha
    rw [ha]
    have:a=#[]:=by simpa using h1
    subst this;rfl
   ·simp at h1
  ·simp at h1
theorem aCd (ht:tb.Ok P G) {ev:HC->St->ER} (he:aOK P G ev) {K:St->Prop}:∀ {d:HD} {st s:St},aDI G tb ev d st=some s->K s->hdW P G d st K
 | .done b,st,s,h,hk=>by simp only [aDI,Option.some.injEq] at h;subst h;exact hk
 | .no,st,s,h,hk=>by simp [aDI] at h
 | .q o next,st,s,h,hk=>by
  simp only [aDI,wJ,wI,oM,pL,pK] at h
  simp only [hdW]
  split at h
  ·rename_i hw
   simp only [hw]
   split at h
   ·rename_i x T hx
    simp only [hx]
    exact aCd ht he h hk
   ·simp at h
  ·rename_i hw
   simp only [hw]
   exact aCd ht he h hk
  ·simp at h
 | .alt o chk next other,st,s,h,hk=>by
  have first:∀ {s:St},(match aDH st.s o.guard with
   | some true=>match aXy G tb ev st o.op with
    | some (x,T)=>if aKS G ⟨st.r,aEY st.s o.dst x,T⟩ chk then aDI G tb ev next ⟨st.r,aEY st.s o.dst x,T⟩ else none
    | none=>none
   | some false=>if aKS G ⟨st.r,aEY st.s o.dst (.v undef),st.T⟩ chk then aDI G tb ev next ⟨st.r,aEY st.s o.dst (.v undef),st.T⟩ else none
   | none=>none)=some s->K s->(match cL st.s o.guard with
  | some true=>opW P G st o.op fun x T=>kK G ⟨st.r,cG st.s o.dst x,T⟩ chk/\hdW P G next ⟨st.r,cG st.s o.dst x,T⟩ K
  | some false=>kK G ⟨st.r,cG st.s o.dst (.v undef),st.T⟩ chk/\hdW P G next ⟨st.r,cG st.s o.dst (.v undef),st.T⟩ K
  | none=>False):=by
   intro s h hk
   simp only [wJ,wI,oM,pL,pK] at h
   split at h
   ·rename_i hw
    split at h
    ·rename_i x T hx
     split at h
     ·rename_i hc
      exact aTS ht he hx ⟨aKU hc,aCd ht he h hk⟩
     ·simp at h
    ·simp at h
   ·rename_i hw
    split at h
    ·rename_i hc
     exact ⟨aKU hc,aCd ht he h hk⟩
    ·simp at h
   ·simp at h
  simp only [aDI] at h
  obtain ⟨h1,h2⟩:=aXA h
  simp only [hdW]
  refine ⟨first h1 hk,?_⟩
  rcases h2 with h2 | h2
  ·cases other<;>simp [bDg] at h2
   simp only [hdW]
  ·exact aCd ht he h2 hk
 | .perm _ _ _,st,s,h,hk=>by simp [aDI] at h
 | .plan _ _ _ _ _,st,s,h,hk=>by simp [aDI] at h
theorem aXB (ht:tb.Ok P G) (n:Nat) (ihs:∀ m,m<=n->aOK P G (evC G tb m)):aOK P G (evC G tb (n+1)):=by
  intro hc st e st' h Q hq
  have ih:=ihs n (Nat.le_refl n)
  simp only [evC,wJ,wI,oM,pL,pK] at h
  cases hc with
  | skip=>simp only [ER.ok.injEq] at h;obtain ⟨rfl,rfl⟩:=h;exact hq
  | reg ops =>
   simp only at h
   split at h
   ·rename_i s hs
    simp only [ER.ok.injEq] at h
    obtain ⟨rfl,rfl⟩:=h
    exact aKT ht ih hs hq
   ·simp at h
  | regd d =>
   simp only at h
   split at h
   ·rename_i s hs
    simp only [ER.ok.injEq] at h
    obtain ⟨rfl,rfl⟩:=h
    exact aCd ht ih hs hq
   ·simp at h
  | seq a b =>
   simp only at h
   simp only [cF]
   split at h
   ·rename_i s hs
    exact ih _ _ _ _ hs _ (ih _ _ _ _ h _ hq)
   ·rename_i hs
    refine ih _ _ _ _ h _ ?_
    cases e with
    | normal=>exact absurd h (hs _)
    | exit i=>exact hq
    | ret=>exact hq
  | cond c a b =>
   simp only at h
   simp only [cF]
   split at h
   ·rename_i hc;simp only [hc,if_true];exact ih _ _ _ _ h _ hq
   ·rename_i hc;simp only [hc,Bool.false_eq_true,if_false];exact ih _ _ _ _ h _ hq
   ·simp at h
  | block id a =>
   simp only at h
   simp only [cF]
   split at h
   ·rename_i j s hs
    refine ih _ _ _ _ hs _ ?_
    split at h
    ·rename_i hj
     simp only [ER.ok.injEq] at h
     obtain ⟨rfl,rfl⟩:=h
     simp only [hj,if_true];exact hq
    ·rename_i hj
     simp only [ER.ok.injEq] at h
     obtain ⟨rfl,rfl⟩:=h
     simp only [hj,if_false];exact hq
   ·rename_i hs
    refine ih _ _ _ _ h _ ?_
    cases e with
    | normal=>exact hq
    | exit i=>exact absurd h (hs _ _)
    | ret=>exact hq
  | loop d a =>
   simp only at h
   simp only [cF]
   refine ⟨fun m s=>m<=n+1/\evC G tb m (.loop d a) s=.ok e st',⟨n+1,.inr ⟨Nat.le_refl _,by simp only [evC,wJ,wI,oM,pL,pK];exact h⟩⟩,fun m s ⟨hm,hs⟩=>?_⟩
   cases m with
   | zero=>simp [evC] at hs
   | succ m =>
    simp only [evC,wJ,wI,oM,pL,pK] at hs
    have ih2:=ihs m (by omega)
    split at hs
    ·rename_i s1 h1
     exact ih2 _ _ _ _ h1 _ ⟨m,Nat.lt_succ_self _,.inl ⟨by omega,hs⟩⟩
    ·rename_i hn
     refine ih2 _ _ _ _ hs _ ?_
     cases e with
     | normal=>exact absurd hs (hn _)
     | exit i=>exact hq
     | ret=>exact hq
  | exit id=>simp only [ER.ok.injEq] at h;obtain ⟨rfl,rfl⟩:=h;exact hq
  | ret=>simp only [ER.ok.injEq] at h;obtain ⟨rfl,rfl⟩:=h;exact hq
  | kill d=>simp only [ER.ok.injEq] at h;obtain ⟨rfl,rfl⟩:=h;exact hq
  | own j c k=>simp only [ER.ok.injEq] at h;obtain ⟨rfl,rfl⟩:=h;exact hq
  | shut j=>simp only [ER.ok.injEq] at h;obtain ⟨rfl,rfl⟩:=h;exact hq
  | rng g ps d a b=>simp at h
theorem aZx (ht:tb.Ok P G) (n:Nat):∀ m,m<=n->aOK P G (evC G tb m):=by
 induction n with
 | zero =>
  intro m hm
  obtain rfl:m=0:=by omega
  intro hc st e st' h
  simp [evC] at h
 | succ n ih =>
  intro m hm
  rcases Nat.lt_or_ge m (n+1) with h | h
  ·exact ih m (by omega)
  ·obtain rfl:m=n+1:=by omega
   exact aXB ht n ih
theorem bBs (ht:tb.Ok P G) (n:Nat):aOK P G (evC G tb n):=aZx ht n n (Nat.le_refl n)
theorem bBt (ht:tb.Ok P G) {n:Nat} {f:Nat} {args:List AV} {T:Tab} {r:AV} {T':Tab} (h:evF G tb n f args T=some (r,T')):aD P G f args T fun r' T''=>r'=r/\T''=T':=aSl ht (bBs ht n) h
end
def lkF:List (Nat×HFun)->Nat->Option HFun
 | [],_=>none
 | p::r,f=>match Nat.beq p.1 f with | true=>some p.2 | false=>lkF r f
def TOk (P:Program):List (Nat×HFun)->Prop
 | []=>True
 | p::r=>(∃ H,aB P p.1 H=some p.2)/\TOk P r
theorem aXC {P:Program}:∀ {l:List (Nat×HFun)},TOk P l->∀ f h,lkF l f=some h->∃ H,aB P f H=some h
 | [],_,f,h,e=>by simp [lkF] at e
 | p::r,ht,f,h,e=>by
  simp only [lkF] at e
  split at e
  ·rename_i hb
   injection e with e
   rw [<-Nat.eq_of_beq_eq_true hb,<-e];exact ht.1
  ·exact aXC ht.2 f h e
end
section
def prF:List (Nat×List AV×AV)->Nat->List AV->Tab->Option (AV×Tab)
 | [],_,_,_=>none
 | p::r,f,args,T=>match T with
  | []=>if Nat.beq p.1 f&&aM7 p.2.1 args then some (p.2.2,[]) else prF r f args []
  | _=>none
def aEZ (P:Program) (G:Nat->Option (List AV)):List (Nat×List AV×AV)->Prop
 | []=>True
 | p::r=>aD P G p.1 p.2.1 [] (fun r' T'=>r'=p.2.2/\T'=[])/\aEZ P G r
theorem aXD {P:Program} {G:Nat->Option (List AV)}:∀ {l:List (Nat×List AV×AV)},aEZ P G l->∀ f args T r T',prF l f args T=some (r,T')->aD P G f args T fun r' T''=>r'=r/\T''=T'
 | [],_,f,args,T,r,T',e=>by simp [prF] at e
 | p::l,h,f,args,T,r,T',e=>by
  simp only [prF] at e
  split at e
  ·split at e
   ·rename_i hb
    simp only [Bool.and_eq_true] at hb
    simp only [Option.some.injEq,Prod.mk.injEq] at e
    obtain ⟨rfl,rfl⟩:=e
    rw [<-Nat.eq_of_beq_eq_true hb.1,<-aAn _ _ hb.2]
    exact h.1
   ·exact aXD h.2 f args _ r T' e
  ·simp at e
mutual
def uQ:AV->AV->Bool
 | .v x,.v y=>aZu x y
 | .v (.slice none 0 0),.ls _ []=>true
 | .ls k l,.ls k' m=>Nat.beq k k'&&aHj l m
 | .ag l,.ag m=>wK l m
 | .tup l,.tup m=>wK l m
 | _,_=>false
def wK:List AV->List AV->Bool
 | [],[]=>true
 | x::l,y::m=>uQ x y&&wK l m
 | _,_=>false
def aHj:List (List AV)->List (List AV)->Bool
 | [],[]=>true
 | x::l,y::m=>wK x y&&aHj l m
 | _,_=>false
end
theorem aNo:∀ {l m:List (List AV)},aHj l m=true->l.length=m.length
 | [],[],_=>rfl
 | x::l,y::m,h=>by
  simp only [aHj,Bool.and_eq_true] at h
  simp only [List.length_cons,aNo h.2]
 | [],_::_,h=>by simp [aHj] at h
 | _::_,[],h=>by simp [aHj] at h
theorem aNp:∀ {l m:List AV},wK l m=true->l.length=m.length
 | [],[],_=>rfl
 | x::l,y::m,h=>by
  simp only [wK,Bool.and_eq_true] at h
  simp only [List.length_cons,aNp h.2]
 | [],_::_,h=>by simp [wK] at h
 | _::_,[],h=>by simp [wK] at h
theorem aQu {x y:AV} (h:uQ x y=true) (hc:aP x=true):aP y=true:=by
 cases x<;>cases y<;>simp only [uQ,Bool.false_eq_true] at h
 ·rw [<-aIg h];exact hc
 ·rfl
 ·rfl
 ·simp [aP] at hc
 ·simp [aP] at hc
mutual
theorem aIi {h:GH}:∀ {x y:AV} {u:Value},uQ x y=true->RpD h x u->RpD h y u
 | .v x,.v y,u,hs,e=>by
  simp only [uQ] at hs
  rw [<-aIg hs];exact e
 | .v x,.ls k es,u,hs,e=>by
  cases es with
  | nil =>
   unfold uQ at hs
   split at hs<;>simp_all
   simp only [RpD] at e ⊢
   subst e
   exact ⟨none,0,rfl,Nat.le_refl _,Nat.zero_le _,.inl trivial⟩
  | cons a b=>simp [uQ] at hs
 | .ls k l,.ls k' m,u,hs,e=>by
  simp only [uQ,Bool.and_eq_true,Nat.beq_eq] at hs
  obtain ⟨rfl,hm⟩:=hs
  have hl:=aNo hm
  simp only [RpD] at e ⊢
  obtain ⟨A,c,h1,h2,h3,h4⟩:=e
  refine ⟨A,c,hl ▸ h1,hl ▸ h2,h3,?_⟩
  rcases h4 with h4 | ⟨b,o,h5,h6⟩
  ·left
   rw [h4] at hl
   exact List.eq_nil_of_length_eq_zero hl.symm
  ·exact .inr ⟨b,o,h5,aTU hm h6⟩
 | .ag l,.ag m,u,hs,e=>by
  simp only [uQ] at hs
  simp only [RpD] at e ⊢
  obtain ⟨us,h1,h2⟩:=e
  exact ⟨us,h1,aQv hs h2⟩
 | .tup l,.tup m,u,hs,e=>by simp [RpD] at e
theorem aTU {h:GH} {b k:Nat}:∀ {l m:List (List AV)} {o:Nat},aHj l m=true->fU h b k l o->fU h b k m o
 | [],[],o,_,_=>by simp [fU]
 | x::l,y::m,o,hs,e=>by
  simp only [aHj,Bool.and_eq_true] at hs
  simp only [fU] at e ⊢
  exact ⟨(aNp hs.1) ▸ e.1,aTV hs.1 e.2.1,aTU hs.2 e.2.2⟩
theorem aTV {h:GH} {b:Nat}:∀ {l m:List AV} {o:Nat},wK l m=true->iU h b l o->iU h b m o
 | [],[],o,_,_=>by simp [iU]
 | x::l,y::m,o,hs,e=>by
  simp only [wK,Bool.and_eq_true] at hs
  simp only [iU] at e ⊢
  obtain ⟨⟨u,e1,e2,e3⟩,e4⟩:=e
  exact ⟨⟨u,aQu hs.1 e1,e2,aIi hs.1 e3⟩,aTV hs.2 e4⟩
theorem aQv {h:GH}:∀ {l m:List AV} {us:List Value},wK l m=true->bC h l us->bC h m us
 | [],[],us,_,e=>e
 | x::l,y::m,us,hs,e=>by
  simp only [wK,Bool.and_eq_true] at hs
  simp only [bC] at e ⊢
  obtain ⟨u,us',e1,e2,e3⟩:=e
  exact ⟨u,us',e1,aIi hs.1 e2,aQv hs.2 e3⟩
end
mutual
theorem aTW {h:GH} {φ:Nat->Value} {n:Nat}:∀ {x y:AV} {u:Value},uQ x y=true->Rp h φ n x u->Rp h φ n y u
 | .v x,.v y,u,hs,e=>by
  simp only [uQ] at hs
  rw [<-aIg hs];exact e
 | .v x,.ls k es,u,hs,e=>by
  simp only [Rp] at e ⊢
  exact aIi (x:=.v x) hs (by simpa only [RpD] using e)
 | .ls k l,.ls k' m,u,hs,e=>by
  simp only [Rp] at e ⊢
  exact aIi hs e
 | .ag l,.ag m,u,hs,e=>by
  simp only [uQ] at hs
  simp only [Rp] at e ⊢
  obtain ⟨us,h1,h2⟩:=e
  exact ⟨us,h1,aOM hs h2⟩
 | .tup l,.tup m,u,hs,e=>by
  simp only [uQ] at hs
  simp only [Rp] at e ⊢
  obtain ⟨us,h1,h2⟩:=e
  exact ⟨us,h1,aOM hs h2⟩
theorem aOM {h:GH} {φ:Nat->Value} {n:Nat}:∀ {l m:List AV} {us:List Value},wK l m=true->RpL h φ n l us->RpL h φ n m us
 | [],[],us,_,e=>e
 | x::l,y::m,us,hs,e=>by
  simp only [wK,Bool.and_eq_true] at hs
  simp only [RpL] at e ⊢
  obtain ⟨u,us',e1,e2,e3⟩:=e
  exact ⟨u,us',e1,aTW hs.1 e2,aOM hs.2 e3⟩
end
def aXE (n:Nat):List Nat:=(List.range n).reverse++List.range n
def aZy:Option (AV×Tab)->Option AV
 | some (r,T')=>match (gcs [] (xI ⟨0,[(0,r)],T'⟩ (aXE T'.length))).T with
  | []=>some (aK (gcs [] (xI ⟨0,[(0,r)],T'⟩ (aXE T'.length))).s 0)
  | _=>none
 | none=>none
def bBu (G:Nat->Option (List AV)) (tb:EvT) (n f:Nat) (args:List AV) (r:AV):Bool :=
 match aZy (evF G tb n f args []) with
 | some r0=>uQ r0 r
 | none=>false
theorem bBv {P:Program} {G:Nat->Option (List AV)} {tb:EvT} (ht:tb.Ok P G) {n f:Nat} {args:List AV} {r:AV} (h:bBu G tb n f args r=true):aD P G f args [] fun r' T'=>r'=r/\T'=[]:=by
 unfold bBu at h
 split at h
 ·rename_i r0 he
  cases hev:evF G tb n f args [] with
  | none=>rw [hev] at he;simp [aZy] at he
  | some p =>
   obtain ⟨r1,T1⟩:=p
   rw [hev] at he
   simp only [aZy] at he
   split at he
   ·rename_i hT
    injection he with he
    have hc:aD P G f args [] fun r' T'=>r'=r0/\T'=[]:=by
     refine (bBt ht hev).fin (aXE T1.length) ?_
     rintro r' T' ⟨rfl,rfl⟩
     exact ⟨he,hT⟩
    intro hh φ w vals hG hI hA
    have up:∀ {v w'},Ret hh φ [] w (fun r' T'=>r'=r0/\T'=[]) v w'->Ret hh φ [] w (fun r' T'=>r'=r/\T'=[]) v w':=by
     rintro v w' ⟨r',T',h',φ',⟨rfl,rfl⟩,e2,e3,e4⟩
     exact ⟨r,[],h',φ',⟨rfl,rfl⟩,e2,e3,aTW h e4⟩
    rcases hc hh φ w vals hG hI hA with ⟨a,b⟩ | ⟨v,w',a,b⟩
    ·exact .inl ⟨a,b.mono fun e w' ⟨v,e1,e2⟩=>⟨v,e1,up e2⟩⟩
    ·exact .inr ⟨v,w',a,up b⟩
   ·simp at he
 ·simp at h
theorem bZ {P:Program} {G:Nat->Option (List AV)} {tb:EvT} (ht:tb.Ok P G) {n f:Nat} {args:List AV} {r0:AV} {T0:Tab} {r:AV} (h:evF G tb n f args []=some (r0,T0))
  (h2:(match aZy (some (r0,T0)) with | some r1=>uQ r1 r | none=>false)=true):aD P G f args [] fun r' T'=>r'=r/\T'=[] :=
 bBv ht (by unfold bBu;rw [h];exact h2)
end
end Hud
