import Derived.Test.YthlndebkfkanbaaGreatDoorLib27
set_option linter.all false
namespace Hud
open Go
section
open Go.Proofs.Tryz
section
variable {G:Nat->Option (List AV)}
set_option maxHeartbeats 4000000
def aXM (g:PGM) (l:List Id) (r:AV) (T:Tab):Prop:=(r=.own 0/\(l.filter fun x=>!decide (x∈g.I))=l/\T=[some (.arr 3 (l.map Id.A)),some (.box [.ptr 2 0]),some (.box [.ls 5 (g.cards.map CardM.A),.mp 3,.own 4]),some (MG g.I),some (.arr 35 (g.nodes.map ND.A))]) \/
 ∃ (L:List Id) (n:Nat),n<=L.length/\L.length=l.length/\L.take n=(l.filter fun x=>!decide (x∈g.I))/\r=.vw 0 3 0 n/\T=[some (.arr 3 (L.map Id.A)),some (.box [.ptr 2 0]),some (.box [.ls 5 (g.cards.map CardM.A),.mp 3,.own 4]),some (MG g.I),some (.arr 35 (g.nodes.map ND.A))]
theorem aOV (g:PGM) (l:List Id) (hl:l.length<=1000000):aD prog G aY [.own 0,.cl bX [.ptr 1 0]] [some (.arr 3 (l.map Id.A)),some (.box [.ptr 2 0]),some (.box [.ls 5 (g.cards.map CardM.A),.mp 3,.own 4]),some (MG g.I),some (.arr 35 (g.nodes.map ND.A))] fun r T =>
  ((r=.v (.int .i64 (-1))/\∀ x∈l,x∉g.I)\/(∃ j:Nat,j<l.length/\r=.v (.int .i64 (j:Int))/\(∀ x∈l.take j,x∉g.I)/\∃ h:j<l.length,l[j]∈g.I))/\T=[some (.arr 3 (l.map Id.A)),some (.box [.ptr 2 0]),some (.box [.ls 5 (g.cards.map CardM.A),.mp 3,.own 4]),some (MG g.I),some (.arr 35 (g.nodes.map ND.A))]:=by
 refine aF eD (by decide) ?_
 unfold cD
 dsimp only [zj,zT,zF,zC,zE,zP,zQ,zq,zA,zm,zo,zs,zg,zh,zl,zv,zf,zi,zn,zb,zc,ze,zk,zw,zu,zt,zr,zR,zK,zN,zS,z0,zU]
 simp only [go_sem,↓reduceIte,TG,MG,List.length_map]
 refine aL l.length (fun i=>⟨5,[(0,.own 0),(1,.cl bX [.ptr 1 0]),(7,.v (.int .i64 l.length)),(8,.v (.int .i64 i))],[some (.arr 3 (l.map Id.A)),some (.box [.ptr 2 0]),some (.box [.ls 5 (g.cards.map CardM.A),.mp 3,.own 4]),some (MG g.I),some (.arr 35 (g.nodes.map ND.A))]⟩) (fun i=>∀ x∈l.take i,x∉g.I) ?_ (by simp) ?_ ?_
 ·simp only [go_sem,↓reduceIte,TG,MG]
 ·intro i hi hj
  simp only [go_sem,↓reduceIte,TG,MG,List.length_map,bQ hi,hi,aX Id.A l i hi,Id.A_def,aH (show i<9223372036854775807 by omega)]
  refine aG [1,2,3,4] (aA _) (by decide) (by simp) rfl (by simp only [go_sem,↓reduceIte,TG,MG]) (aNB g l[i]) ?_
  rintro r T' ⟨rfl,rfl⟩
  simp only [go_sem,↓reduceIte,TG,MG]
  refine bM (fun h=>?_) (fun h=>?_)<;>simp only [go_sem,↓reduceIte,TG,MG,aH (show i<9223372036854775807 by omega)]
  ·exact .inr ⟨i,hi,rfl,hj,hi,by simpa using h⟩
  ·refine fun x hx=>?_
   rw [List.take_succ_eq_append_getElem hi] at hx
   rcases List.mem_append.1 hx with hx | hx
   ·exact hj x hx
   ·rw [List.mem_singleton.1 hx];simpa using h
 ·intro hj
  rw [List.take_length] at hj
  simp only [go_sem,↓reduceIte,TG,MG,List.length_map,bV (Nat.lt_irrefl _)]
  exact .inl hj
theorem aMn (g:PGM) (l:List Id) (hl:l.length<=1000000):aD prog G bW [.own 0,.cl bX [.ptr 1 0]] [some (.arr 3 (l.map Id.A)),some (.box [.ptr 2 0]),some (.box [.ls 5 (g.cards.map CardM.A),.mp 3,.own 4]),some (MG g.I),some (.arr 35 (g.nodes.map ND.A))] (aXM g l):=by
 refine aF jU (by decide) ?_
 unfold eQ
 dsimp only [zj,zT,zF,zC,zE,zP,zQ,zq,zA,zm,zo,zs,zg,zh,zl,zv,zf,zi,zn,zb,zc,ze,zk,zw,zu,zt,zr,zR,zK,zN,zS,z0,zU]
 simp only [go_sem,↓reduceIte,TG,MG]
 refine aG [0,1,2,3,4] (aA _) (by decide) (by simp) rfl (by simp only [go_sem,↓reduceIte,TG,MG]) (aOV g l hl) ?_
 rintro r T' ⟨hr,rfl⟩
 rcases hr with ⟨rfl,hno⟩ | ⟨j0,hj0,rfl,hno,_,hin⟩
 ·simp only [go_sem,↓reduceIte,TG,MG]
  refine .inl ⟨rfl,?_,rfl⟩
  rw [List.filter_eq_self]
  intro x hx
  simp [hno x hx]
 ·have e1:(((j0:Nat):Int)==-1)=false:=by rw [beq_eq_false_iff_ne];omega
  simp only [go_sem,↓reduceIte,TG,MG,e1,aH (show j0<9223372036854775807 by omega)]
  refine fS (fun m s=>∃ (i j:Nat) (L:List Id),m=l.length-j/\i<j/\j<=l.length/\L.length=l.length/\L.take i=((l.take j).filter fun x=>!decide (x∈g.I))/\L.drop j=l.drop j/\s=⟨5,[(0,.own 0),(1,.cl bX [.ptr 1 0]),(5,.v (.int .i64 i)),(6,.v (.int .i64 j))],[some (.arr 3 (L.map Id.A)),some (.box [.ptr 2 0]),some (.box [.ls 5 (g.cards.map CardM.A),.mp 3,.own 4]),some (MG g.I),some (.arr 35 (g.nodes.map ND.A))]⟩) (l.length-(j0+1))
   ⟨j0,j0+1,l,rfl,by omega,by omega,rfl,?_,rfl,by simp only [go_sem,↓reduceIte,TG,MG]⟩ ?_
  ·rw [List.take_succ_eq_append_getElem hj0,List.filter_append,List.filter_eq_self.2 (fun x hx=>by simp [hno x hx])]
   simp [hin]
  rintro m s ⟨i,j,L,rfl,hij,hj,hL,ht,hd,rfl⟩
  by_cases hlt:j<l.length
  ·have hjL:j<L.length:=by omega
   have hiL:i<L.length:=by omega
   have hLj:L[j]=l[j]:=by
    have h1:(L.drop j)[0]?=(l.drop j)[0]?:=by rw [hd]
    simpa [hlt,hjL] using h1
   have hd2:L.drop (j+1)=l.drop (j+1):=by
    have:=congrArg (List.drop 1) hd
    simpa [List.drop_drop] using this
   simp only [go_sem,↓reduceIte,TG,MG,List.length_map,hL,bQ hlt,hlt,aX Id.A L j hjL,Id.A_def,aH (show j<9223372036854775807 by omega)]
   refine aG [1,2,3,4] (aA _) (by decide) (by simp) rfl (by simp only [go_sem,↓reduceIte,TG,MG]) (aNB g L[j]) ?_
   rintro r T' ⟨rfl,rfl⟩
   simp only [go_sem,↓reduceIte,TG,MG]
   refine bM (fun h=>?_) (fun h=>?_)
   ·have hnb:L[j]∉g.I:=by simpa using h
    simp only [go_sem,↓reduceIte,TG,MG,List.length_map,hL,show i<l.length by omega,aX Id.A L i hiL,Id.A_def,aH (show i<9223372036854775807 by omega),aH (show j<9223372036854775807 by omega)]
    refine ⟨l.length-(j+1),by omega,i+1,j+1,L.set i L[j],rfl,by omega,by omega,by simpa using hL,?_,?_,?_⟩
    ·rw [List.take_succ_eq_append_getElem (by simpa using hiL),List.take_succ_eq_append_getElem hlt,List.filter_append,<-ht,List.getElem_set_self,List.take_set_of_le (Nat.le_refl i)]
     rw [hLj] at hnb ⊢
     simp [hnb]
    ·rw [List.drop_set_of_lt (by omega),hd2]
    ·rw [List.map_set]
     rfl
   ·have hnb:L[j]∈g.I:=by simpa using h
    simp only [go_sem,↓reduceIte,TG,MG,aH (show j<9223372036854775807 by omega)]
    refine ⟨l.length-(j+1),by omega,i,j+1,L,rfl,by omega,by omega,hL,?_,hd2,rfl⟩
    rw [List.take_succ_eq_append_getElem hlt,List.filter_append,<-ht]
    rw [hLj] at hnb
    simp [hnb]
  ·obtain rfl:j=l.length:=by omega
   rw [List.take_length] at ht
   have hil:i<=l.length:=by omega
   simp only [go_sem,↓reduceIte,TG,MG,List.length_map,hL,bV hlt,hil,show i+(l.length-i)<=l.length by omega,show i+(l.length-i)=l.length by omega,List.length_replicate,List.length_take,List.length_drop,Nat.min_eq_left hil,Nat.sub_self]
   refine .inr ⟨L.take i++List.replicate (l.length-i) ⟨0,0,0⟩,i,by simp;omega,by simp;omega,?_,rfl,?_⟩
   ·rw [List.take_append_of_le_length (by simp;omega),List.take_take,Nat.min_self,ht]
   ·simp only [List.map_append,List.map_take,List.map_replicate,Id.A_zero]
    rw [List.drop_of_length_le (by simp;omega),List.append_nil]
    rfl
end
end
section
open Go.Proofs.Tryz
@[go_sem] theorem aXN {α:Type} (i k:Nat) (es:List (List AV)) (f:α->Value):∀ l:List α,slL i k es (l.map fun x=>.v (f x))=l.map fun x=>.v (f x)
 | []=>rfl
 | x::l=>by show slA i k es (.v (f x))::slL i k es (l.map fun x=>.v (f x))=_;rw [aXN i k es f l];rfl
section
variable {G:Nat->Option (List AV)}
set_option maxHeartbeats 4000000
def xH (g:PGM) (o:OpM):List Id:=o.Past.filter fun x=>!decide (x∈g.I)
theorem aXO (g:PGM) (o:OpM) (ho:o.ok):aD prog G jC [.ptr 0 0,.ag o.A] (TG 0 g) fun r T=>(r=.own 3/\T=TG 0 g++[some (.arr 3 ((xH g o).map Id.A))])\/∃ (L:List Id) (n:Nat),n<=L.length/\L.take n=xH g o/\r=.vw 3 3 0 n/\T=TG 0 g++[some (.arr 3 (L.map Id.A))]:=by
 refine aF aAj (by decide) ?_
 unfold sM
 dsimp only [zj,zT,zF,zC,zE,zP,zQ,zq,zA,zm,zo,zs,zg,zh,zl,zv,zf,zi,zn,zb,zc,ze,zk,zw,zu,zt,zr,zR,zK,zN,zS,z0,zU]
 have hp:=ho.past.1
 simp only [go_sem,↓reduceIte,TG,MG]
 refine bU (aA _) rfl (aU0 o.Past (by omega)) ?_
 simp only [go_sem,↓reduceIte]
 refine aG [5,3,0,1,2] (aA _) (by decide) (by simp) rfl (by simp only [go_sem,↓reduceIte,TG,MG]) (aMn g o.Past (by omega)) ?_
 rintro r T' (⟨rfl,he,rfl⟩ | ⟨L,n,hn,hL,ht,rfl,rfl⟩)
 ·simp only [go_sem,↓reduceIte,TG,MG]
  left
  rw [xH,he]
 ·simp only [go_sem,↓reduceIte,TG,MG]
  exact .inr ⟨L,n,hn,ht,rfl,rfl⟩
theorem aZK (g:PGM) (o:OpM) (ho:o.ok):aD prog G jC [.ptr 0 0,.ag o.A] (TG 0 g) fun r T=>r=ids (xH g o)/\T=TG 0 g:=by
 refine (aXO g o ho).fin [3] ?_
 rintro r T' (⟨rfl,rfl⟩ | ⟨L,n,hn,ht,rfl,rfl⟩)
 ·simp only [go_sem,↓reduceIte,TG,MG]
 ·have h1:(L.map Id.A).take n=(xH g o).map Id.A:=by rw [<-List.map_take,ht]
  have h2:n<=(L.map Id.A).length:=by simpa using hn
  generalize L.map Id.A=E at h1 h2
  simp only [go_sem,↓reduceIte,TG,MG,h2,h1]
end
end
section
open Go.Proofs.Tryz
theorem aCf {α:Type} (m:α->Bool) (l:List α):(!(l.any fun x=>!m x))=l.all m:=by simp [List.all_eq_not_any_not]
section
variable {G:Nat->Option (List AV)}
set_option maxHeartbeats 2000000
theorem aSu (f:Nat) (m:BoxM->Bool) (x:BoxM) (h:aD prog G f [.ag x.A] [] fun r T=>r=.v (.bool (m x))/\T=[]):aD prog G eZ [.ag x.A,.ptr 0 0] [some (.box [.cl f []])] fun r T=>r=.v (.bool (!m x))/\T=[some (.box [.cl f []])]:=by
 refine aF aAN (by decide) ?_
 unfold uH
 dsimp only [zj,zT,zF,zC,zE,zP,zQ,zq,zA,zm,zo,zs,zg,zh,zl,zv,zf,zi,zn,zb,zc,ze,zk,zw,zu,zt,zr,zR,zK,zN,zS,z0,zU]
 simp only [go_sem,↓reduceIte,BoxM.A]
 refine aC (aA _) rfl h rfl ?_
 simp only [go_sem,↓reduceIte]
theorem aVo (f:Nat) (m:BoxM->Bool) (l:List BoxM) (hl:l.length<9223372036854775807) (h:∀ x∈l,aD prog G f [.ag x.A] [] fun r T=>r=.v (.bool (m x))/\T=[]) :
  aD prog G dA [bxs l,.cl eZ [.ptr 0 0]] [some (.box [.cl f []])] fun r T=>r=.v (.int .i64 (aCr (fun x=>!m x) l))/\T=[some (.box [.cl f []])]:=by
 refine aF lS (by decide) ?_
 unfold gJ
 dsimp only [zj,zT,zF,zC,zE,zP,zQ,zq,zA,zm,zo,zs,zg,zh,zl,zv,zf,zi,zn,zb,zc,ze,zk,zw,zu,zt,zr,zR,zK,zN,zS,z0,zU]
 simp only [go_sem,↓reduceIte,List.length_map]
 refine aL l.length (fun i=>⟨1,[(0,bxs l),(1,.cl eZ [.ptr 0 0]),(7,.v (.int .i64 (l.length:Int))),(8,.v (.int .i64 (i:Int)))],[some (.box [.cl f []])]⟩) (fun i=>∀ j (hj:j<l.length),j<i->(!m l[j])=false) ?_ (by intro j hj h;omega) ?_ ?_
 ·simp only [go_sem,↓reduceIte]
 ·intro i hi hJ
  have g0:(l.map BoxM.A)[i]?=some [uv l[i].To,uv l[i].Eph,uv l[i].Body,uv l[i].Tag]:=aX _ l i hi
  simp only [go_sem,↓reduceIte,List.length_map,bQ hi,hi,g0,BoxM.A]
  refine aG [0] (aA _) (by decide) (by simp) rfl rfl (aSu f m l[i] (h _ (List.getElem_mem hi))) ?_
  rintro r T' ⟨rfl,rfl⟩
  cases hm:m l[i] with
  | true =>
   simp only [go_sem,↓reduceIte,aH (show i<9223372036854775807 by omega)]
   intro j hj hji
   rcases Nat.lt_or_ge j i with h1 | h1
   ·exact hJ j hj h1
   ·obtain rfl:j=i:=by omega
    rw [hm];rfl
  | false =>
   simp only [go_sem,↓reduceIte]
   rw [tF hi hJ (by rw [hm];rfl)]
 ·intro hJ
  simp only [go_sem,↓reduceIte,List.length_map,bV (Nat.lt_irrefl _)]
  rw [tE fun j hj=>hJ j hj hj]
theorem aVp (f:Nat) (m:BoxM->Bool) (l:List BoxM) (hl:l.length<9223372036854775807) (h:∀ x∈l,aD prog G f [.ag x.A] [] fun r T=>r=.v (.bool (m x))/\T=[]) :
  aD prog G cK [bxs l,.cl eZ [.ptr 0 0]] [some (.box [.cl f []])] fun r T=>r=.v (.bool (l.any fun x=>!m x))/\T=[some (.box [.cl f []])]:=by
 refine aF kO (by decide) ?_
 unfold fH
 dsimp only [zj,zT,zF,zC,zE,zP,zQ,zq,zA,zm,zo,zs,zg,zh,zl,zv,zf,zi,zn,zb,zc,ze,zk,zw,zu,zt,zr,zR,zK,zN,zS,z0,zU]
 simp only [go_sem,↓reduceIte]
 refine aG [0] (aA _) (by decide) (by simp) rfl rfl (aVo f m l hl h) ?_
 rintro r T' ⟨rfl,rfl⟩
 simp only [go_sem,↓reduceIte,ge_iff_le,aAl]
theorem aNC (f:Nat) (m:BoxM->Bool) (l:List BoxM) (hl:l.length<9223372036854775807) (h:∀ x∈l,aD prog G f [.ag x.A] [] fun r T=>r=.v (.bool (m x))/\T=[]) :
  aD prog G jH [bxs l,.cl f []] [] fun r T=>r=.v (.bool (l.all m))/\T=[]:=by
 refine aF aCp (by decide) ?_
 unfold yB
 dsimp only [zj,zT,zF,zC,zE,zP,zQ,zq,zA,zm,zo,zs,zg,zh,zl,zv,zf,zi,zn,zb,zc,ze,zk,zw,zu,zt,zr,zR,zK,zN,zS,z0,zU]
 simp only [go_sem,↓reduceIte]
 refine aG [0] (aA _) (by decide) (by simp) rfl rfl (aVp f m l hl h) ?_
 rintro r T' ⟨rfl,rfl⟩
 simp only [go_sem,↓reduceIte,aCf]
theorem aSv (f:Nat) (m:Int->Bool) (x:Int) (h:aD prog G f [iv x] [] fun r T=>r=.v (.bool (m x))/\T=[]):aD prog G jI [iv x,.ptr 0 0] [some (.box [.cl f []])] fun r T=>r=.v (.bool (!m x))/\T=[some (.box [.cl f []])]:=by
 refine aF aEN (by decide) ?_
 unfold aBB
 dsimp only [zj,zT,zF,zC,zE,zP,zQ,zq,zA,zm,zo,zs,zg,zh,zl,zv,zf,zi,zn,zb,zc,ze,zk,zw,zu,zt,zr,zR,zK,zN,zS,z0,zU]
 simp only [go_sem,↓reduceIte]
 refine aC (aA _) rfl h rfl ?_
 simp only [go_sem,↓reduceIte]
theorem aVq (f:Nat) (m:Int->Bool) (l:List Int) (hl:l.length<9223372036854775807) (h:∀ x∈l,aD prog G f [iv x] [] fun r T=>r=.v (.bool (m x))/\T=[]) :
  aD prog G gC [nts l,.cl jI [.ptr 0 0]] [some (.box [.cl f []])] fun r T=>r=.v (.int .i64 (aCr (fun x=>!m x) l))/\T=[some (.box [.cl f []])]:=by
 refine aF qG (by decide) ?_
 unfold lD
 dsimp only [zj,zT,zF,zC,zE,zP,zQ,zq,zA,zm,zo,zs,zg,zh,zl,zv,zf,zi,zn,zb,zc,ze,zk,zw,zu,zt,zr,zR,zK,zN,zS,z0,zU]
 simp only [go_sem,↓reduceIte,List.length_map]
 refine aL l.length (fun i=>⟨1,[(0,nts l),(1,.cl jI [.ptr 0 0]),(7,.v (.int .i64 (l.length:Int))),(8,.v (.int .i64 (i:Int)))],[some (.box [.cl f []])]⟩) (fun i=>∀ j (hj:j<l.length),j<i->(!m l[j])=false) ?_ (by intro j hj h;omega) ?_ ?_
 ·simp only [go_sem,↓reduceIte]
 ·intro i hi hJ
  have g0:(l.map fun n=>[iv n])[i]?=some [iv l[i]]:=aX _ l i hi
  simp only [go_sem,↓reduceIte,List.length_map,bQ hi,hi,g0]
  refine aG [0] (aA _) (by decide) (by simp) rfl rfl (aSv f m l[i] (h _ (List.getElem_mem hi))) ?_
  rintro r T' ⟨rfl,rfl⟩
  cases hm:m l[i] with
  | true =>
   simp only [go_sem,↓reduceIte,aH (show i<9223372036854775807 by omega)]
   intro j hj hji
   rcases Nat.lt_or_ge j i with h1 | h1
   ·exact hJ j hj h1
   ·obtain rfl:j=i:=by omega
    rw [hm];rfl
  | false =>
   simp only [go_sem,↓reduceIte]
   rw [tF hi hJ (by rw [hm];rfl)]
 ·intro hJ
  simp only [go_sem,↓reduceIte,List.length_map,bV (Nat.lt_irrefl _)]
  rw [tE fun j hj=>hJ j hj hj]
theorem aVr (f:Nat) (m:Int->Bool) (l:List Int) (hl:l.length<9223372036854775807) (h:∀ x∈l,aD prog G f [iv x] [] fun r T=>r=.v (.bool (m x))/\T=[]) :
  aD prog G fA [nts l,.cl jI [.ptr 0 0]] [some (.box [.cl f []])] fun r T=>r=.v (.bool (l.any fun x=>!m x))/\T=[some (.box [.cl f []])]:=by
 refine aF oO (by decide) ?_
 unfold jP
 dsimp only [zj,zT,zF,zC,zE,zP,zQ,zq,zA,zm,zo,zs,zg,zh,zl,zv,zf,zi,zn,zb,zc,ze,zk,zw,zu,zt,zr,zR,zK,zN,zS,z0,zU]
 simp only [go_sem,↓reduceIte]
 refine aG [0] (aA _) (by decide) (by simp) rfl rfl (aVq f m l hl h) ?_
 rintro r T' ⟨rfl,rfl⟩
 simp only [go_sem,↓reduceIte,ge_iff_le,aAl]
theorem aVs (f:Nat) (m:Int->Bool) (l:List Int) (hl:l.length<9223372036854775807) (h:∀ x∈l,aD prog G f [iv x] [] fun r T=>r=.v (.bool (m x))/\T=[]) :
  aD prog G sT [nts l,.cl f []] [] fun r T=>r=.v (.bool (l.all m))/\T=[]:=by
 refine aF aHG (by decide) ?_
 unfold aEM
 dsimp only [zj,zT,zF,zC,zE,zP,zQ,zq,zA,zm,zo,zs,zg,zh,zl,zv,zf,zi,zn,zb,zc,ze,zk,zw,zu,zt,zr,zR,zK,zN,zS,z0,zU]
 simp only [go_sem,↓reduceIte]
 refine aG [0] (aA _) (by decide) (by simp) rfl rfl (aVr f m l hl h) ?_
 rintro r T' ⟨rfl,rfl⟩
 simp only [go_sem,↓reduceIte,aCf]
theorem aSw (f:Nat) (m:Nat->Bool) (x:Nat) (h:aD prog G f [uv x] [] fun r T=>r=.v (.bool (m x))/\T=[]):aD prog G fN [uv x,.ptr 0 0] [some (.box [.cl f []])] fun r T=>r=.v (.bool (!m x))/\T=[some (.box [.cl f []])]:=by
 refine aF aBC (by decide) ?_
 unfold wB
 dsimp only [zj,zT,zF,zC,zE,zP,zQ,zq,zA,zm,zo,zs,zg,zh,zl,zv,zf,zi,zn,zb,zc,ze,zk,zw,zu,zt,zr,zR,zK,zN,zS,z0,zU]
 simp only [go_sem,↓reduceIte]
 refine aC (aA _) rfl h rfl ?_
 simp only [go_sem,↓reduceIte]
theorem aVt (f:Nat) (m:Nat->Bool) (l:List Nat) (hl:l.length<9223372036854775807) (h:∀ x∈l,aD prog G f [uv x] [] fun r T=>r=.v (.bool (m x))/\T=[]) :
  aD prog G dQ [.ls 1 (ul l),.cl fN [.ptr 0 0]] [some (.box [.cl f []])] fun r T=>r=.v (.int .i64 (aCr (fun x=>!m x) l))/\T=[some (.box [.cl f []])]:=by
 refine aF mU (by decide) ?_
 unfold iE
 dsimp only [zj,zT,zF,zC,zE,zP,zQ,zq,zA,zm,zo,zs,zg,zh,zl,zv,zf,zi,zn,zb,zc,ze,zk,zw,zu,zt,zr,zR,zK,zN,zS,z0,zU]
 simp only [go_sem,↓reduceIte,List.length_map]
 refine aL l.length (fun i=>⟨1,[(0,.ls 1 (ul l)),(1,.cl fN [.ptr 0 0]),(7,.v (.int .i64 (l.length:Int))),(8,.v (.int .i64 (i:Int)))],[some (.box [.cl f []])]⟩) (fun i=>∀ j (hj:j<l.length),j<i->(!m l[j])=false) ?_ (by intro j hj h;omega) ?_ ?_
 ·simp only [go_sem,↓reduceIte]
 ·intro i hi hJ
  have g0:(ul l)[i]?=some [uv l[i]]:=aX _ l i hi
  simp only [go_sem,↓reduceIte,List.length_map,bQ hi,hi,g0]
  refine aG [0] (aA _) (by decide) (by simp) rfl rfl (aSw f m l[i] (h _ (List.getElem_mem hi))) ?_
  rintro r T' ⟨rfl,rfl⟩
  cases hm:m l[i] with
  | true =>
   simp only [go_sem,↓reduceIte,aH (show i<9223372036854775807 by omega)]
   intro j hj hji
   rcases Nat.lt_or_ge j i with h1 | h1
   ·exact hJ j hj h1
   ·obtain rfl:j=i:=by omega
    rw [hm];rfl
  | false =>
   simp only [go_sem,↓reduceIte]
   rw [tF hi hJ (by rw [hm];rfl)]
 ·intro hJ
  simp only [go_sem,↓reduceIte,List.length_map,bV (Nat.lt_irrefl _)]
  rw [tE fun j hj=>hJ j hj hj]
theorem aVu (f:Nat) (m:Nat->Bool) (l:List Nat) (hl:l.length<9223372036854775807) (h:∀ x∈l,aD prog G f [uv x] [] fun r T=>r=.v (.bool (m x))/\T=[]) :
  aD prog G cV [.ls 1 (ul l),.cl fN [.ptr 0 0]] [some (.box [.cl f []])] fun r T=>r=.v (.bool (l.any fun x=>!m x))/\T=[some (.box [.cl f []])]:=by
 refine aF lI (by decide) ?_
 unfold fX
 dsimp only [zj,zT,zF,zC,zE,zP,zQ,zq,zA,zm,zo,zs,zg,zh,zl,zv,zf,zi,zn,zb,zc,ze,zk,zw,zu,zt,zr,zR,zK,zN,zS,z0,zU]
 simp only [go_sem,↓reduceIte]
 refine aG [0] (aA _) (by decide) (by simp) rfl rfl (aVt f m l hl h) ?_
 rintro r T' ⟨rfl,rfl⟩
 simp only [go_sem,↓reduceIte,ge_iff_le,aAl]
theorem aVv (f:Nat) (m:Nat->Bool) (l:List Nat) (hl:l.length<9223372036854775807) (h:∀ x∈l,aD prog G f [uv x] [] fun r T=>r=.v (.bool (m x))/\T=[]) :
  aD prog G nL [.ls 1 (ul l),.cl f []] [] fun r T=>r=.v (.bool (l.all m))/\T=[]:=by
 refine aF aDA (by decide) ?_
 unfold aAE
 dsimp only [zj,zT,zF,zC,zE,zP,zQ,zq,zA,zm,zo,zs,zg,zh,zl,zv,zf,zi,zn,zb,zc,ze,zk,zw,zu,zt,zr,zR,zK,zN,zS,z0,zU]
 simp only [go_sem,↓reduceIte]
 refine aG [0] (aA _) (by decide) (by simp) rfl rfl (aVu f m l hl h) ?_
 rintro r T' ⟨rfl,rfl⟩
 simp only [go_sem,↓reduceIte,aCf]
theorem aVw (f:Nat) (m:Id->Bool) (x:Id) (h:aD prog G f [.ag x.A] [] fun r T=>r=.v (.bool (m x))/\T=[]):aD prog G dK [.ag x.A,.ptr 0 0] [some (.box [.cl f []])] fun r T=>r=.v (.bool (!m x))/\T=[some (.box [.cl f []])]:=by
 refine aF yC (by decide) ?_
 unfold rL
 dsimp only [zj,zT,zF,zC,zE,zP,zQ,zq,zA,zm,zo,zs,zg,zh,zl,zv,zf,zi,zn,zb,zc,ze,zk,zw,zu,zt,zr,zR,zK,zN,zS,z0,zU]
 simp only [go_sem,↓reduceIte,Id.A_def]
 refine aC (aA _) rfl h rfl ?_
 simp only [go_sem,↓reduceIte]
theorem aXP (f:Nat) (m:Id->Bool) (l:List Id) (hl:l.length<9223372036854775807) (h:∀ x∈l,aD prog G f [.ag x.A] [] fun r T=>r=.v (.bool (m x))/\T=[]) :
  aD prog G aY [ids l,.cl dK [.ptr 0 0]] [some (.box [.cl f []])] fun r T=>r=.v (.int .i64 (aCr (fun x=>!m x) l))/\T=[some (.box [.cl f []])]:=by
 refine aF eD (by decide) ?_
 unfold cD
 dsimp only [zj,zT,zF,zC,zE,zP,zQ,zq,zA,zm,zo,zs,zg,zh,zl,zv,zf,zi,zn,zb,zc,ze,zk,zw,zu,zt,zr,zR,zK,zN,zS,z0,zU]
 simp only [go_sem,↓reduceIte,List.length_map]
 refine aL l.length (fun i=>⟨1,[(0,ids l),(1,.cl dK [.ptr 0 0]),(7,.v (.int .i64 (l.length:Int))),(8,.v (.int .i64 (i:Int)))],[some (.box [.cl f []])]⟩) (fun i=>∀ j (hj:j<l.length),j<i->(!m l[j])=false) ?_ (by intro j hj h;omega) ?_ ?_
 ·simp only [go_sem,↓reduceIte]
 ·intro i hi hJ
  have g0:(l.map Id.A)[i]?=some [.v (.int .i64 l[i].a),.v (.int .i64 l[i].b),.v (.int .u64 l[i].c)]:=aX _ l i hi
  simp only [go_sem,↓reduceIte,List.length_map,bQ hi,hi,g0,Id.A_def]
  refine aG [0] (aA _) (by decide) (by simp) rfl rfl (aVw f m l[i] (h _ (List.getElem_mem hi))) ?_
  rintro r T' ⟨rfl,rfl⟩
  cases hm:m l[i] with
  | true =>
   simp only [go_sem,↓reduceIte,aH (show i<9223372036854775807 by omega)]
   intro j hj hji
   rcases Nat.lt_or_ge j i with h1 | h1
   ·exact hJ j hj h1
   ·obtain rfl:j=i:=by omega
    rw [hm];rfl
  | false =>
   simp only [go_sem,↓reduceIte]
   rw [tF hi hJ (by rw [hm];rfl)]
 ·intro hJ
  simp only [go_sem,↓reduceIte,List.length_map,bV (Nat.lt_irrefl _)]
  rw [tE fun j hj=>hJ j hj hj]
theorem aXQ (f:Nat) (m:Id->Bool) (l:List Id) (hl:l.length<9223372036854775807) (h:∀ x∈l,aD prog G f [.ag x.A] [] fun r T=>r=.v (.bool (m x))/\T=[]) :
  aD prog G bO [ids l,.cl dK [.ptr 0 0]] [some (.box [.cl f []])] fun r T=>r=.v (.bool (l.any fun x=>!m x))/\T=[some (.box [.cl f []])]:=by
 refine aF jB (by decide) ?_
 unfold eC
 dsimp only [zj,zT,zF,zC,zE,zP,zQ,zq,zA,zm,zo,zs,zg,zh,zl,zv,zf,zi,zn,zb,zc,ze,zk,zw,zu,zt,zr,zR,zK,zN,zS,z0,zU]
 simp only [go_sem,↓reduceIte]
 refine aG [0] (aA _) (by decide) (by simp) rfl rfl (aXP f m l hl h) ?_
 rintro r T' ⟨rfl,rfl⟩
 simp only [go_sem,↓reduceIte,ge_iff_le,aAl]
theorem aXR (f:Nat) (m:Id->Bool) (l:List Id) (hl:l.length<9223372036854775807) (h:∀ x∈l,aD prog G f [.ag x.A] [] fun r T=>r=.v (.bool (m x))/\T=[]) :
  aD prog G kF [ids l,.cl f []] [] fun r T=>r=.v (.bool (l.all m))/\T=[]:=by
 refine aF aAM (by decide) ?_
 unfold uG
 dsimp only [zj,zT,zF,zC,zE,zP,zQ,zq,zA,zm,zo,zs,zg,zh,zl,zv,zf,zi,zn,zb,zc,ze,zk,zw,zu,zt,zr,zR,zK,zN,zS,z0,zU]
 simp only [go_sem,↓reduceIte]
 refine aG [0] (aA _) (by decide) (by simp) rfl rfl (aXQ f m l hl h) ?_
 rintro r T' ⟨rfl,rfl⟩
 simp only [go_sem,↓reduceIte,aCf]
theorem aQF (f:Nat) (m:NodeM->Bool) (x:NodeM) (h:aD prog G f [.ag x.A] [] fun r T=>r=.v (.bool (m x))/\T=[]):aD prog G eG [.ag x.A,.ptr 0 0] [some (.box [.cl f []])] fun r T=>r=.v (.bool (!m x))/\T=[some (.box [.cl f []])]:=by
 refine aF aAh (by decide) ?_
 unfold sK
 dsimp only [zj,zT,zF,zC,zE,zP,zQ,zq,zA,zm,zo,zs,zg,zh,zl,zv,zf,zi,zn,zb,zc,ze,zk,zw,zu,zt,zr,zR,zK,zN,zS,z0,zU]
 simp only [go_sem,↓reduceIte,NodeM.A]
 refine aC (aA _) rfl h rfl ?_
 simp only [go_sem,↓reduceIte]
theorem aSx (f:Nat) (m:NodeM->Bool) (l:List NodeM) (hl:l.length<9223372036854775807) (h:∀ x∈l,aD prog G f [.ag x.A] [] fun r T=>r=.v (.bool (m x))/\T=[]) :
  aD prog G cQ [.ls 2 (l.map NodeM.A),.cl eG [.ptr 0 0]] [some (.box [.cl f []])] fun r T=>r=.v (.int .i64 (aCr (fun x=>!m x) l))/\T=[some (.box [.cl f []])]:=by
 refine aF kV (by decide) ?_
 unfold fQ
 dsimp only [zj,zT,zF,zC,zE,zP,zQ,zq,zA,zm,zo,zs,zg,zh,zl,zv,zf,zi,zn,zb,zc,ze,zk,zw,zu,zt,zr,zR,zK,zN,zS,z0,zU]
 simp only [go_sem,↓reduceIte,List.length_map]
 refine aL l.length (fun i=>⟨1,[(0,.ls 2 (l.map NodeM.A)),(1,.cl eG [.ptr 0 0]),(7,.v (.int .i64 (l.length:Int))),(8,.v (.int .i64 (i:Int)))],[some (.box [.cl f []])]⟩) (fun i=>∀ j (hj:j<l.length),j<i->(!m l[j])=false) ?_ (by intro j hj h;omega) ?_ ?_
 ·simp only [go_sem,↓reduceIte]
 ·intro i hi hJ
  have g0:(l.map NodeM.A)[i]?=some [uv l[i].Pub,bxs l[i].Boxes]:=aX _ l i hi
  simp only [go_sem,↓reduceIte,List.length_map,bQ hi,hi,g0,NodeM.A]
  refine aG [0] (aA _) (by decide) (by simp) rfl rfl (aQF f m l[i] (h _ (List.getElem_mem hi))) ?_
  rintro r T' ⟨rfl,rfl⟩
  cases hm:m l[i] with
  | true =>
   simp only [go_sem,↓reduceIte,aH (show i<9223372036854775807 by omega)]
   intro j hj hji
   rcases Nat.lt_or_ge j i with h1 | h1
   ·exact hJ j hj h1
   ·obtain rfl:j=i:=by omega
    rw [hm];rfl
  | false =>
   simp only [go_sem,↓reduceIte]
   rw [tF hi hJ (by rw [hm];rfl)]
 ·intro hJ
  simp only [go_sem,↓reduceIte,List.length_map,bV (Nat.lt_irrefl _)]
  rw [tE fun j hj=>hJ j hj hj]
theorem aSy (f:Nat) (m:NodeM->Bool) (l:List NodeM) (hl:l.length<9223372036854775807) (h:∀ x∈l,aD prog G f [.ag x.A] [] fun r T=>r=.v (.bool (m x))/\T=[]) :
  aD prog G bY [.ls 2 (l.map NodeM.A),.cl eG [.ptr 0 0]] [some (.box [.cl f []])] fun r T=>r=.v (.bool (l.any fun x=>!m x))/\T=[some (.box [.cl f []])]:=by
 refine aF jT (by decide) ?_
 unfold eO
 dsimp only [zj,zT,zF,zC,zE,zP,zQ,zq,zA,zm,zo,zs,zg,zh,zl,zv,zf,zi,zn,zb,zc,ze,zk,zw,zu,zt,zr,zR,zK,zN,zS,z0,zU]
 simp only [go_sem,↓reduceIte]
 refine aG [0] (aA _) (by decide) (by simp) rfl rfl (aSx f m l hl h) ?_
 rintro r T' ⟨rfl,rfl⟩
 simp only [go_sem,↓reduceIte,ge_iff_le,aAl]
theorem aLj (f:Nat) (m:NodeM->Bool) (l:List NodeM) (hl:l.length<9223372036854775807) (h:∀ x∈l,aD prog G f [.ag x.A] [] fun r T=>r=.v (.bool (m x))/\T=[]) :
  aD prog G fM [.ls 2 (l.map NodeM.A),.cl f []] [] fun r T=>r=.v (.bool (l.all m))/\T=[]:=by
 refine aF aBA (by decide) ?_
 unfold wA
 dsimp only [zj,zT,zF,zC,zE,zP,zQ,zq,zA,zm,zo,zs,zg,zh,zl,zv,zf,zi,zn,zb,zc,ze,zk,zw,zu,zt,zr,zR,zK,zN,zS,z0,zU]
 simp only [go_sem,↓reduceIte]
 refine aG [0] (aA _) (by decide) (by simp) rfl rfl (aSy f m l hl h) ?_
 rintro r T' ⟨rfl,rfl⟩
 simp only [go_sem,↓reduceIte,aCf]
theorem aQG (f:Nat) (m:SealM->Bool) (x:SealM) (h:aD prog G f [.ag x.A] [] fun r T=>r=.v (.bool (m x))/\T=[]):aD prog G cX [.ag x.A,.ptr 0 0] [some (.box [.cl f []])] fun r T=>r=.v (.bool (!m x))/\T=[some (.box [.cl f []])]:=by
 refine aF wZ (by decide) ?_
 unfold pW
 dsimp only [zj,zT,zF,zC,zE,zP,zQ,zq,zA,zm,zo,zs,zg,zh,zl,zv,zf,zi,zn,zb,zc,ze,zk,zw,zu,zt,zr,zR,zK,zN,zS,z0,zU]
 simp only [go_sem,↓reduceIte,SealM.A]
 refine aC (aA _) rfl h rfl ?_
 simp only [go_sem,↓reduceIte]
theorem aSz (f:Nat) (m:SealM->Bool) (l:List SealM) (hl:l.length<9223372036854775807) (h:∀ x∈l,aD prog G f [.ag x.A] [] fun r T=>r=.v (.bool (m x))/\T=[]) :
  aD prog G bS [.ls 4 (l.map SealM.A),.cl cX [.ptr 0 0]] [some (.box [.cl f []])] fun r T=>r=.v (.int .i64 (aCr (fun x=>!m x) l))/\T=[some (.box [.cl f []])]:=by
 refine aF jQ (by decide) ?_
 unfold eH
 dsimp only [zj,zT,zF,zC,zE,zP,zQ,zq,zA,zm,zo,zs,zg,zh,zl,zv,zf,zi,zn,zb,zc,ze,zk,zw,zu,zt,zr,zR,zK,zN,zS,z0,zU]
 simp only [go_sem,↓reduceIte,List.length_map]
 refine aL l.length (fun i=>⟨1,[(0,.ls 4 (l.map SealM.A)),(1,.cl cX [.ptr 0 0]),(7,.v (.int .i64 (l.length:Int))),(8,.v (.int .i64 (i:Int)))],[some (.box [.cl f []])]⟩) (fun i=>∀ j (hj:j<l.length),j<i->(!m l[j])=false) ?_ (by intro j hj h;omega) ?_ ?_
 ·simp only [go_sem,↓reduceIte]
 ·intro i hi hJ
  have g0:(l.map SealM.A)[i]?=some [.v (.int .i64 l[i].Of.a),.v (.int .i64 l[i].Of.b),.v (.int .u64 l[i].Of.c),.ls 1 (bl l[i].Body)]:=aX _ l i hi
  simp only [go_sem,↓reduceIte,List.length_map,bQ hi,hi,g0,SealM.A]
  refine aG [0] (aA _) (by decide) (by simp) rfl rfl (aQG f m l[i] (h _ (List.getElem_mem hi))) ?_
  rintro r T' ⟨rfl,rfl⟩
  cases hm:m l[i] with
  | true =>
   simp only [go_sem,↓reduceIte,aH (show i<9223372036854775807 by omega)]
   intro j hj hji
   rcases Nat.lt_or_ge j i with h1 | h1
   ·exact hJ j hj h1
   ·obtain rfl:j=i:=by omega
    rw [hm];rfl
  | false =>
   simp only [go_sem,↓reduceIte]
   rw [tF hi hJ (by rw [hm];rfl)]
 ·intro hJ
  simp only [go_sem,↓reduceIte,List.length_map,bV (Nat.lt_irrefl _)]
  rw [tE fun j hj=>hJ j hj hj]
theorem aSA (f:Nat) (m:SealM->Bool) (l:List SealM) (hl:l.length<9223372036854775807) (h:∀ x∈l,aD prog G f [.ag x.A] [] fun r T=>r=.v (.bool (m x))/\T=[]) :
  aD prog G bI [.ls 4 (l.map SealM.A),.cl cX [.ptr 0 0]] [some (.box [.cl f []])] fun r T=>r=.v (.bool (l.any fun x=>!m x))/\T=[some (.box [.cl f []])]:=by
 refine aF iT (by decide) ?_
 unfold dL
 dsimp only [zj,zT,zF,zC,zE,zP,zQ,zq,zA,zm,zo,zs,zg,zh,zl,zv,zf,zi,zn,zb,zc,ze,zk,zw,zu,zt,zr,zR,zK,zN,zS,z0,zU]
 simp only [go_sem,↓reduceIte]
 refine aG [0] (aA _) (by decide) (by simp) rfl rfl (aSz f m l hl h) ?_
 rintro r T' ⟨rfl,rfl⟩
 simp only [go_sem,↓reduceIte,ge_iff_le,aAl]
theorem aLk (f:Nat) (m:SealM->Bool) (l:List SealM) (hl:l.length<9223372036854775807) (h:∀ x∈l,aD prog G f [.ag x.A] [] fun r T=>r=.v (.bool (m x))/\T=[]) :
  aD prog G eF [.ls 4 (l.map SealM.A),.cl f []] [] fun r T=>r=.v (.bool (l.all m))/\T=[]:=by
 refine aF aAg (by decide) ?_
 unfold sJ
 dsimp only [zj,zT,zF,zC,zE,zP,zQ,zq,zA,zm,zo,zs,zg,zh,zl,zv,zf,zi,zn,zb,zc,ze,zk,zw,zu,zt,zr,zR,zK,zN,zS,z0,zU]
 simp only [go_sem,↓reduceIte]
 refine aG [0] (aA _) (by decide) (by simp) rfl rfl (aSA f m l hl h) ?_
 rintro r T' ⟨rfl,rfl⟩
 simp only [go_sem,↓reduceIte,aCf]
end
end
section
structure CE where
 i:Nat
 d:Nat
 f:Nat
 xs:List Operand
structure IE where
 i:Nat
 k:Int
 s:Nat
 n:Nat
 deriving DecidableEq
theorem aF7 {s:List (Nat×AV)} {j:Nat} (h:j∉s.map (·.1)):aDR s j=s:=by
 induction s with
 | nil=>rfl
 | cons p s ih =>
  obtain ⟨i,x⟩:=p
  simp only [List.map_cons,List.mem_cons,not_or] at h
  simp only [aDR]
  rw [if_neg (fun e=>h.1 e.symm),ih h.2]
theorem yO {s:List (Nat×AV)} {j:Nat} {x:AV} (hn:(s.map (·.1)).Nodup) (h:(j,x)∈s):aK s j=x:=by
 induction s with
 | nil=>simp at h
 | cons p s ih =>
  obtain ⟨i,y⟩:=p
  simp only [List.map_cons,List.nodup_cons] at hn
  simp only [aK]
  rcases List.mem_cons.1 h with e | h
  ·injection e with e1 e2;rw [if_pos e1.symm,e2]
  ·rw [if_neg fun e=>hn.1 (by rw [e];exact List.mem_map.2 ⟨_,h,rfl⟩),ih hn.2 h]
theorem aQH {s:List (Nat×AV)} {j:Nat} (h:j∈s.map (·.1)):(j,aK s j)∈s:=by
 induction s with
 | nil=>simp at h
 | cons p s ih =>
  obtain ⟨i,y⟩:=p
  simp only [aK]
  split
  ·rename_i e;subst e;exact List.mem_cons_self
  ·rename_i e
   simp only [List.map_cons,List.mem_cons] at h
   exact List.mem_cons_of_mem _ (ih (h.resolve_left fun e2=>e e2.symm))
theorem aVx {s t:List (Nat×AV)} (hn:(t.map (·.1)).Nodup) (h:s.Perm t) {j:Nat} (hj:j∈t.map (·.1)):aK s j=aK t j :=
 yO ((h.map _).nodup_iff.2 hn) (h.mem_iff.2 (aQH hj))
theorem aSB {s t:List (Nat×AV)} (hn:(s.map (·.1)).Nodup) (h:s.Perm t):mJ s=mJ t:=by
 induction h with
 | nil=>rfl
 | cons p h ih=>simp only [List.map_cons,List.nodup_cons] at hn;simp only [mJ];rw [ih hn.2]
 | swap p q l =>
  simp only [List.map_cons,List.nodup_cons,List.mem_cons,not_or] at hn
  simp only [mJ]
  generalize mJ l=l'
  have hne:q.1≠p.1:=hn.1.1
  induction l' with
  | nil =>
   simp only [aFg]
   rcases Nat.lt_or_ge p.1 q.1 with h1 | h1
   ·rw [if_neg (by omega),if_pos h1]
   ·rw [if_pos (by omega),if_neg (by omega)]
  | cons x l' ih =>
   simp only [aFg]
   by_cases h1:p.1<x.1<;>by_cases h2:q.1<x.1<;>simp only [h1,h2,if_true,if_false,aFg]
   ·rcases Nat.lt_or_ge p.1 q.1 with h3 | h3
    ·rw [if_neg (by omega),if_pos h3]
    ·rw [if_pos (by omega),if_neg (by omega)]
   ·rw [if_neg (by omega)]
   ·rw [if_neg (by omega)]
   ·rw [ih]
 | trans h1 h2 ih1 ih2=>rw [ih1 hn,ih2 ((h1.map _).nodup_iff.1 hn)]
theorem aND:∀ s:List (Nat×AV),hZ [] s=s
 | []=>rfl
 | p::s=>by simp [hZ,aND s]
theorem aQI {r:Nat} {s t:List (Nat×AV)} {T:Tab} (hn:(s.map (·.1)).Nodup) (h:s.Perm t):gcs [] ⟨r,s,T⟩=gcs [] ⟨r,t,T⟩:=by
 simp only [gcs,aND,aSB hn h]
theorem aOW {G:Nat->Option (List AV)} {st:St}:∀ {l:List HOper},(∀ o∈l,kK G st [o])->kK G st l
 | [],_=>trivial
 | o::l,h=>⟨(h o List.mem_cons_self).1,aOW fun x hx=>h x (List.mem_cons_of_mem _ hx)⟩
theorem jR {p:Plan} {E:List Nat} {k:Nat}:k∈p.ready E↔k<p.hops.length/\k∉E/\∀ q∈p.p k,q∈E:=by
 simp only [Plan.ready,List.mem_filter,List.mem_range,Bool.and_eq_true,Bool.not_eq_true',List.all_eq_true,List.contains_eq_mem,decide_eq_true_eq,decide_eq_false_iff_not]
theorem aQJ {p:Plan} {E:List Nat} {o:HOper} (h:o∈p.pend E):∃ q,q∈E/\p.quiet q=true/\(∀ k∈E,p.quiet k=false->q∉p.p k)/\p.hops[q]?=some o:=by
 simp only [Plan.pend,List.mem_filterMap,List.mem_filter,Bool.and_eq_true,Bool.not_eq_true',List.any_eq_false,List.contains_eq_mem,decide_eq_true_eq,not_and] at h
 obtain ⟨q,⟨h1,h2,h3⟩,h4⟩:=h
 exact ⟨q,h1,h2,fun k hk hq hm=>h3 k hk hq (by simpa using hm),h4⟩
structure PlOk (p:Plan) (Q:List Nat) (z y:Nat) (ci:List Nat) (es:List IE):Prop where
 all:∀ k,k<p.hops.length->k∈Q\/k=0\/k∈ci\/k∈es.map (·.i)\/k=z\/k=y
 lt:∀ k∈0::z::y::(ci++es.map (·.i)),k<p.hops.length
 cp:∀ j,j<ci.length->(j=0\/ci.getD (j-1) 0∈p.p (ci.getD j 0))/\∀ q∈p.p (ci.getD j 0),q∈Q++ci.take j
 ep:∀ e∈es,e.n<=ci.length/\0∈p.p e.i/\(e.n=0\/ci.getD (e.n-1) 0∈p.p e.i)/\∀ q∈p.p e.i,q∈0::(Q++ci.take e.n)
 mp:∀ q∈p.p 0,q∈Q
 zp:(∀ q∈0::(ci++es.map (·.i)),q∈p.p z)/\∀ q∈p.p z,q∈0::(Q++(ci++es.map (·.i)))
 yp:z∈p.p y/\∀ q∈p.p y,q∈z::0::(Q++(ci++es.map (·.i)))
 nd:(Q++0::z::y::(ci++es.map (·.i))).Nodup
 qn:∀ k∈0::y::(ci++es.map (·.i)),p.quiet k=false
 qz:p.quiet z=true
theorem aZL {T:Tab} {ev:Operand->AV}:hop T ev (.mkm false)=some (.mp T.length,T++[some (MP [])]):=Eq.trans rfl rfl
theorem aQK {T0:Tab} {a b:Option AObj}:(T0++[a]).set T0.length b=T0++[b]:=by
 rw [List.set_append_right _ _ (Nat.le_refl _)];simp
section
variable {P:Program} {G:Nat->Option (List AV)} {p:Plan} {Q:List Nat} {m z y dz dy r0:Nat} {cs:List CE} {es:List IE} {s0:List (Nat×AV)} {T0:Tab} {vs:Nat->Bool} {K:St->Prop}
abbrev plS (m:Nat) (cs:List CE) (s0:List (Nat×AV)) (n0:Nat) (vs:Nat->Bool) (mm:Bool) (i:Nat):List (Nat×AV) :=
 s0++((cs.take i).map (fun c=>(c.d,.v (.bool (vs c.d))))++if mm then [(m,.mp n0)] else [])
abbrev plT (T0:Tab) (vs:Nat->Bool) (mm:Bool) (D:List IE):Tab:=T0++if mm then [some (MP (D.map fun e=>(e.k,vs e.s)))] else []
theorem aSC {l:List CE} {j:Nat} (hj:j<l.length):(l.map (·.i)).getD j 0=l[j].i:=by simp [hj]
theorem bBO (hok:PlOk p Q z y (cs.map (·.i)) es) (h0:p.hops[0]?=some ⟨some m,.mkm false,none⟩)
  (hc:∀ c∈cs,p.hops[c.i]?=some ⟨some c.d,.call (.func c.f) c.xs,none⟩)
  (he:∀ e∈es,p.hops[e.i]?=some ⟨none,.mup false [.int .i64] (.tmp m) (.const (.int .i64 e.k)) (.tmp e.s),none⟩)
  (hz:p.hops[z]?=some ⟨some dz,.mov (.tmp m),none⟩) (hy:p.hops[y]?=some ⟨some dy,.rgm (.tmp dz),none⟩)
  (hkeys:(s0.map (·.1)++(cs.map (·.d)++[m,dz,dy])).Nodup) (hek:(es.map (·.k)).Nodup)
  (hcall:∀ c∈cs,∀ (s:List (Nat×AV)) (T:Tab) (K':AV->Tab->Prop),(∀ x∈s0.map (·.1),aK s x=aK s0 x)->K' (.v (.bool (vs c.d))) T->aDT P G c.f (c.xs.map (evO G s)) T K')
  (hval:∀ e∈es,(e.s∈s0.map (·.1)/\aK s0 e.s=.v (.bool (vs e.s)))\/(∃ c,cs[e.n-1]?=some c/\0<e.n/\c.d=e.s))
  (hq:∀ (s:List (Nat×AV)) (T:Tab),(∀ x∈s0.map (·.1),aK s x=aK s0 x)->(∀ j,j<T0.length->bK T j=bK T0 j)->∀ q∈Q,∀ o,p.hops[q]?=some o->kK G ⟨r0,s,T⟩ [o])
  (hcs:0<cs.length)
  (hK:∀ X,X.Perm (es.map fun e=>(e.k,vs e.s))->K (gcs [] ⟨r0,(dy,.ptr (T0.length+1) 0)::(dz,.mp T0.length)::plS m cs s0 T0.length vs true cs.length,T0++[some (MP X),some (.mit (some T0.length) X.length [] X.length)]⟩)) :
  ∀ (n:Nat) (gc mm:Bool) (i:Nat) (D:List IE) (E:List Nat) (s:List (Nat×AV)),i<=cs.length->D.Nodup->(∀ e∈D,e∈es/\e.n<=i/\mm=true)->s.Perm (plS m cs s0 T0.length vs mm i) ->
   (∀ k,k∈E↔k∈Q\/(mm=true/\k=0)\/k∈(cs.map (·.i)).take i\/k∈D.map (·.i))->(gc=true\/(mm=false/\i=0))->cs.length+es.length+4<=n+i+D.length+mm.toNat ->
   pV P G p n gc E ⟨r0,s,plT T0 vs mm D⟩ K:=by
 have hnd:=List.nodup_append.1 hok.nd
 have hQ:=fun k (hk:k∈Q) k2 (hk2:k2∈0::z::y::(cs.map (·.i)++es.map (·.i)))=>hnd.2.2 k hk k2 hk2
 have hN:=hnd.2.1
 simp only [List.nodup_cons,List.mem_cons,not_or] at hN
 obtain ⟨⟨h0z,h0y,h0m⟩,⟨hzy,hzm⟩,hym,hN⟩:=hN
 have hcN:=(List.nodup_append.1 hN).1
 have heN:=(List.nodup_append.1 hN).2.1
 have hce:=(List.nodup_append.1 hN).2.2
 have hkn:=List.nodup_append.1 hkeys
 have keysOf:∀ (mm:Bool) (i:Nat),((plS m cs s0 T0.length vs mm i).map (·.1)).Nodup:=fun mm i=>by
  have hsub:((plS m cs s0 T0.length vs mm i).map (·.1)).Sublist (s0.map (·.1)++(cs.map (·.d)++[m,dz,dy])):=by
   simp only [List.map_append,List.map_map]
   refine List.Sublist.append (List.Sublist.refl _) (List.Sublist.append ?_ ?_)
   ·show ((cs.take i).map _).Sublist _
    exact (List.take_sublist i cs).map _
   ·cases mm
    ·exact List.nil_sublist _
    ·exact List.Sublist.cons_cons _ (List.nil_sublist _)
  exact hsub.nodup hkeys
 intro n
 induction n with
 | zero =>
  intro gc mm i D E s hi hD hDe _ _ _ hn
  exfalso
  have h1:D.length<=es.length:=by
   have:(D.map (·.i)).length<=(es.map (·.i)).length:=rN (by
    refine (List.nodup_iff_pairwise_ne.2 ?_)
    rw [List.pairwise_map]
    refine List.Pairwise.imp_of_mem (fun {a b} ha hb hab e=>hab ?_) (List.nodup_iff_pairwise_ne.1 hD)
    have:=hDe a ha
    have hb2:=hDe b hb
    obtain ⟨ia,hia,rfl⟩:=List.getElem_of_mem this.1
    obtain ⟨ib,hib,rfl⟩:=List.getElem_of_mem hb2.1
    have:=(List.getElem_inj (h₀:=by simpa using hia) (h₁:=by simpa using hib) heN).1 (by simpa using e)
    subst this;rfl) (fun x hx=>by obtain ⟨e,he1,rfl⟩:=List.mem_map.1 hx;exact List.mem_map.2 ⟨e,(hDe e he1).1,rfl⟩)
   simpa using this
  have h2:mm.toNat<=1:=by cases mm<;>decide
  omega
 | succ n ih =>
  intro gc mm i D E s hi hD hDe hs hE hgc hn
  have hgetI:∀ j (hj:j<cs.length),(cs.map (·.i)).getD j 0=cs[j].i:=fun j hj=>aSC hj
  have hcmem:∀ j (hj:j<cs.length),cs[j].i∈cs.map (·.i):=fun j hj=>List.mem_map.2 ⟨_,List.getElem_mem hj,rfl⟩
  have hctake:∀ j (hj:j<cs.length),cs[j].i∈(cs.map (·.i)).take i↔j<i:=fun j hj=>by
   rw [List.mem_take_iff_getElem]
   constructor
   ·rintro ⟨k,hk,e⟩
    simp only [List.length_map] at hk
    have:=(List.getElem_inj (h₀:=by simp;omega) (h₁:=by simpa using hj) hcN).1 (show (cs.map (·.i))[k]'(by simp;omega)=(cs.map (·.i))[j]'(by simpa using hj) by rw [e];simp)
    omega
   ·intro h;exact ⟨j,by simp;omega,by simp⟩
  have einj:∀ a∈es,∀ b∈es,a.i=b.i->a=b:=fun a ha b hb e=>by
   obtain ⟨ia,hia,rfl⟩:=List.getElem_of_mem ha
   obtain ⟨ib,hib,rfl⟩:=List.getElem_of_mem hb
   have:=(List.getElem_inj (h₀:=by simpa using hia) (h₁:=by simpa using hib) heN).1 (by simpa using e)
   subst this;rfl
  have hzE:z∉E:=fun h=>by
   rcases (hE z).1 h with h | ⟨_,h⟩ | h | h
   ·exact hQ z h z (by simp) rfl
   ·exact h0z h.symm
   ·exact hzm (List.mem_append.2 (.inl (List.mem_of_mem_take h)))
   ·obtain ⟨e,h1,h2⟩:=List.mem_map.1 h
    exact hzm (List.mem_append.2 (.inr (List.mem_map.2 ⟨e,(hDe e h1).1,h2⟩)))
  have hyR:y∉p.ready E:=fun h=>hzE ((jR.1 h).2.2 z hok.yp.1)
  have h0E:0∈E↔mm=true:=by
   rw [hE]
   constructor
   ·rintro (h | ⟨h,_⟩ | h | h)
    ·exact (hQ 0 h 0 (by simp) rfl).elim
    ·exact h
    ·exact (h0m (List.mem_append.2 (.inl (List.mem_of_mem_take h)))).elim
    ·obtain ⟨e,h1,h2⟩:=List.mem_map.1 h
     exact (h0m (List.mem_append.2 (.inr (List.mem_map.2 ⟨e,(hDe e h1).1,h2⟩)))).elim
   ·intro h;exact .inr (.inl ⟨h,rfl⟩)
  have hcE:∀ j (hj:j<cs.length),cs[j].i∈E↔j<i:=fun j hj=>by
   rw [hE,hctake j hj]
   constructor
   ·rintro (h | ⟨_,h⟩ | h | h)
    ·exact (hQ _ h cs[j].i (by simp [hcmem j hj]) rfl).elim
    ·exact (h0m (List.mem_append.2 (.inl (h ▸ hcmem j hj)))).elim
    ·exact h
    ·obtain ⟨e,h1,h2⟩:=List.mem_map.1 h
     exact (hce _ (hcmem j hj) _ (List.mem_map.2 ⟨e,(hDe e h1).1,rfl⟩) h2.symm).elim
   ·intro h;exact .inr (.inr (.inl h))
  have heE:∀ e∈es,e.i∈E↔e∈D:=fun e he1=>by
   have hm:e.i∈es.map (·.i):=List.mem_map.2 ⟨e,he1,rfl⟩
   rw [hE]
   constructor
   ·rintro (h | ⟨_,h⟩ | h | h)
    ·exact (hQ _ h e.i (by simp only [List.mem_cons,List.mem_append];exact .inr (.inr (.inr (.inr hm)))) rfl).elim
    ·exact (h0m (List.mem_append.2 (.inr (h ▸ hm)))).elim
    ·exact (hce _ (List.mem_of_mem_take h) _ hm rfl).elim
    ·obtain ⟨e',h1,h2⟩:=List.mem_map.1 h
     rw [<-einj e' (hDe e' h1).1 e he1 h2];exact h1
   ·intro h;exact .inr (.inr (.inr (List.mem_map.2 ⟨e,h,rfl⟩)))
  have hgS:∀ (s':List (Nat×AV)) (mm':Bool) (i':Nat),s'.Perm (plS m cs s0 T0.length vs mm' i')->∀ x∈s0.map (·.1),aK s' x=aK s0 x:=fun s' mm' i' hp x hx=>by
   have hk:=keysOf mm' i'
   rw [aVx hk hp (by simp only [List.map_append,List.mem_append];exact .inl hx)]
   refine yO hk ?_
   exact List.mem_append.2 (.inl (aQH hx))
  have hqn:∀ q,p.quiet q=true->q∈E->q∈Q:=fun q h1 h2=>by
   rcases (hE q).1 h2 with h | ⟨_,h⟩ | h | h
   ·exact h
   ·rw [h,hok.qn 0 (by simp)] at h1;simp at h1
   ·rw [hok.qn q (by simp only [List.mem_cons,List.mem_append];exact .inr (.inr (.inl (List.mem_of_mem_take h))))] at h1;simp at h1
   ·obtain ⟨e,h3,h4⟩:=List.mem_map.1 h
    rw [hok.qn q (by simp only [List.mem_cons,List.mem_append];exact .inr (.inr (.inr (List.mem_map.2 ⟨e,(hDe e h3).1,h4⟩))))] at h1;simp at h1
  have chk:∀ (k:Nat) (s':List (Nat×AV)) (T':Tab),p.quiet k=false->(∀ x∈s0.map (·.1),aK s' x=aK s0 x)->(∀ j,j<T0.length->bK T' j=bK T0 j)->kK G ⟨r0,s',T'⟩ (p.pend (k::E)):=fun k s' T' hk h1 h2=>aOW fun o ho=>by
   obtain ⟨q,hq1,hq2,_,hq4⟩:=aQJ ho
   refine hq s' T' h1 h2 q ?_ o hq4
   rcases List.mem_cons.1 hq1 with e | h
   ·rw [e,hk] at hq2;simp at hq2
   ·exact hqn q hq2 h
  have getT_app:∀ (T0 R:Tab) j,j<T0.length->bK (T0++R) j=bK T0 j:=fun T0 R j hj=>by unfold bK;rw [List.getElem?_append_left hj]
  have hDl:D.length<=es.length:=by
   have:(D.map (·.i)).length<=(es.map (·.i)).length:=rN (by
    refine (List.nodup_iff_pairwise_ne.2 ?_)
    rw [List.pairwise_map]
    exact List.Pairwise.imp_of_mem (fun {a b} ha hb hab e=>hab (einj a (hDe a ha).1 b (hDe b hb).1 e)) (List.nodup_iff_pairwise_ne.1 hD)) (fun x hx=>by obtain ⟨e,he1,rfl⟩:=List.mem_map.1 hx;exact List.mem_map.2 ⟨e,(hDe e he1).1,rfl⟩)
   simpa using this
  have hmN:mm.toNat<=1:=by cases mm<;>decide
  have hks:=keysOf mm i
  have hsn:(s.map (·.1)).Nodup:=(hs.map _).nodup_iff.2 hks
  have hnew:∀ x∈cs.map (·.d)++[m,dz,dy],x∉s0.map (·.1):=fun x hx h=>hkn.2.2 x h x hx rfl
  have hdN:=List.nodup_append.1 hkn.2.1
  by_cases hdone:mm=true/\i=cs.length/\∀ e∈es,e∈D
  ·obtain ⟨rfl,rfl,hall⟩:=hdone
   have hgt:gc=true:=by
    rcases hgc with h | ⟨h,_⟩
    ·exact h
    ·simp at h
   subst hgt
   have hzR:z∈p.ready E:=jR.2 ⟨hok.lt z (by simp),hzE,fun q hq1=>by
    have:=hok.zp.2 q hq1
    simp only [List.mem_cons,List.mem_append] at this
    rcases this with rfl | h | h | h
    ·exact h0E.2 rfl
    ·exact (hE q).2 (.inl h)
    ·obtain ⟨j,hj,rfl⟩:=List.getElem_of_mem h
     simp only [List.length_map] at hj
     simp only [List.getElem_map]
     exact (hcE j hj).2 hj
    ·obtain ⟨e,h1,rfl⟩:=List.mem_map.1 h
     exact (heE e h1).2 (hall e h1)⟩
   have hRz:∀ k∈p.ready E,k=z:=fun k hk=>by
    have h1:=jR.1 hk
    rcases hok.all k h1.1 with h | h | h | h | h | h
    ·exact (h1.2.1 ((hE k).2 (.inl h))).elim
    ·exact (h1.2.1 (h ▸ h0E.2 rfl)).elim
    ·obtain ⟨j,hj,rfl⟩:=List.getElem_of_mem h
     simp only [List.length_map] at hj
     simp only [List.getElem_map] at h1
     exact (h1.2.1 ((hcE j hj).2 hj)).elim
    ·obtain ⟨e,h3,rfl⟩:=List.mem_map.1 h
     exact (h1.2.1 ((heE e h3).2 (hall e h3))).elim
    ·exact h
    ·exact (hyR (h ▸ hk)).elim
   have hfz:(p.ready E).find? p.quiet=some z:=by
    cases h:(p.ready E).find? p.quiet with
    | none=>have:=List.find?_eq_none.1 h z hzR;rw [hok.qz] at this;simp at this
    | some k=>rw [hRz k (List.mem_of_find?_eq_some h)]
   have hDlen:D.length=es.length:=Nat.le_antisymm hDl (by
    have:(es.map (·.i)).length<=(D.map (·.i)).length:=rN heN (fun x hx=>by obtain ⟨e,he1,rfl⟩:=List.mem_map.1 hx;exact List.mem_map.2 ⟨e,hall e he1,rfl⟩)
    simpa using this)
   obtain ⟨n,rfl⟩:∃ n',n=n'+2:=⟨n-2,by simp only [Bool.toNat_true] at hn;omega⟩
   have hgm:aK s m=.mp T0.length:=yO hsn (hs.mem_iff.2 (by simp))
   rw [pV,hfz]
   have hopz:hop (plT T0 vs true D) (evO G s) (.mov (.tmp m))=some (.mp T0.length,plT T0 vs true D):=by simp only [hop,evO,hgm]
   simp only [hz,cL,hopz,cG]
   have hEz:∀ k∈p.ready (z::E),k=y:=fun k hk=>by
    have h1:=jR.1 hk
    simp only [List.mem_cons,not_or] at h1
    rcases hok.all k h1.1 with h | h | h | h | h | h
    ·exact (h1.2.1.2 ((hE k).2 (.inl h))).elim
    ·exact (h1.2.1.2 (h ▸ h0E.2 rfl)).elim
    ·obtain ⟨j,hj,rfl⟩:=List.getElem_of_mem h
     simp only [List.length_map] at hj
     simp only [List.getElem_map] at h1
     exact (h1.2.1.2 ((hcE j hj).2 hj)).elim
    ·obtain ⟨e,h3,rfl⟩:=List.mem_map.1 h
     exact (h1.2.1.2 ((heE e h3).2 (hall e h3))).elim
    ·exact (h1.2.1.1 h).elim
    ·exact h
   have hyE:y∉E:=fun h=>by
    rcases (hE y).1 h with h | ⟨_,h⟩ | h | h
    ·exact hQ y h y (by simp) rfl
    ·exact h0y h.symm
    ·exact hym (List.mem_append.2 (.inl (List.mem_of_mem_take h)))
    ·obtain ⟨e,h1,h2⟩:=List.mem_map.1 h
     exact hym (List.mem_append.2 (.inr (List.mem_map.2 ⟨e,(hDe e h1).1,h2⟩)))
   have hyz:y∈p.ready (z::E):=jR.2 ⟨hok.lt y (by simp),by simp only [List.mem_cons,not_or];exact ⟨fun h=>hzy h.symm,hyE⟩,fun q hq1=>by
    have:=hok.yp.2 q hq1
    simp only [List.mem_cons,List.mem_append] at this ⊢
    rcases this with rfl | rfl | h | h | h
    ·exact .inl rfl
    ·exact .inr (h0E.2 rfl)
    ·exact .inr ((hE q).2 (.inl h))
    ·obtain ⟨j,hj,rfl⟩:=List.getElem_of_mem h
     simp only [List.length_map] at hj
     simp only [List.getElem_map]
     exact .inr ((hcE j hj).2 hj)
    ·obtain ⟨e,h1,rfl⟩:=List.mem_map.1 h
     exact .inr ((heE e h1).2 (hall e h1))⟩
   have hfy:(p.ready (z::E)).find? p.quiet=none:=List.find?_eq_none.2 fun k hk=>by rw [hEz k hk,hok.qn y (by simp)];simp
   have hdzs:dz∉s.map (·.1):=fun h=>by
    have:=(hs.map (·.1)).mem_iff.1 h
    simp only [plS,List.map_append,List.mem_append,List.map_map] at this
    rcases this with h | h | h
    ·exact hnew dz (by simp) h
    ·obtain ⟨c,h1,h2⟩:=List.mem_map.1 h
     exact hdN.2.2 c.d (List.mem_map.2 ⟨c,List.mem_of_mem_take h1,rfl⟩) dz (by simp) h2
    ·simp at h
     have:=hdN.2.1
     simp [h] at this
   have hdys:dy∉s.map (·.1):=fun h=>by
    have:=(hs.map (·.1)).mem_iff.1 h
    simp only [plS,List.map_append,List.mem_append,List.map_map] at this
    rcases this with h | h | h
    ·exact hnew dy (by simp) h
    ·obtain ⟨c,h1,h2⟩:=List.mem_map.1 h
     exact hdN.2.2 c.d (List.mem_map.2 ⟨c,List.mem_of_mem_take h1,rfl⟩) dy (by simp) h2
    ·simp at h
     have:=hdN.2.1
     simp [h] at this
   have hzyd:dz≠dy:=by
    have:=hdN.2.1
    simp at this
    exact this.2
   have hs1:aAQ s dz (.mp T0.length)=(dz,.mp T0.length)::s:=by simp only [aAQ,aF7 hdzs]
   rw [hs1,pV,hfy]
   have hXl:(D.map fun e=>(e.k,vs e.s)).Perm (es.map fun e=>(e.k,vs e.s)):=by
    refine List.Perm.map _ ?_
    exact (List.perm_ext_iff_of_nodup hD (by
     refine List.nodup_iff_pairwise_ne.2 (List.Pairwise.imp_of_mem (fun {a b} ha hb hab e=>hab (congrArg IE.i e)) (List.pairwise_map.1 (List.nodup_iff_pairwise_ne.1 heN)))
     )).2 fun e=>⟨fun h=>(hDe e h).1,hall e⟩
   generalize hX:(D.map fun e=>(e.k,vs e.s))=X at *
   have hTX:plT T0 vs true D=T0++[some (MP X)]:=by simp only [plT,hX,if_true]
   rw [hTX]
   have hgX:bK (T0++[some (MP X)]) T0.length=some (MP X):=by simp [bK]
   have hopy:hop (T0++[some (MP X)]) (evO G ((dz,.mp T0.length)::s)) (.rgm (.tmp dz))=some (.ptr (T0.length+1) 0,T0++[some (MP X),some (.mit (some T0.length) X.length [] X.length)]):=by
    have h1:evO G ((dz,.mp T0.length)::s) (.tmp dz)=.mp T0.length:=by simp only [evO,aK,if_true]
    simp only [hop,h1,hgX]
    simp only [MP,List.length_append,List.length_cons,List.length_nil,List.append_assoc,List.cons_append,List.nil_append,Nat.zero_add]
   have last:∀ gc',pV P G p (n+1) (true||gc') (y::z::E) ⟨r0,(dy,.ptr (T0.length+1) 0)::(dz,.mp T0.length)::s,T0++[some (MP X),some (.mit (some T0.length) X.length [] X.length)]⟩ K:=fun gc'=>by
    have hr0:p.ready (y::z::E)=[]:=by
     refine List.eq_nil_iff_forall_not_mem.2 fun k hk=>?_
     have h1:=jR.1 hk
     simp only [List.mem_cons,not_or] at h1
     rcases hok.all k h1.1 with h | h | h | h | h | h
     ·exact (h1.2.1.2.2 ((hE k).2 (.inl h))).elim
     ·exact (h1.2.1.2.2 (h ▸ h0E.2 rfl)).elim
     ·obtain ⟨j,hj,rfl⟩:=List.getElem_of_mem h
      simp only [List.length_map] at hj
      simp only [List.getElem_map] at h1
      exact (h1.2.1.2.2 ((hcE j hj).2 hj)).elim
     ·obtain ⟨e,h3,rfl⟩:=List.mem_map.1 h
      exact (h1.2.1.2.2 ((heE e h3).2 (hall e h3))).elim
     ·exact (h1.2.1.2.1 h).elim
     ·exact (h1.2.1.1 h).elim
    rw [pV,hr0]
    simp only [List.find?_nil,Bool.true_or,if_true]
    have hpm:=((hs.cons (dz,AV.mp T0.length)).cons (dy,AV.ptr (T0.length+1) 0))
    have hn2:(((dy,AV.ptr (T0.length+1) 0)::(dz,AV.mp T0.length)::s).map (·.1)).Nodup:=by
     simp only [List.map_cons,List.nodup_cons,List.mem_cons,not_or]
     exact ⟨⟨fun h=>hzyd h.symm,hdys⟩,hdzs,hsn⟩
    rw [aQI hn2 hpm]
    exact hK X hXl
   cases hR:p.ready (z::E) with
   | nil=>rw [hR] at hyz;simp at hyz
   | cons c cs' =>
    simp only
    intro k hk
    have hky:=hEz k (by rw [hR];exact hk)
    subst hky
    refine ⟨_,hy,?_⟩
    simp only [cL,opW,hopy,cG,dR,Bool.false_eq_true,if_false]
    have hs2:aAQ ((dz,AV.mp T0.length)::s) dy (.ptr (T0.length+1) 0)=(dy,.ptr (T0.length+1) 0)::(dz,.mp T0.length)::s:=by
     simp only [aAQ];rw [aF7];simp only [List.map_cons,List.mem_cons,not_or];exact ⟨fun h=>hzyd h.symm,hdys⟩
    rw [hs2]
    refine ⟨aOW fun o ho=>?_,last _⟩
    obtain ⟨q,hq1,hq2,hq3,hq4⟩:=aQJ ho
    refine hq _ _ (fun x hx=>?_) (fun j hj=>getT_app _ _ j hj) q ?_ o hq4
    ·have e1:dy≠x:=fun e=>hnew dy (by simp) (e ▸ hx)
     have e2:dz≠x:=fun e=>hnew dz (by simp) (e ▸ hx)
     simp only [aK,e1,e2,if_false]
     exact hgS s true cs.length hs x hx
    ·rcases List.mem_cons.1 hq1 with e | h
     ·rw [e,hok.qn k (by simp)] at hq2;simp at hq2
     ·rcases List.mem_cons.1 h with e | h
      ·exact (hq3 k (by simp) (hok.qn k (by simp)) (e ▸ hok.yp.1)).elim
      ·exact hqn q hq2 h
  ·have hfn:(p.ready E).find? p.quiet=none:=List.find?_eq_none.2 fun k hk=>by
    have h1:=jR.1 hk
    rcases hok.all k h1.1 with h | h | h | h | h | h
    ·exact (h1.2.1 ((hE k).2 (.inl h))).elim
    ·rw [h,hok.qn 0 (by simp)];simp
    ·rw [hok.qn k (by simp only [List.mem_cons,List.mem_append];exact .inr (.inr (.inl h)))];simp
    ·rw [hok.qn k (by simp only [List.mem_cons,List.mem_append];exact .inr (.inr (.inr h)))];simp
    ·exfalso
     subst h
     have h2:=fun q hq1=>h1.2.2 q (hok.zp.1 q hq1)
     refine hdone ⟨h0E.1 (h2 0 (by simp)),?_,fun e he1=>(heE e he1).1 (h2 e.i (by simp only [List.mem_cons,List.mem_append];exact .inr (.inr (List.mem_map.2 ⟨e,he1,rfl⟩))))⟩
     have h3:cs.length-1<i:=(hcE (cs.length-1) (by omega)).1 (h2 _ (by simp only [List.mem_cons,List.mem_append];exact .inr (.inl (hcmem _ _))))
     omega
    ·exact (hyR (h ▸ hk)).elim
   have hr0:mm=false->0∈p.ready E:=fun h=>jR.2 ⟨hok.lt 0 (by simp),fun h2=>by rw [h0E,h] at h2;simp at h2,fun q hq1=>(hE q).2 (.inl (hok.mp q hq1))⟩
   have hrc:∀ hi2:i<cs.length,cs[i].i∈p.ready E:=fun hi2=>jR.2 ⟨hok.lt _ (by simp only [List.mem_cons,List.mem_append];exact .inr (.inr (.inr (.inl (hcmem i hi2))))),fun h2=>by have:=(hcE i hi2).1 h2;omega,fun q hq1=>by
    have:=(hok.cp i (by simpa using hi2)).2 q (by rw [hgetI i hi2];exact hq1)
    rcases List.mem_append.1 this with h | h
    ·exact (hE q).2 (.inl h)
    ·exact (hE q).2 (.inr (.inr (.inl h)))⟩
   rw [pV,hfn]
   cases hR:p.ready E with
   | nil =>
    exfalso
    rw [hR] at hr0 hrc
    cases mm with
    | false=>exact absurd (hr0 rfl) (by simp)
    | true =>
     by_cases hi2:i<cs.length
     ·exact absurd (hrc hi2) (by simp)
     ·have hie:i=cs.length:=by omega
      refine hdone ⟨rfl,hie,fun e he1=>?_⟩
      refine Classical.byContradiction fun hne=>?_
      have h1:=hok.ep e he1
      have:e.i∈p.ready E:=jR.2 ⟨hok.lt _ (by simp only [List.mem_cons,List.mem_append];exact .inr (.inr (.inr (.inr (List.mem_map.2 ⟨e,he1,rfl⟩))))),fun h2=>hne ((heE e he1).1 h2),fun q hq1=>by
       have:=h1.2.2.2 q hq1
       simp only [List.mem_cons,List.mem_append] at this
       rcases this with rfl | h | h
       ·exact h0E.2 rfl
       ·exact (hE q).2 (.inl h)
       ·refine (hE q).2 (.inr (.inr (.inl ?_)))
        rw [hie,List.take_of_length_le (by simp)]
        exact List.mem_of_mem_take h⟩
      rw [hR] at this
      simp at this
   | cons c cs' =>
    simp only
    have hgc':(gc||!cs'.isEmpty)=true:=by
     rcases hgc with h | ⟨h1,h2⟩
     ·rw [h];rfl
     ·have ha:=hr0 h1
      have hb:=hrc (by omega)
      rw [hR] at ha hb
      cases cs' with
      | cons _ _=>simp
      | nil =>
       exfalso
       simp only [List.mem_singleton] at ha hb
       exact h0m (List.mem_append.2 (.inl (by rw [ha,<-hb];exact hcmem _ _)))
    intro k hk
    have h1:=jR.1 (show k∈p.ready E by rw [hR];exact hk)
    have hTg:∀ (R:Tab) j,j<T0.length->bK (T0++R) j=bK T0 j:=fun R j hj=>getT_app T0 R j hj
    rcases hok.all k h1.1 with h | h | h | h | h | h
    ·exact (h1.2.1 ((hE k).2 (.inl h))).elim
    ·
     subst h
     have hmf:mm=false:=by
      cases mm with
      | false=>rfl
      | true=>exact (h1.2.1 (h0E.2 rfl)).elim
     subst hmf
     have hD0:D=[]:=List.eq_nil_iff_forall_not_mem.2 fun e h=>by have:=(hDe e h).2.2;simp at this
     subst hD0
     refine ⟨_,h0,?_⟩
     have hms:m∉s.map (·.1):=fun h=>by
      have:=(hs.map (·.1)).mem_iff.1 h
      simp only [plS,List.map_append,List.mem_append,List.map_map] at this
      rcases this with h | h | h
      ·exact hnew m (by simp) h
      ·obtain ⟨c,h1,h2⟩:=List.mem_map.1 h
       exact hdN.2.2 c.d (List.mem_map.2 ⟨c,List.mem_of_mem_take h1,rfl⟩) m (by simp) h2
      ·simp at h
     simp only [cL,opW,aZL,cG,dR,Bool.false_eq_true,if_false]
     have hT:(plT T0 vs false [])=T0:=by simp [plT]
     have hs1:aAQ s m (.mp T0.length)=(m,.mp T0.length)::s:=by simp only [aAQ,aF7 hms]
     rw [hT,hs1]
     have hp2:((m,AV.mp T0.length)::s).Perm (plS m cs s0 T0.length vs true i):=by
      refine (hs.cons _).trans ?_
      simp only [plS,Bool.false_eq_true,if_false,List.append_nil,if_true,<-List.append_assoc]
      exact (List.perm_append_singleton _ _).symm
     refine ⟨chk 0 _ _ (hok.qn 0 (by simp)) (hgS _ true i hp2) (hTg _),?_⟩
     have:=ih (gc||!cs'.isEmpty) true i [] (0::E) _ hi List.nodup_nil (fun e h=>by simp at h) hp2 (fun q=>?_) (.inl hgc') ?_
     ·simpa [plT] using this
     ·rw [List.mem_cons,hE]
      simp only [Bool.false_eq_true,false_and,false_or,true_and]
      constructor
      ·rintro (h | h | h)
       ·exact .inr (.inl h)
       ·exact .inl h
       ·exact .inr (.inr h)
      ·rintro (h | h | h)
       ·exact .inr (.inl h)
       ·exact .inl h
       ·exact .inr (.inr h)
     ·simp only [Bool.toNat_true,Bool.toNat_false] at hn ⊢;omega
    ·
     obtain ⟨j,hj,rfl⟩:=List.getElem_of_mem h
     simp only [List.length_map] at hj
     simp only [List.getElem_map] at h1 hk ⊢
     have hji:j=i:=by
      have h2:=hok.cp j (by simpa using hj)
      have h3:¬j<i:=fun h=>h1.2.1 ((hcE j hj).2 h)
      rcases h2.1 with h4 | h4
      ·omega
      ·have h5:=h1.2.2 _ (by rw [hgetI j hj] at h4;exact h4)
       rw [hgetI (j-1) (by omega)] at h5
       have:=(hcE (j-1) (by omega)).1 h5
       omega
     subst hji
     refine ⟨_,hc cs[j] (List.getElem_mem hj),?_⟩
     simp only [cL,opW,evO,List.append_nil]
     refine hcall cs[j] (List.getElem_mem hj) s _ _ (hgS s mm j hs) ?_
     have hcs1:cs[j].d∉s.map (·.1):=fun h=>by
      have:=(hs.map (·.1)).mem_iff.1 h
      simp only [plS,List.map_append,List.mem_append,List.map_map] at this
      have hdn:(cs.map (·.d)).Nodup:=hdN.1
      rcases this with h | h | h
      ·exact hnew _ (List.mem_append.2 (.inl (List.mem_map.2 ⟨_,List.getElem_mem hj,rfl⟩))) h
      ·obtain ⟨c,h3,h4⟩:=List.mem_map.1 h
       obtain ⟨k,hk2,rfl⟩:=List.mem_take_iff_getElem.1 h3
       have:=(List.getElem_inj (h₀:=by simp;omega) (h₁:=by simpa using hj) hdn).1 (show (cs.map (·.d))[k]'(by simp;omega)=(cs.map (·.d))[j]'(by simpa using hj) by simpa using h4)
       omega
      ·cases mm with
       | false=>simp at h
       | true =>
        simp at h
        exact hdN.2.2 cs[j].d (List.mem_map.2 ⟨_,List.getElem_mem hj,rfl⟩) m (by simp) h
     have hp2:((cs[j].d,AV.v (.bool (vs cs[j].d)))::s).Perm (plS m cs s0 T0.length vs mm (j+1)):=by
      refine (hs.cons _).trans ?_
      simp only [plS]
      rw [List.take_succ_eq_append_getElem hj,List.map_append,List.map_cons,List.map_nil,List.append_assoc]
      refine (List.perm_middle (l₁:=s0)).symm.trans (List.Perm.append_left _ ?_)
      exact (List.perm_middle (a:=(cs[j].d,AV.v (.bool (vs cs[j].d)))) (l₁:=(cs.take j).map fun c=>(c.d,AV.v (.bool (vs c.d))))).symm
     have hs1:cG s (some cs[j].d) (.v (.bool (vs cs[j].d)))=(cs[j].d,.v (.bool (vs cs[j].d)))::s:=by simp only [cG,aAQ,aF7 hcs1]
     rw [hs1]
     simp only [dR,Bool.false_eq_true,if_false]
     have hqk:=hok.qn cs[j].i (by simp only [List.mem_cons,List.mem_append];exact .inr (.inr (.inl (hcmem j hj))))
     refine ⟨chk _ _ _ hqk (hgS _ mm (j+1) hp2) (hTg _),?_⟩
     refine ih (gc||!cs'.isEmpty) mm (j+1) D (cs[j].i::E) _ hj hD (fun e h=>by have:=hDe e h;exact ⟨this.1,by omega,this.2.2⟩) hp2 (fun q=>?_) (.inl hgc') (by omega)
     rw [List.mem_cons,hE,List.take_succ_eq_append_getElem (by simpa using hj)]
     simp only [List.mem_append,List.mem_singleton,List.getElem_map]
     constructor
     ·rintro (h | h | h | h | h)
      ·exact .inr (.inr (.inl (.inr h)))
      ·exact .inl h
      ·exact .inr (.inl h)
      ·exact .inr (.inr (.inl (.inl h)))
      ·exact .inr (.inr (.inr h))
     ·rintro (h | h | (h | h) | h)
      ·exact .inr (.inl h)
      ·exact .inr (.inr (.inl h))
      ·exact .inr (.inr (.inr (.inl h)))
      ·exact .inl h
      ·exact .inr (.inr (.inr (.inr h)))
    ·
     obtain ⟨e,he1,rfl⟩:=List.mem_map.1 h
     have h2:=hok.ep e he1
     have hmt:mm=true:=h0E.1 (h1.2.2 0 h2.2.1)
     subst hmt
     have hni:e.n<=i:=by
      rcases h2.2.2.1 with h3 | h3
      ·omega
      ·rcases Nat.eq_zero_or_pos e.n with h5 | h5
       ·omega
       have h4:=h1.2.2 _ h3
       have hlt:e.n-1<cs.length:=by have:=h2.1;simp at this;omega
       rw [hgetI _ hlt] at h4
       have:=(hcE _ hlt).1 h4
       omega
     have hnD:e∉D:=fun h=>h1.2.1 ((heE e he1).2 h)
     refine ⟨_,he e he1,?_⟩
     have hgm:aK s m=.mp T0.length:=yO hsn (hs.mem_iff.2 (by simp))
     have hgv:aK s e.s=.v (.bool (vs e.s)):=by
      rcases hval e he1 with ⟨h3,h4⟩ | ⟨c,h3,h4,h5⟩
      ·rw [hgS s true i hs e.s h3,h4]
      ·refine yO hsn (hs.mem_iff.2 ?_)
       obtain ⟨hlt,rfl⟩:=List.getElem?_eq_some_iff.1 h3
       simp only [plS,List.mem_append,List.mem_map]
       exact .inr (.inl ⟨cs[e.n-1],List.mem_take_iff_getElem.2 ⟨e.n-1,by omega,rfl⟩,by rw [h5]⟩)
     have hkn:e.k∉(D.map fun e=>(e.k,vs e.s)).map (·.1):=fun h=>by
      simp only [List.map_map,List.mem_map,Function.comp] at h
      obtain ⟨e',h3,h4⟩:=h
      refine hnD ?_
      have h6:e'=e:=by
       obtain ⟨ia,hia,rfl⟩:=List.getElem_of_mem (hDe e' h3).1
       obtain ⟨ib,hib,rfl⟩:=List.getElem_of_mem he1
       have:=(List.getElem_inj (h₀:=by simpa using hia) (h₁:=by simpa using hib) hek).1 (by simpa using h4)
       subst this;rfl
      rw [<-h6];exact h3
     have hT0:T0++[some (MP (D.map fun e:IE=>(e.k,vs e.s)))]=(T0++[none]).set T0.length (some (MP (D.map fun e:IE=>(e.k,vs e.s)))):=by rw [aQK]
     have hstep:=aTL (T:=T0++[none]) (i:=T0.length) (by simp) (ev:=evO G s) (m:=m) (D:=D.map fun e:IE=>(e.k,vs e.s)) (e:=(e.k,e.s,vs e.s)) (by simp only [evO,hgm]) rfl (by simp only [evO,hgv]) hkn
     have hpT:plT T0 vs true D=(T0++[none]).set T0.length (some (MP (D.map fun e:IE=>(e.k,vs e.s)))):=by simp only [plT,if_true,hT0]
     rw [hpT]
     simp only [cL,opW,hstep,cG,dR,Bool.false_eq_true,if_false]
     rw [aQK]
     have hqk:=hok.qn e.i (by simp only [List.mem_cons,List.mem_append];exact .inr (.inr (.inr (List.mem_map.2 ⟨e,he1,rfl⟩))))
     refine ⟨chk _ _ _ hqk (hgS _ true i hs) (hTg _),?_⟩
     have:=ih (gc||!cs'.isEmpty) true i (D++[e]) (e.i::E) s hi (List.nodup_append.2 ⟨hD,by simp,fun a ha b hb hab=>by rw [List.mem_singleton] at hb;subst hb;subst hab;exact hnD ha⟩) (fun x hx=>by
      rcases List.mem_append.1 hx with h | h
      ·exact hDe x h
      ·rw [List.mem_singleton] at h;subst h;exact ⟨he1,hni,rfl⟩) hs (fun q=>?_) (.inl hgc') (by simp only [List.length_append,List.length_cons,List.length_nil];omega)
     ·simpa [plT] using this
     ·rw [List.mem_cons,hE]
      simp only [List.map_append,List.map_cons,List.map_nil,List.mem_append,List.mem_singleton]
      constructor
      ·rintro (h | h | h | h | h)
       ·exact .inr (.inr (.inr (.inr h)))
       ·exact .inl h
       ·exact .inr (.inl h)
       ·exact .inr (.inr (.inl h))
       ·exact .inr (.inr (.inr (.inl h)))
      ·rintro (h | h | h | h | h)
       ·exact .inr (.inl h)
       ·exact .inr (.inr (.inl h))
       ·exact .inr (.inr (.inr (.inl h)))
       ·exact .inr (.inr (.inr (.inr h)))
       ·exact .inl h
    ·exfalso
     have:=List.find?_eq_none.1 hfn k (by rw [hR];exact hk)
     rw [h,hok.qz] at this
     simp at this
    ·exact (hyR (h ▸ (by rw [hR];exact hk))).elim
end
theorem aZM {P:Program} {G:Nat->Option (List AV)} {hops:List HOper} {pre:List (List Nat)} {n:Nat} {gc:Bool} {E:List Nat} {st:St} {K:St->Prop} (h:∀ p:Plan,p=⟨hops,pre⟩->pV P G p n gc E st K):@hdC P G (.plan hops pre n gc E) st ⟨K⟩:=h _ rfl
theorem aNE (p:Nat×AV):∀ l:List (Nat×AV),(aFg p l).Perm (p::l)
 | []=>by simp [aFg]
 | q::l=>by
  simp only [aFg]
  split
  ·exact List.Perm.refl _
  ·exact ((aNE p l).cons q).trans (List.Perm.swap p q l)
theorem aQL:∀ l:List (Nat×AV),(mJ l).Perm l
 | []=>List.Perm.refl _
 | p::l=>(aNE p _).trans ((aQL l).cons p)
theorem aVy {P:Program} {G:Nat->Option (List AV)} {a b c:HC} {st:St} {Q:Ex->St->Prop} (h:@cZ P G (.seq (.seq a b) c) st ⟨Q⟩):@cZ P G (.seq a (.seq b c)) st ⟨Q⟩:=by
 simp only [dH] at h ⊢
 refine tN (fun e s hq=>?_) h
 cases e with
 | normal=>simp only [bAI] at hq ⊢;rw [dH];exact hq
 | exit i=>simp only [bAJ] at hq ⊢;exact hq
 | ret=>simp only [bAK] at hq ⊢;exact hq
end
section
open Go.Proofs.Tryz
def aQM (o:OpM):List (Int×Nat×Bool):=[(1,9,o.Device !=0),(2,12,o.Old !=0),(4,15,o.Member !=0),(8,18,o.Role !=0),(16,22,decide ((o.Path.length:Int)>0)),(32,26,!(o.Epoch.a==0&&(o.Epoch.b==0&&o.Epoch.c==0))),(64,29,o.N !=0),(128,33,decide ((o.Body.length:Int)>0)),(256,37,decide ((o.Refs.length:Int)>0)),(512,41,!(o.Of.a==0&&(o.Of.b==0&&o.Of.c==0))),
 (1024,45,decide ((o.Guards.length:Int)>0)),(2048,48,o.Need !=0),(4096,51,o.Wait !=0),(8192,55,decide ((o.Boxes.length:Int)>0)),(16384,58,((o.Pub:Int)!=0)),(32768,62,decide ((o.Hist.length:Int)>0))]
section
variable {G:Nat->Option (List AV)}
set_option maxHeartbeats 4000000
theorem aVz (o:OpM):aD prog G zY [.ag o.A] [] fun r T=>r=.v (.int .i64 ((lE (eB o):Nat):Int))/\T=[]:=by
 refine aF aHH (by decide) ?_
 unfold aEO
 dsimp only [zj,zT,zF,zC,zE,zP,zQ,zq,zA,zm,zo,zs,zg,zh,zl,zv,zf,zi,zn,zb,zc,ze,zk,zw,zu,zt,zr,zR,zK,zN,zS,z0,zU]
 simp only [go_sem,↓reduceIte,OpM.A_def,List.length_map]
 refine bBk rfl (aKF (T0:=[some (.box o.A),none]) (i:=1) (m:=6) (by simp) rfl ?_ 16 (aQM o) [] rfl ?_ ?_ ?_)
 ·intro X
  simp only [go_sem,↓reduceIte,OpM.A_def,List.length_map]
 ·intro e he
  simp only [aQM,List.mem_cons,List.not_mem_nil,or_false] at he
  rcases he with rfl | rfl | rfl | rfl | rfl | rfl | rfl | rfl | rfl | rfl | rfl | rfl | rfl | rfl | rfl | rfl<;>rfl
 ·show ([1,2,4,8,16,32,64,128,256,512,1024,2048,4096,8192,16384,32768]:List Int).Nodup
  decide
 intro X hX
 have hX2:X.Perm (eB o):=hX
 have hk:∀ e∈X,∃ k:Nat,e.1=(k:Int)/\k<65536:=fun e he=>by
  have:=hX2.mem_iff.1 he
  simp only [eB,List.mem_cons,List.not_mem_nil,or_false] at this
  rcases this with rfl | rfl | rfl | rfl | rfl | rfl | rfl | rfl | rfl | rfl | rfl | rfl | rfl | rfl | rfl | rfl
  ·exact ⟨1,rfl,by decide⟩
  ·exact ⟨2,rfl,by decide⟩
  ·exact ⟨4,rfl,by decide⟩
  ·exact ⟨8,rfl,by decide⟩
  ·exact ⟨16,rfl,by decide⟩
  ·exact ⟨32,rfl,by decide⟩
  ·exact ⟨64,rfl,by decide⟩
  ·exact ⟨128,rfl,by decide⟩
  ·exact ⟨256,rfl,by decide⟩
  ·exact ⟨512,rfl,by decide⟩
  ·exact ⟨1024,rfl,by decide⟩
  ·exact ⟨2048,rfl,by decide⟩
  ·exact ⟨4096,rfl,by decide⟩
  ·exact ⟨8192,rfl,by decide⟩
  ·exact ⟨16384,rfl,by decide⟩
  ·exact ⟨32768,rfl,by decide⟩
 have hlen:X.length=16:=hX2.length_eq
 rw [<-aKG hX2]
 clear hX hX2
 simp only [go_sem,↓reduceIte,MP,OpM.A_def,List.length_map]
 have hloop:∀ e∈aEU X [],e.1.toNat<65536:=fun e he=>by simp [aEU] at he
 refine fS (fun n st=>∃ seen:List Nat,n=16-seen.length/\seen.Nodup/\(∀ b∈seen,b<X.length)/\st=⟨0,[(3,.v (.int .i64 ((lE (aEU X seen):Nat):Int))),(64,.ptr 0 0)],[some (.mit (some 1) X.length seen X.length),some (MP X)]⟩) 16 ⟨[],rfl,List.nodup_nil,fun b hb=>by simp at hb,?_⟩ ?_
 ·simp only [go_sem,↓reduceIte,MP,List.length_map]
  rfl
 rintro n st ⟨seen,rfl,hn,hs,rfl⟩
 have hsl:seen.length<=16:=by
  have h1:seen.length<=(List.range X.length).length:=rN hn fun b hb=>List.mem_range.2 (hs b hb)
  simpa [hlen] using h1
 have hml:∀ e∈aEU X seen,e.1.toNat<65536:=fun e he=>by
  obtain ⟨b,hb,rfl⟩:=List.mem_map.1 he
  have hbl:=hs b hb
  obtain ⟨k,h1,h2⟩:=hk X[b] (List.getElem_mem hbl)
  simp only [List.getD_eq_getElem?_getD,List.getElem?_eq_getElem hbl,Option.getD_some,h1]
  omega
 have hacc:lE (aEU X seen)<65536:=aSb _ 0 (by decide) hml
 simp only [go_sem,↓reduceIte]
 refine bAf rfl rfl (Nat.le_refl _) (Nat.le_refl _) (fun hall=>?_) fun b hb hns=>?_
 ·have:=aKG (aZm hn hs hall)
  simp only [go_sem,↓reduceIte,this]
 ·obtain ⟨k,h1,h2⟩:=hk X[b] (List.getElem_mem hb)
  have h3:(X.map fun e=>[Value.int .i64 e.1])[b]?=some [.int .i64 (k:Int)]:=by simp [hb,h1]
  have h4:(X.map fun e=>AV.v (.bool e.2))[b]?=some (.v (.bool X[b].2)):=by simp [hb]
  have hkv:fD false [Value.int .i64 (k:Int)]=.int .i64 (k:Int):=Eq.trans rfl rfl
  have hor:=aXm (lE (aEU X seen)) k hacc h2
  have hnext:lE (aEU X (seen++[b]))=orF (lE (aEU X seen)) X[b]:=by
   simp only [lE,aEU,List.map_append,List.map_cons,List.map_nil,List.foldl_append,List.foldl_cons,List.foldl_nil,List.getD_eq_getElem?_getD,List.getElem?_eq_getElem hb,Option.getD_some]
  have hfin:∀ v:Nat,orF (lE (aEU X seen)) X[b]=v->∃ m,m<16-seen.length/\∃ seen':List Nat,m=16-seen'.length/\seen'.Nodup/\(∀ b∈seen',b<X.length)/\(⟨0,[(3,.v (.int .i64 (v:Int))),(64,.ptr 0 0)],[some (.mit (some 1) X.length (seen++[b]) X.length),some (MP X)]⟩:St)=⟨0,[(3,.v (.int .i64 ((lE (aEU X seen'):Nat):Int))),(64,.ptr 0 0)],[some (.mit (some 1) X.length seen' X.length),some (MP X)]⟩:=fun v hv=>by
   have hn2:(seen++[b]).Nodup:=List.nodup_append.2 ⟨hn,by simp,fun x hx y hy e=>hns (by rw [List.mem_singleton] at hy;rw [<-hy,<-e];exact hx)⟩
   have hl2:(seen++[b]).length<=(List.range X.length).length:=rN hn2 fun x hx=>List.mem_range.2 ((List.mem_append.1 hx).elim (hs x) fun h=>by rw [List.mem_singleton.1 h];exact hb)
   simp [hlen] at hl2
   refine ⟨16-(seen++[b]).length,by simp;omega,seen++[b],rfl,hn2,fun x hx=>(List.mem_append.1 hx).elim (hs x) fun h=>by rw [List.mem_singleton.1 h];exact hb,by rw [hnext,hv]⟩
  unfold orF at hfin
  rw [h1] at hfin
  simp only [Int.toNat_natCast] at hfin
  generalize X[b].2=t at h4 hfin
  cases t with
  | true =>
   simp only [go_sem,↓reduceIte,MP,List.getLast?_concat,xB hb,h3,h4,↓hkv,↓hor,if_true,h1]
   exact hfin _ (if_pos rfl)
  | false =>
   simp only [go_sem,↓reduceIte,MP,List.getLast?_concat,xB hb,h3,h4,↓hkv,h1]
   exact hfin _ (if_neg (by decide))
end
end
end Hud
