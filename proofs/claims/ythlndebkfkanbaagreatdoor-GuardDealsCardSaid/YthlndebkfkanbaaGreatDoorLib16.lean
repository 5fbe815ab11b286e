import Derived.Test.YthlndebkfkanbaaGreatDoorLib15
set_option linter.all false
namespace Hud
open Go
section
open Go.Proofs.Tryz
section
variable {G:Nat->Option (List AV)}
set_option maxHeartbeats 4000000
theorem aTH (l:List Fq) (x:Fq) (i:Nat) (h:i<l.length):ev (l.drop i) x=ev (l.drop (i+1)) x*x+l[i]:=by
 rw [List.drop_eq_getElem_cons h,ev]
 grind
theorem aS2 (l:List Fq):aD prog G dX [.ls 1 (fl l)] [] fun r T=>r=.cl dF [.ptr 0 0]/\T=[some (.box [.ls 1 (fl l)])]:=by
 refine aF nF (by decide) ?_
 unfold iS
 dsimp only [zj,zT,zF,zC,zE,zP,zQ,zq,zA,zm,zo,zs,zg,zh,zl,zv,zf,zi,zn,zb,zc,ze,zk,zw,zu,zt,zr,zR,zK,zN,zS,z0,zU]
 simp only [go_sem,↓reduceIte]
theorem aOu (l:List Fq) (x:Fq) (hl:l.length<=1000000):aD prog G nX [.ls 1 (fl l),.v (fu x)] [] fun r T=>r=.v (fu (ev l x))/\T=[]:=by
 refine aF aJO (by decide) ?_
 unfold aGO
 dsimp only [zj,zT,zF,zC,zE,zP,zQ,zq,zA,zm,zo,zs,zg,zh,zl,zv,zf,zi,zn,zb,zc,ze,zk,zw,zu,zt,zr,zR,zK,zN,zS,z0,zU]
 simp only [go_sem,↓reduceIte]
 refine bU (aA _) rfl (aS2 l) ?_
 simp only [go_sem,↓reduceIte]
 refine aJ9 rfl (pZ fO) fun r h1 h2 hy hyR=>?_
 simp only [go_sem,↓reduceIte]
 refine aA8 [0,1,2,3] (aA _) (by decide) (fun i hi=>by simp at hi ⊢;omega) rfl rfl (aF fO (by decide) ?_)
 unfold gS
 dsimp only [zj,zT,zF,zC,zE,zP,zQ,zq,zA,zm,zo,zs,zg,zh,zl,zv,zf,zi,zn,zb,zc,ze,zk,zw,zu,zt,zr,zR,zK,zN,zS,z0,zU]
 have w0:IntKind.i64.wrap ((l.length:Int)-1)=(l.length:Int)-1:=aM (by omega) (by omega)
 simp only [go_sem,↓reduceIte,List.length_map,w0]
 refine fS (fun m s=>m<=l.length/\s=⟨4,[(0,.yl 3),(1,.ptr 2 0),(3,iv ((m:Int)-1))],[some (.box [.v (fu x)]),some (.box [.v (fu (ev (l.drop m) x))]),some (.box [.ls 1 (fl l)]),some (.lp r [(5,.ptr 1 0),(3,.ptr 0 0)])]⟩) l.length ⟨Nat.le_refl _,?_⟩ ?_
 ·simp only [go_sem,↓reduceIte,List.drop_length,ev]
  rfl
 ·rintro m s ⟨hm,rfl⟩
  rcases Nat.eq_zero_or_pos m with rfl | hpos
  ·have hd:decide ((-1:Int)>=0)=false:=by decide
   simp only [go_sem,↓reduceIte,hd,h1,h2,aUR,List.drop_zero]
  ·obtain ⟨i,rfl⟩:∃ i,m=i+1:=⟨m-1,by omega⟩
   have ei:(((i+1:Nat):Int)-1)=((i:Nat):Int):=by omega
   have hd:decide (((i:Nat):Int)>=0)=true:=by simp
   have hil:i<l.length:=by omega
   have g0:(fl l)[i]?=some [.v (fu l[i])]:=aX (fun c=>[AV.v (fu c)]) l i hil
   have w1:IntKind.i64.wrap ((i:Int)-1)=(i:Int)-1:=aM (by omega) (by omega)
   rw [ei]
   simp only [go_sem,↓reduceIte,hd,g0,List.length_map,hil]
   refine hy _ _ _ _ _ rfl rfl ?_
   simp only [go_sem,↓reduceIte]
   refine aC (R:=.v (fu (ev (l.drop (i+1)) x*x))) (aA _) rfl (aGD (ev (l.drop (i+1)) x) x) rfl ?_
   simp only [go_sem,↓reduceIte]
   refine aC (R:=.v (fu (ev (l.drop (i+1)) x*x+l[i]))) (aA _) rfl (aMO (ev (l.drop (i+1)) x*x) l[i]) rfl ?_
   simp only [go_sem,↓reduceIte,w1]
   refine ⟨i,by omega,by omega,?_⟩
   rw [aTH l x i hil]
theorem bBa (l:List Fq) (x:Fq) (hl:l.length<=1000000):aD prog G zL [.ls 1 (fl l),.v (fu x)] [] fun r T=>r=.v (fu (ev l x))/\T=[]:=by
 refine aF aCC (by decide) ?_
 unfold aDv
 dsimp only [zj,zT,zF,zC,zE,zP,zQ,zq,zA,zm,zo,zs,zg,zh,zl,zv,zf,zi,zn,zb,zc,ze,zk,zw,zu,zt,zr,zR,zK,zN,zS,z0,zU]
 have w0:IntKind.i64.wrap ((l.length:Int)-1)=(l.length:Int)-1:=aM (by omega) (by omega)
 simp only [go_sem,↓reduceIte,List.length_map,w0]
 refine fS (fun m s=>m<=l.length/\s=⟨0,[(0,.ls 1 (fl l)),(1,.v (fu x)),(5,.v (fu (ev (l.drop m) x))),(6,iv ((m:Int)-1))],[]⟩) l.length ⟨Nat.le_refl _,?_⟩ ?_
 ·simp only [go_sem,↓reduceIte,List.drop_length,ev]
  rfl
 ·rintro m s ⟨hm,rfl⟩
  rcases Nat.eq_zero_or_pos m with rfl | hpos
  ·have hd:decide ((-1:Int)>=0)=false:=by decide
   simp only [go_sem,↓reduceIte,hd,List.drop_zero]
  ·obtain ⟨i,rfl⟩:∃ i,m=i+1:=⟨m-1,by omega⟩
   have ei:(((i+1:Nat):Int)-1)=((i:Nat):Int):=by omega
   have hd:decide (((i:Nat):Int)>=0)=true:=by simp
   have hil:i<l.length:=by omega
   have g0:(fl l)[i]?=some [.v (fu l[i])]:=aX (fun c=>[AV.v (fu c)]) l i hil
   have w1:IntKind.i64.wrap ((i:Int)-1)=(i:Int)-1:=aM (by omega) (by omega)
   rw [ei]
   simp only [go_sem,↓reduceIte,hd,g0,List.length_map,hil]
   refine aC (R:=.v (fu (ev (l.drop (i+1)) x*x))) (aA _) rfl (aMR (ev (l.drop (i+1)) x) x) rfl ?_
   simp only [go_sem,↓reduceIte,g0,List.length_map,hil]
   refine aC (R:=.v (fu (ev (l.drop (i+1)) x*x+l[i]))) (aA _) rfl (aTl (ev (l.drop (i+1)) x*x) l[i]) rfl ?_
   simp only [go_sem,↓reduceIte,w1]
   refine ⟨i,by omega,by omega,?_⟩
   rw [aTH l x i hil]
end
end
section
open Go.Proofs.Tryz
abbrev nq (n:Nat):Fq:=Fin.ofNat PP n
def aT (cs:List Fq) (k:Nat):List (Nat×Fq):=(List.range k).map fun i=>(i+1,ev cs (nq (i+1)))
def fW (x:Nat×Fq):List AV:=[uv x.1,.v (fu x.2)]
abbrev shs (l:List (Nat×Fq)):AV:=.ls 2 (l.map fW)
theorem aDE (cs:List Fq) (i:Nat):aT cs (i+1)=aT cs i++[(i+1,ev cs (nq (i+1)))]:=by
 simp [aT,List.range_succ]
theorem gT (cs:List Fq) (i:Nat):(aT cs i).length=i:=by simp [aT]
theorem aS3 (n:Nat) (h:n<PP):((nq n).val:Nat)=n:=Nat.mod_eq_of_lt h
theorem pI (n:Nat) (h:n<PP):fu (nq n)=.int .u64 (n:Int):=by
 show Value.int .u64 (((n%PP:Nat)):Int)=_
 rw [Nat.mod_eq_of_lt h]
section
variable {G:Nat->Option (List AV)}
set_option maxHeartbeats 4000000
theorem aKA (n:Fq) (cs:List Fq) (k:Nat) (hc:cs.length<=1000) (hk:k<=1000):aD prog G mY [.v (fu n),.ls 1 (fl cs),iv k] [] fun r T=>r=.own 0/\T=[some (.arr 2 ((aT (n::cs) k).map fW))]:=by
 refine aF aFR (by decide) ?_
 unfold aCD
 dsimp only [zj,zT,zF,zC,zE,zP,zQ,zq,zA,zm,zo,zs,zg,zh,zl,zv,zf,zi,zn,zb,zc,ze,zk,zw,zu,zt,zr,zR,zK,zN,zS,z0,zU]
 have w0:IntKind.u64.wrap (k:Int)=(k:Int):=aS k (by omega)
 have b1:(1+cs.length)*8<=140737488355328:=by omega
 have b2:1+cs.length<=maxLen:=by unfold maxLen;omega
 simp only [go_sem,↓reduceIte,List.length_map,b1,b2,and_self]
 refine aL k (fun i=>⟨0,[(2,iv k),(7,.own 0),(8,.own 1),(9,uv (i+1:Nat))],[some (.arr 1 (fl (n::cs))),some (.arr 2 ((aT (n::cs) i).map fW))]⟩) (fun _=>True) ?_ trivial ?_ ?_
 ·simp only [go_sem,↓reduceIte]
  rfl
 ·intro i hi _
  have ws:IntKind.u64.wrap (((i+1:Nat):Int)+1)=((i+1+1:Nat):Int):=aS (i+2) (by omega)
  have hd:decide ((k:Int)>0)=true:=decide_eq_true (by omega)
  have hd2:decide (((i+1:Nat):Int)<=(k:Int))=true:=decide_eq_true (by omega)
  have fe:=aOu (G:=G) (n::cs) (nq (i+1)) (by simp;omega)
  rw [pI (i+1) (by unfold PP;omega)] at fe
  have hl:=gT (n::cs) i
  simp only [go_sem,↓reduceIte,hd,w0,hd2]
  refine bJ (aA _) rfl rfl fe ?_
  simp only [go_sem,↓reduceIte,List.length_map,hl,aDE,fW,ws,List.map_append,show i+1<=maxLen by unfold maxLen;omega,show (i+1)*16<=140737488355328 by omega]
 ·intro _
  cases hd:decide ((k:Int)>0)
  ·simp only [go_sem,↓reduceIte,hd,undef]
  ·have hd2:decide (((k+1:Nat):Int)<=(k:Int))=false:=decide_eq_false (by omega)
   simp only [go_sem,↓reduceIte,hd,w0,hd2]
theorem aCS (n:Fq) (cs:List Fq) (k:Nat) (hc:cs.length<=1000) (hk:k<=1000):aD prog G mY [.v (fu n),.ls 1 (fl cs),iv k] [] fun r T=>r=shs (aT (n::cs) k)/\T=[]:=by
 refine (aKA n cs k hc hk).fin [0] ?_
 rintro r T' ⟨rfl,rfl⟩
 simp only [go_sem,↓reduceIte,List.length_nil]
theorem aOv (n:Fq) (cs:List Fq) (k:Nat) (hc:cs.length<=1000) (hk:k<=1000):aD prog G rC [.v (fu n),.ls 1 (fl cs),iv k] [] fun r T=>r=.own 0/\T=[some (.arr 2 ((aT (n::cs) k).map fW))]:=by
 refine aF aBr (by decide) ?_
 unfold aBq
 dsimp only [zj,zT,zF,zC,zE,zP,zQ,zq,zA,zm,zo,zs,zg,zh,zl,zv,zf,zi,zn,zb,zc,ze,zk,zw,zu,zt,zr,zR,zK,zN,zS,z0,zU]
 have b1:(1+cs.length)*8<=140737488355328:=by omega
 have b2:1+cs.length<=maxLen:=by unfold maxLen;omega
 simp only [go_sem,↓reduceIte,List.length_map,b1,b2,and_self]
 refine aL k (fun i=>⟨0,[(2,iv k),(7,.own 0),(8,.own 1),(9,iv (i+1:Nat))],[some (.arr 1 (fl (n::cs))),some (.arr 2 ((aT (n::cs) i).map fW))]⟩) (fun _=>True) ?_ trivial ?_ ?_
 ·simp only [go_sem,↓reduceIte]
  rfl
 ·intro i hi _
  have w0:IntKind.u64.wrap ((i+1:Nat):Int)=((i+1:Nat):Int):=aS (i+1) (by omega)
  have ws:=aH (show i+1<9223372036854775807 by omega)
  have hd2:decide (((i+1:Nat):Int)<=(k:Int))=true:=decide_eq_true (by omega)
  have fe:=bBa (G:=G) (n::cs) (nq (i+1)) (by simp;omega)
  rw [pI (i+1) (by unfold PP;omega)] at fe
  have hl:=gT (n::cs) i
  simp only [go_sem,↓reduceIte,w0,hd2]
  refine bJ (aA _) rfl rfl fe ?_
  simp only [go_sem,↓reduceIte,List.length_map,hl,aDE,fW,ws,List.map_append,show i+1<=maxLen by unfold maxLen;omega,show (i+1)*16<=140737488355328 by omega]
 ·intro _
  have hd2:decide (((k+1:Nat):Int)<=(k:Int))=false:=decide_eq_false (by omega)
  simp only [go_sem,↓reduceIte,hd2]
theorem aQf (n:Fq) (cs:List Fq) (k:Nat) (hc:cs.length<=1000) (hk:k<=1000):aD prog G rC [.v (fu n),.ls 1 (fl cs),iv k] [] fun r T=>r=shs (aT (n::cs) k)/\T=[]:=by
 refine (aOv n cs k hc hk).fin [0] ?_
 rintro r T' ⟨rfl,rfl⟩
 simp only [go_sem,↓reduceIte,List.length_nil]
end
end
section
def aHg (s:List Fq×List Fq) (p:Fq×Fq):List Fq×List Fq :=
 (bT (pa s.1 (xW s.2 [(p.2-ev s.1 p.1)*inv (ev s.2 p.1)])),xW s.2 [0-p.1,1])
def eJ (l:List (Fq×Fq)):List Fq×List Fq:=l.foldl aHg ([],[1])
def yG (l:List (Fq×Fq)):List Fq:=(eJ l).1
theorem aKB (l:List (Fq×Fq)) (p:Fq×Fq):eJ (l++[p])=aHg (eJ l) p:=by simp [eJ]
theorem bDc {α:Type} {p:List α->Prop} (h0:p []) (hs:∀ l c,p l->p (l++[c])):∀ l,p l:=by
 intro l
 have:p l.reverse.reverse:=by
  induction l.reverse with
  | nil=>exact h0
  | cons a t ih=>rw [List.reverse_cons];exact hs _ _ ih
 rwa [List.reverse_reverse] at this
theorem aXg (c t:Fq):ev [c] t=c:=by simp only [ev];grind
theorem bBb (x t:Fq):ev [0-x,1] t=t-x:=by simp only [ev];grind
theorem bBc (a s y v:Fq) (h:a*v=1):s+a*((y-s)*v)=y:=by
 have:a*((y-s)*v)=(y-s)*(a*v):=by grind
 rw [this,h];grind
theorem bBd (s c:Fq):s+0*c=s:=by grind
theorem aOw (t x:Fq):t-x=0↔t=x:=by
 constructor
 ·intro h
  have:t=(t-x)+x:=by grind
  rw [this,h];grind
 ·rintro rfl;grind
theorem aKC:∀ l:List (Fq×Fq),(l.map (·.1)).Nodup ->
  mon l.length (eJ l).2/\(∀ t,ev (eJ l).2 t=0↔t∈l.map (·.1))/\(eJ l).1.length<=l.length/\∀ p∈l,ev (eJ l).1 p.1=p.2:=by
 refine bDc ?_ ?_
 ·intro _
  refine ⟨⟨[],rfl,rfl⟩,?_,Nat.le_refl _,fun p h=>by cases h⟩
  intro t
  have:ev ([1]:List Fq) t=1:=aXg 1 t
  simp only [eJ,List.foldl_nil,this,List.map_nil,List.not_mem_nil,iff_false]
  exact bAV
 ·intro l p ih hn
  rw [List.map_append,List.nodup_append] at hn
  obtain ⟨h1,-,h3⟩:=hn
  have hx:p.1∉l.map (·.1):=fun h=>h3 p.1 h p.1 (by simp) rfl
  obtain ⟨i1,i2,i3,i4⟩:=ih h1
  rw [aKB]
  have hne:ev (eJ l).2 p.1≠0:=fun h=>hx ((i2 p.1).1 h)
  refine ⟨?_,?_,?_,?_⟩
  ·have:=aWL i1 (show mon 1 [0-p.1,1] from ⟨[0-p.1],rfl,rfl⟩)
   simpa [aHg] using this
  ·intro t
   simp only [aHg,aTj,bBb,List.map_append,List.mem_append,List.map_cons,List.map_nil,List.mem_singleton]
   rw [<-i2 t,<-aOw t p.1]
   constructor
   ·exact aOd
   ·rintro (h | h)
    ·rw [h,aWH]
    ·rw [h,aUS]
  ·simp only [aHg,List.length_append,List.length_cons,List.length_nil]
   refine Nat.le_trans (oF _) ?_
   rw [aA7]
   have hm:=aEp i1
   rcases aPN (eJ l).2 [(p.2-ev (eJ l).1 p.1)*inv (ev (eJ l).2 p.1)] with h | h
   ·rw [h];simp only [List.length_nil];omega
   ·simp only [List.length_cons,List.length_nil] at h;omega
  ·intro q hq
   simp only [aHg,xV,aGC,aTj,aXg]
   rcases List.mem_append.1 hq with h | h
   ·have:ev (eJ l).2 q.1=0:=(i2 q.1).2 (List.mem_map_of_mem h)
    rw [this,bBd];exact i4 q h
   ·rw [List.mem_singleton.1 h]
    exact bBc _ _ _ _ (aZ3 hne)
theorem aG6 {l:List (Fq×Fq)} (h:(l.map (·.1)).Nodup):(yG l).length<=l.length:=(aKC l h).2.2.1
theorem aKD {l:List (Fq×Fq)} (h:(l.map (·.1)).Nodup) {p:Fq×Fq} (hp:p∈l):ev (yG l) p.1=p.2:=(aKC l h).2.2.2 p hp
theorem aS4 {l:List (Fq×Fq)} (h:(l.map (·.1)).Nodup) {q:List Fq} (hq:q.length<=l.length) (hv:∀ p∈l,ev q p.1=p.2) (t:Fq):ev (yG l) t=ev q t:=by
 refine bAW (R:=l.map (·.1)) (by simpa using aG6 h) (by simpa using hq) h ?_ t
 intro z hz
 obtain ⟨p,hp,rfl⟩:=List.mem_map.1 hz
 rw [aKD h hp,hv p hp]
end
section
open Go.Proofs.Tryz
theorem bDd (a b:Fq):a+b=b+a:=by grind
theorem aTI:∀ p q:List Fq,pa p q=pa q p
 | [],[]=>rfl
 | [],_::_=>rfl
 | _::_,[]=>rfl
 | c::p,d::q=>by
  simp only [pa,aTI p q]
  rw [bDd c d]
theorem aS5:∀ (a b:List Fq),b.length<=a.length->a.mapIdx (fun i x=>if i<b.length then x+b.getD i 0 else x)=pa a b
 | [],[],_=>rfl
 | [],_::_,h=>by simp at h
 | c::p,[],_=>by
  simp only [pa,List.length_nil,Nat.not_lt_zero,if_false]
  exact aMW _
 | c::p,d::q,h=>by
  simp only [pa,List.mapIdx_cons]
  have:=aS5 p q (by simpa using h)
  rw [<-this]
  simp
def bDe (a b:List Fq):List Fq:=bT (pa a b)
section
variable {G:Nat->Option (List AV)}
theorem aTJ (b:List Fq) (hb:b.length<=1000000000) (i:Nat) (x:Fq):aD prog G pA [.v (.int .i64 ((i:Nat):Int)),.v (fu x),.ptr 0 0] [some (.box [.ls 1 (fl b)])] fun r T'=>r=.v (fu (if i<b.length then x+b.getD i 0 else x))/\T'=[some (.box [.ls 1 (fl b)])]:=by
 refine aF aHu (by decide) ?_
 unfold aEu
 dsimp only [zj,zT,zF,zC,zE,zP,zQ,zq,zA,zm,zo,zs,zg,zh,zl,zv,zf,zi,zn,zb,zc,ze,zk,zw,zu,zt,zr,zR,zK,zN,zS,z0,zU]
 by_cases hi:i<b.length
 ·have g1:=aFN b i hi
  have g2:b.getD i 0=b[i]:=by rw [List.getD_eq_getElem?_getD,List.getElem?_eq_getElem hi];rfl
  simp only [go_sem,↓reduceIte,List.length_map,bQ hi,g1]
  refine aC (aA _) rfl (aMO x b[i]) rfl ?_
  simp only [go_sem,↓reduceIte,if_pos hi,g2]
 ·simp only [go_sem,↓reduceIte,List.length_map,bV hi]
  refine aC (aA _) rfl (aJs x) rfl ?_
  simp only [go_sem,↓reduceIte,if_neg hi]
theorem bBe (a b:List Fq) (ha:a.length<=1000000000) (hb:b.length<=1000000000):aD prog G zH [.ls 1 (fl a),.ls 1 (fl b)] [] fun r T'=>r=vw0 (bT (pa a b)).length (pa a b).length/\T'=[some (.arr 1 (fl (pa a b)))]:=by
 refine aF aLF (by decide) ?_
 unfold aJx
 dsimp only [zj,zT,zF,zC,zE,zP,zQ,zq,zA,zm,zo,zs,zg,zh,zl,zv,zf,zi,zn,zb,zc,ze,zk,zw,zu,zt,zr,zR,zK,zN,zS,z0,zU]
 by_cases h:a.length<b.length
 ·simp only [go_sem,↓reduceIte,List.length_map,bQ h]
  refine aOg (aA _) rfl rfl rfl (aTq pA (.ls 1 (fl a)) rfl _ b hb fun i x _=>aTJ a ha i x) ?_
  rintro r T' ⟨rfl,rfl⟩
  rw [aS5 b a (by omega),aTI b a]
  simp only [go_sem,↓reduceIte]
  refine aG [1] (aA _) (by decide) (by simp) rfl rfl (aOh (pa a b) (by rw [aA7];omega)) ?_
  rintro r T' ⟨rfl,rfl⟩
  simp only [go_sem,↓reduceIte,vw0]
  split<;>simp only [go_sem,↓reduceIte]
 ·simp only [go_sem,↓reduceIte,List.length_map,bV h]
  refine aOg (aA _) rfl rfl rfl (aTq pA (.ls 1 (fl b)) rfl _ a ha fun i x _=>aTJ b hb i x) ?_
  rintro r T' ⟨rfl,rfl⟩
  rw [aS5 a b (by omega)]
  simp only [go_sem,↓reduceIte]
  refine aG [1] (aA _) (by decide) (by simp) rfl rfl (aOh (pa a b) (by rw [aA7];omega)) ?_
  rintro r T' ⟨rfl,rfl⟩
  simp only [go_sem,↓reduceIte,vw0]
  split<;>simp only [go_sem,↓reduceIte]
theorem bBf (a b:List Fq) (ha:a.length<=1000000000) (hb:b.length<=1000000000):aD prog G zH [.ls 1 (fl a),.ls 1 (fl b)] [] fun r T'=>r=.ls 1 (fl (bDe a b))/\T'=[]:=aTs (bBe a b ha hb)
end
end
section
open Go.Proofs.Tryz
theorem aOx (l:List Fq) (i:Nat) (h:i<l.length):(fl l)[i]?=some [.v (fu (l.getD i 0))]:=by
 rw [aFN l i h,List.getD_eq_getElem?_getD,List.getElem?_eq_getElem h];rfl
theorem aHh (c x:Fq):∀ (b:List Fq) (k:Nat) (a:List Fq),kT c (b++[x]) k a=(kT c b k a).set (k+b.length) ((kT c b k a).getD (k+b.length) 0-c*x)
 | [],k,a=>rfl
 | y::b,k,a=>by
  simp only [List.cons_append,kT,aHh c x b,List.length_cons]
  rw [show k+1+b.length=k+(b.length+1) by omega]
theorem aQg (c:Fq) (b:List Fq) (k:Nat) (a:List Fq) (j:Nat) (h:j<b.length):kT c (b.take (j+1)) k a=(kT c (b.take j) k a).set (k+j) ((kT c (b.take j) k a).getD (k+j) 0-c*b.getD j 0):=by
 rw [List.take_succ_eq_append_getElem h,aHh,List.length_take,Nat.min_eq_left (by omega)]
 rw [List.getD_eq_getElem?_getD (l:=b),List.getElem?_eq_getElem h];rfl
def wE (a b z:List Fq):Nat->List Fq
 | 0=>z
 | i+1=>kT (0-a.getD i 0) b i (wE a b z i)
theorem tD (a b z:List Fq):∀ i,(wE a b z i).length=z.length
 | 0=>rfl
 | i+1=>by rw [wE,aDs,tD a b z i]
theorem aQh (a b z:List Fq) (hz:∀ t,ev z t=0) (t:Fq):∀ i,i<=a.length->a.length+b.length<=z.length+1->ev (wE a b z i) t=ev (a.take i) t*ev b t
 | 0,_,_=>by simp only [wE,hz,List.take_zero,ev,aWH]
 | i+1,h,h2=>by
  have h3:=List.take_succ_eq_append_getElem (l:=a) (i:=i) (by omega)
  rw [wE,aMK _ _ _ _ _ (by rw [tD];omega),aQh a b z hz t i (by omega) h2,h3,aOe,List.length_take,Nat.min_eq_left (by omega)]
  have h4:a.getD i 0=a[i]:=by rw [List.getD_eq_getElem?_getD,List.getElem?_eq_getElem (by omega)];rfl
  rw [h4]
  generalize a[i]=x
  generalize ev (a.take i) t=y
  generalize ev b t=w
  generalize t^i=u
  grind
theorem aXh (a b:List Fq) (ha:a≠[]) (hb:b≠[]) (hl:a.length+b.length<=PP):wE a b (List.replicate (a.length+b.length-1) 0) a.length=pm a b:=by
 have hz:∀ t,ev (List.replicate (a.length+b.length-1) (0:Fq)) t=0:=fun t=>bA9 (fun c hc=>List.eq_of_mem_replicate hc) t
 have h1:=aFI b hb a ha
 have hp:0<a.length:=List.length_pos_iff.2 ha
 have hp2:0<b.length:=List.length_pos_iff.2 hb
 refine aRG ?_ ?_ fun t=>?_
 ·rw [tD,List.length_replicate];omega
 ·rw [tD,List.length_replicate];omega
 ·rw [aQh a b _ hz t a.length (Nat.le_refl _) (by rw [List.length_replicate];omega),List.take_length,aWJ]
section
variable {G:Nat->Option (List AV)}
theorem aZj (a x y:Fq):a+x*y=a-(0-x)*y:=by grind
set_option maxHeartbeats 1000000
theorem bBg (a b:List Fq) (ha:a.length<=100000000) (hb:b.length<=100000000):aD prog G tQ [.ls 1 (fl a),.ls 1 (fl b)] [] fun r T'=>∃ s,xW a b=bT s/\r=vw0 (bT s).length s.length/\T'=[some (.arr 1 (fl s))]:=by
 refine aF aLG (by decide) ?_
 unfold aJy
 dsimp only [zj,zT,zF,zC,zE,zP,zQ,zq,zA,zm,zo,zs,zg,zh,zl,zv,zf,zi,zn,zb,zc,ze,zk,zw,zu,zt,zr,zR,zK,zN,zS,z0,zU]
 have la:=oF a
 have lb:=oF b
 simp only [go_sem,↓reduceIte]
 refine aC (aA _) rfl (aTt a (by omega)) rfl ?_
 simp only [go_sem,↓reduceIte]
 refine aC (aA _) rfl (aTt b (by omega)) rfl ?_
 by_cases h1:bT a=[]
 ·simp only [go_sem,↓reduceIte,h1,fl]
  refine ⟨[],?_,?_⟩
  ·rw [xW,if_pos (.inl h1)];rfl
  ·simp [vw0,bT]
 ·have e1:(((bT a).length:Int)==0)=false:=by have:=List.length_pos_iff.2 h1;simp;omega
  by_cases h2:bT b=[]
  ·simp only [go_sem,↓reduceIte,List.length_map,e1,h2,fl]
   refine ⟨[],?_,?_⟩
   ·rw [xW,if_pos (.inr h2)];rfl
   ·simp [vw0,bT]
  ·have e2:(((bT b).length:Int)==0)=false:=by have:=List.length_pos_iff.2 h2;simp;omega
   have hp1:=List.length_pos_iff.2 h1
   have hp2:=List.length_pos_iff.2 h2
   have hm:xW a b=bT (pm (bT a) (bT b)):=by rw [xW,if_neg (by simp [h1,h2])]
   have hPP:(200000000:Nat)<=PP:=by decide
   have hpm:=aXh (bT a) (bT b) h1 h2 (by omega)
   rw [hm]
   generalize bT a=a at *
   generalize bT b=b at *
   have w1:IntKind.i64.wrap ((a.length:Int)+(b.length:Int))=((a.length+b.length:Nat):Int):=by rw [aM (by omega) (by omega)];omega
   have w2:IntKind.i64.wrap (((a.length+b.length:Nat):Int)-1)=((a.length+b.length-1:Nat):Int):=by rw [aM (by omega) (by omega)];omega
   simp only [go_sem,↓reduceIte,List.length_map,e1,e2,w1,w2,aRP,Int.le_refl,show ((a.length+b.length-1:Nat):Int)*8<=140737488355328 by omega,show ((a.length+b.length-1:Nat):Int)<=(maxLen:Int) by unfold maxLen;omega]
   generalize hz:List.replicate (a.length+b.length-1) (0:Fq)=z at hpm
   have hzl:z.length=a.length+b.length-1:=by rw [<-hz,List.length_replicate]
   refine aL a.length (fun i=>⟨0,[(1,.ls 1 (fl b)),(5,.own 0),(29,.ls 1 (fl a)),(30,.v (.int .i64 a.length)),(31,.v (.int .i64 i))],[some (.arr 1 (fl (wE a b z i)))]⟩) (fun _=>True) ?_ trivial ?_ ?_
   ·simp only [go_sem,↓reduceIte,wE]
   ·intro i hi _
    have g1:=aOx a i hi
    simp only [go_sem,↓reduceIte,List.length_map,bQ hi,g1]
    refine aL b.length (fun j=>⟨0,[(1,.ls 1 (fl b)),(5,.own 0),(6,.v (.int .i64 i)),(7,.v (fu (a.getD i 0))),(29,.ls 1 (fl a)),(30,.v (.int .i64 a.length)),(31,.v (.int .i64 i)),(36,.ls 1 (fl b)),(37,.v (.int .i64 b.length)),(38,.v (.int .i64 j))],
     [some (.arr 1 (fl (kT (0-a.getD i 0) (b.take j) i (wE a b z i))))]⟩) (fun _=>True) ?_ trivial ?_ ?_
    ·simp only [go_sem,↓reduceIte,List.take_zero,kT]
    ·intro j hj _
     have g2:=aOx b j hj
     have hlen:(kT (0-a.getD i 0) (b.take j) i (wE a b z i)).length=z.length:=by rw [aDs,tD]
     have hst:=aQg (0-a.getD i 0) b i (wE a b z i) j hj
     generalize kT (0-a.getD i 0) (b.take j) i (wE a b z i)=o at hlen hst
     have g3:=aOx o (i+j) (by omega)
     have w3:IntKind.i64.wrap ((i:Int)+(j:Int))=((i+j:Nat):Int):=by rw [aM (by omega) (by omega)];omega
     simp only [go_sem,↓reduceIte,List.length_map,bQ hj,g2,w3,hlen,hzl,show i+j<a.length+b.length-1 by omega,g3]
     refine aC (aA _) rfl (aGD _ _) rfl ?_
     simp only [go_sem,↓reduceIte,List.length_map,w3,hlen,hzl,show i+j<a.length+b.length-1 by omega,g3]
     refine aC (aA _) rfl (aMO _ _) rfl ?_
     simp only [go_sem,↓reduceIte,List.length_map,w3,hlen,hzl,show i+j<a.length+b.length-1 by omega,g3,aZj,aH (show j<9223372036854775807 by omega),hst,bB1]
    ·intro _
     simp only [go_sem,↓reduceIte,List.length_map,bV (Nat.lt_irrefl _),List.take_length,aH (show i<9223372036854775807 by omega),wE]
   ·intro _
    simp only [go_sem,↓reduceIte,List.length_map,bV (Nat.lt_irrefl _),hpm]
    refine aG [0] (aA _) (by decide) (by simp) rfl rfl (aOh (pm a b) (by rw [<-hpm,tD];omega)) ?_
    rintro r T' ⟨rfl,rfl⟩
    refine (?_:_)
    by_cases hh:(bT (pm a b)).length=(pm a b).length
    ·simp only [go_sem,↓reduceIte,vw0,if_pos hh]
     exact ⟨pm a b,rfl,by rw [if_pos hh],rfl⟩
    ·simp only [go_sem,↓reduceIte,vw0,if_neg hh]
     exact ⟨pm a b,rfl,by rw [if_neg hh],rfl⟩
theorem aXi (a b:List Fq) (ha:a.length<=100000000) (hb:b.length<=100000000):aD prog G tQ [.ls 1 (fl a),.ls 1 (fl b)] [] fun r T'=>r=.ls 1 (fl (xW a b))/\T'=[]:=by
 intro h φ w vals h1 h2 h3
 have hc:=bBg (G:=G) a b ha hb
 refine (hc.fin [0] (q:=fun r T'=>r=.ls 1 (fl (xW a b))/\T'=[]) ?_) h φ w vals h1 h2 h3
 rintro r T' ⟨s,e,rfl,rfl⟩
 have h1:=aTr s
 have h2:=oF s
 rw [e]
 simp only [vw0]
 split
 ·rename_i h
  rw [h,List.take_of_length_le (by simp)] at h1
  simp only [go_sem,↓reduceIte,h1]
 ·simp only [go_sem,↓reduceIte,Nat.zero_add,List.length_map,h2,h1]
end
end
end Hud
