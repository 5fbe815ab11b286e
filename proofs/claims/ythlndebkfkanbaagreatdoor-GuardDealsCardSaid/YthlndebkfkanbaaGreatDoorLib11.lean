import Derived.Test.YthlndebkfkanbaaGreatDoorLib10
set_option linter.all false
namespace Hud
open Go
section
open Go.Proofs.Tryz
@[go_sem] theorem bF7:IntKind.i64.wrap 0=0:=by decide
@[go_sem] theorem bF8:IntKind.u64.wrap 0=0:=by decide
@[go_sem] theorem bF9:IntKind.i64.wrap 1=1:=by decide
@[go_sem] theorem bFa:IntKind.u64.wrap 1=1:=by decide
@[go_sem] theorem bFb:IntKind.i64.wrap 2=2:=by decide
@[go_sem] theorem bFc:IntKind.u64.wrap 2=2:=by decide
@[go_sem] theorem bFd:IntKind.i64.wrap 3=3:=by decide
@[go_sem] theorem bFe:IntKind.u64.wrap 3=3:=by decide
@[go_sem] theorem bFf:IntKind.i64.wrap 4=4:=by decide
@[go_sem] theorem bFg:IntKind.u64.wrap 4=4:=by decide
@[go_sem] theorem bFh:IntKind.i64.wrap 5=5:=by decide
@[go_sem] theorem bFi:IntKind.u64.wrap 5=5:=by decide
@[go_sem] theorem bFj:IntKind.i64.wrap 6=6:=by decide
@[go_sem] theorem bFk:IntKind.u64.wrap 6=6:=by decide
@[go_sem] theorem bFl:IntKind.i64.wrap 7=7:=by decide
@[go_sem] theorem bFm:IntKind.u64.wrap 7=7:=by decide
@[go_sem] theorem bFn:IntKind.i64.wrap 8=8:=by decide
@[go_sem] theorem bFo:IntKind.u64.wrap 8=8:=by decide
@[go_sem] theorem bCW:IntKind.i64.wrap 16=16:=by decide
@[go_sem] theorem bCX:IntKind.u64.wrap 16=16:=by decide
@[go_sem] theorem bCY:IntKind.i64.wrap 24=24:=by decide
@[go_sem] theorem bCZ:IntKind.u64.wrap 24=24:=by decide
@[go_sem] theorem bD0:IntKind.i64.wrap 32=32:=by decide
@[go_sem] theorem bD1:IntKind.u64.wrap 32=32:=by decide
@[go_sem] theorem bD2:IntKind.i64.wrap 64=64:=by decide
@[go_sem] theorem bD3:IntKind.u64.wrap 64=64:=by decide
def hst (s w:Fq) (k:Nat):Fq:=(37*s+(w+Fin.ofNat PP k))^17
theorem aMS (n:Nat) (h:n<PP):((Fin.ofNat PP n:Fq)).val=n:=Nat.mod_eq_of_lt h
theorem aZ8 (w:Fq) (k:Nat) (h:k<PP):(w.val+k)%FP=(w+Fin.ofNat PP k).val:=by
 rw [Fin.val_add,aMS k h];rfl
def eW:Fq:=⟨1835363429,by decide⟩
section
variable {G:Nat->Option (List AV)}
set_option maxHeartbeats 2000000
theorem aTm (es:List (List AV)):aD prog G sQ [.ls 1 es] [] fun r T'=>r=.cl jG [.ptr 0 0]/\T'=[some (.box [.ls 1 es])]:=by
 refine aF aHt (by decide) ?_
 unfold aEm
 dsimp only [zj,zT,zF,zC,zE,zP,zQ,zq,zA,zm,zo,zs,zg,zh,zl,zv,zf,zi,zn,zb,zc,ze,zk,zw,zu,zt,zr,zR,zK,zN,zS,z0,zU]
 simp only [go_sem,↓reduceIte]
theorem aTn (es:List (List AV)):aD prog G iI [.ls 1 es,.v (.int .i64 7)] [] fun r T'=>r=.cl gB [.ptr 0 0,.ptr 1 0]/\T'=[some (.box [.ls 1 es]),some (.box [.v (.int .i64 7)])]:=by
 refine aF rY (by decide) ?_
 unfold mK
 dsimp only [zj,zT,zF,zC,zE,zP,zQ,zq,zA,zm,zo,zs,zg,zh,zl,zv,zf,zi,zn,zb,zc,ze,zk,zw,zu,zt,zr,zR,zK,zN,zS,z0,zU]
 simp only [go_sem,↓reduceIte]
def aA9:Fq->Nat->List Fq->Fq
 | s,_,[]=>s
 | s,k,w::l=>aA9 (hst s w (k+1)) (k+1) l
def hI (n1 n2 n3:Nat):Nat->Fq
 | 0=>hst (hst 4 eW 1) (Fin.ofNat PP 3) 2
 | 1=>hst (hst (hst 4 eW 1) (Fin.ofNat PP 3) 2) (Fin.ofNat PP n1) 3
 | 2=>hst (hst (hst (hst 4 eW 1) (Fin.ofNat PP 3) 2) (Fin.ofNat PP n1) 3) (Fin.ofNat PP n2) 4
 | _=>hst (hst (hst (hst (hst 4 eW 1) (Fin.ofNat PP 3) 2) (Fin.ofNat PP n1) 3) (Fin.ofNat PP n2) 4) (Fin.ofNat PP n3) 5
end
end
section
structure Id where
 a:Int
 b:Int
 c:Int
 deriving DecidableEq,Inhabited
def Id.A (x:Id):List AV:=[.v (.int .i64 x.a),.v (.int .i64 x.b),.v (.int .u64 x.c)]
theorem Id.A_def (x:Id):x.A=[.v (.int .i64 x.a),.v (.int .i64 x.b),.v (.int .u64 x.c)]:=Eq.trans rfl rfl
def Id.lt (x y:Id):Bool:=if x.a=y.a then (if x.b=y.b then decide (x.c<y.c) else decide (x.b<y.b)) else decide (x.a<y.a)
@[go_sem] theorem Id.beq (x y:Id):(x.a==y.a&&(x.b==y.b&&x.c==y.c))=decide (x=y):=by
 obtain ⟨xa,xb,xc⟩:=x
 obtain ⟨ya,yb,yc⟩:=y
 rw [Bool.eq_iff_iff]
 simp
theorem Id.lt_irrefl (x:Id):x.lt x=false:=by simp [Id.lt]
theorem Id.lt_trans {x y z:Id} (h1:x.lt y=true) (h2:y.lt z=true):x.lt z=true:=by
 unfold Id.lt at *
 (repeat' split at h1)<;>(repeat' split at h2)<;>(repeat' split)<;>simp_all<;>omega
abbrev ids (l:List Id):AV:=.ls 3 (l.map Id.A)
abbrev ul (l:List Nat):List (List AV):=l.map fun n=>[.v (.int .u64 ((n:Nat):Int))]
def okB (b:List Nat):Prop:=∀ x∈b,x<256
abbrev U8 (x:Nat):List AV:=[.v (.int .u8 ((x:Nat):Int))]
abbrev bl (b:List Nat):List (List AV):=b.map U8
theorem aEt {b:List Nat} (h:okB b) (k:Nat):okB (b.drop k):=fun x hx=>h x (List.mem_of_mem_drop hx)
theorem pH {b:List Nat} (h:okB b) (k:Nat):okB (b.take k):=fun x hx=>h x (List.mem_of_mem_take hx)
theorem gE {a b:List Nat} (h:okB a) (k:okB b):okB (a++b):=fun x hx=>(List.mem_append.1 hx).elim (h x) (k x)
end
section
open Go.Proofs.Tryz
def uB:HFun:=⟨6,[(2,none)],zQ (zr [zo 2 (.mov zF)] [2]) (zQ (zr [zm 3 0,zm 4 0,zb 5 .neq 3 4,zm 2 5] [0,5,4,3]) .ret)⟩
theorem aAK:aB prog kG []=some uB:=by kernel_rfl
end
end Hud
section
namespace Hud
def PR (a b:Nat) (l l':List Nat):Prop:=l'.length=l.length/\(∀ i,i<a\/b<=i->l'.getD i 0=l.getD i 0)/\l'.Perm l
def SR (a b:Nat) (l:List Nat):Prop:=∀ i j,a<=i->i<=j->j<b->l.getD i 0<=l.getD j 0
def Pre (a b:Nat) (l:List Nat):Prop:=a=0\/∀ i,a<=i->i<b->l.getD (a-1) 0<=l.getD i 0
def aBo (l:List Nat) (i j:Nat):List Nat:=(l.set i (l.getD j 0)).set j (l.getD i 0)
theorem PR.refl (a b:Nat) (l:List Nat):PR a b l l:=⟨rfl,fun _ _=>rfl,.refl _⟩
theorem PR.trans {a b:Nat} {l m n:List Nat} (h:PR a b l m) (k:PR a b m n):PR a b l n:=⟨by rw [k.1,h.1],fun i hi=>by rw [k.2.1 i hi,h.2.1 i hi],k.2.2.trans h.2.2⟩
theorem PR.wide {a b a' b':Nat} {l l':List Nat} (h:PR a b l l') (ha:a'<=a) (hb:b<=b'):PR a' b' l l':=⟨h.1,fun i hi=>h.2.1 i (by omega),h.2.2⟩
theorem aV5 (l:List Nat) (i j:Nat):(aBo l i j).length=l.length:=by simp [aBo]
theorem aFL (l:List Nat) (i j:Nat) (hi:i<l.length) (hj:j<l.length) (k:Nat):(aBo l i j).getD k 0=if k=j then l.getD i 0 else if k=i then l.getD j 0 else l.getD k 0:=by
 simp only [aBo,List.getD_eq_getElem?_getD,List.getElem?_set,List.length_set]
 by_cases h1:k=j
 ·subst h1;simp [hj]
 ·rw [if_neg (fun h=>h1 h.symm),if_neg h1]
  by_cases h2:k=i
  ·subst h2;simp [hi]
  ·rw [if_neg (fun h=>h2 h.symm),if_neg h2]
theorem aWP {a b:Nat} {l:List Nat} {i j:Nat} (hi:a<=i) (hi2:i<b) (hj:a<=j) (hj2:j<b) (hb:b<=l.length):PR a b l (aBo l i j):=by
 refine ⟨aV5 l i j,fun k hk=>?_,?_⟩
 ·rw [aFL l i j (by omega) (by omega),if_neg (by omega),if_neg (by omega)]
 ·have h1:l.getD j 0=l[j]'(by omega):=by rw [List.getD_eq_getElem?_getD,List.getElem?_eq_getElem (by omega)];rfl
  have h2:l.getD i 0=l[i]'(by omega):=by rw [List.getD_eq_getElem?_getD,List.getElem?_eq_getElem (by omega)];rfl
  rw [aBo,h1,h2]
  exact List.set_set_perm (by omega) (by omega)
theorem aLD {l:List Nat} {a b i:Nat} (ha:a<=i) (hb:i<b) (hl:b<=l.length):l.getD i 0∈(l.drop a).take (b-a):=by
 rw [List.getD_eq_getElem?_getD,List.getElem?_eq_getElem (by omega),Option.getD_some]
 rw [List.mem_take_iff_getElem]
 refine ⟨i-a,by simp;omega,?_⟩
 simp [show a+(i-a)=i by omega]
theorem aLE {l:List Nat} {a b x:Nat} (hl:b<=l.length) (h:x∈(l.drop a).take (b-a)):∃ i,a<=i/\i<b/\l.getD i 0=x:=by
 rw [List.mem_take_iff_getElem] at h
 obtain ⟨k,hk,e⟩:=h
 simp at hk e
 refine ⟨a+k,by omega,by omega,?_⟩
 rw [List.getD_eq_getElem?_getD,List.getElem?_eq_getElem (by omega),Option.getD_some]
 exact e
theorem PR.mid {a b:Nat} {l l':List Nat} (h:PR a b l l') (hab:a<=b) (hb:b<=l.length):((l'.drop a).take (b-a)).Perm ((l.drop a).take (b-a)):=by
 have h1:l'.take a=l.take a:=by
  apply List.ext_getElem? fun i=>?_
  rw [List.getElem?_take,List.getElem?_take]
  split
  ·rename_i hi
   have:=h.2.1 i (.inl hi)
   have hl:=h.1
   simp only [List.getD_eq_getElem?_getD] at this
   rw [List.getElem?_eq_getElem (by omega),List.getElem?_eq_getElem (by omega)] at this ⊢
   simpa using this
  ·rfl
 have h2:l'.drop b=l.drop b:=by
  apply List.ext_getElem? fun i=>?_
  rw [List.getElem?_drop,List.getElem?_drop]
  have hl:=h.1
  have:=h.2.1 (b+i) (.inr (by omega))
  simp only [List.getD_eq_getElem?_getD] at this
  by_cases hi:b+i<l.length
  ·rw [List.getElem?_eq_getElem (by omega),List.getElem?_eq_getElem (by omega)] at this ⊢
   simpa using this
  ·rw [List.getElem?_eq_none (by omega),List.getElem?_eq_none (by omega)]
 have sp:∀ l:List Nat,l=l.take a++((l.drop a).take (b-a)++l.drop b):=fun l=>by
  have e:l.drop b=(l.drop a).drop (b-a):=by rw [List.drop_drop];congr 1;omega
  rw [e,List.take_append_drop,List.take_append_drop]
 have h3:=h.2.2
 rw [sp l,sp l',h1,h2] at h3
 exact (List.perm_append_right_iff _).1 ((List.perm_append_left_iff _).1 h3)
theorem PR.all {a b:Nat} {l l':List Nat} (h:PR a b l l') (hb:b<=l.length) {Q:Nat->Prop} (hQ:∀ i,a<=i->i<b->Q (l.getD i 0)):∀ i,a<=i->i<b->Q (l'.getD i 0):=by
 intro i h1 h2
 obtain ⟨j,h3,h4,h5⟩:=aLE hb ((h.mid (by omega) hb).mem_iff.1 (aLD h1 h2 (by rw [h.1];exact hb)))
 rw [<-h5]
 exact hQ j h3 h4
theorem Pre.sub {a b c:Nat} {l:List Nat} (h:Pre a b l) (hc:c<=b):Pre a c l:=h.imp id fun k i h1 h2=>k i h1 (by omega)
theorem Pre.pr {a b:Nat} {l l':List Nat} (h:Pre a b l) (hp:PR a b l l') (hb:b<=l.length):Pre a b l':=by
 by_cases h0:a=0
 ·exact .inl h0
 ·rcases h with h | h
  ·exact absurd h h0
  ·refine .inr ?_
   rw [hp.2.1 (a-1) (.inl (by omega))]
   exact hp.all hb (Q:=fun x=>l.getD (a-1) 0<=x) h
theorem SR.small {a b:Nat} {l:List Nat} (h:b<=a+1):SR a b l:=by
 intro i j h1 h2 h3
 have:i=j:=by omega
 subst this
 exact Nat.le_refl _
theorem aWQ {a i j:Nat} {l:List Nat} (hlen:i<l.length) (haj:a<j) (hji:j<=i) (h:∀ p q,a<=p->p<q->q<=i->q≠j->l.getD p 0<=l.getD q 0) (hlt:l.getD j 0<l.getD (j-1) 0) :
  ∀ p q,a<=p->p<q->q<=i->q≠j-1->(aBo l j (j-1)).getD p 0<=(aBo l j (j-1)).getD q 0:=by
 intro p q h1 h2 h3 h4
 rw [aFL l j (j-1) (by omega) (by omega),aFL l j (j-1) (by omega) (by omega)]
 rw [if_neg h4]
 by_cases hp:p=j-1
 ·rw [if_pos hp]
  by_cases hq:q=j
  ·rw [if_pos hq];omega
  ·rw [if_neg hq];exact h j q (by omega) (by omega) h3 hq
 ·rw [if_neg hp]
  by_cases hp2:p=j
  ·rw [if_pos hp2,if_neg (by omega)];exact h (j-1) q (by omega) (by omega) h3 (by omega)
  ·rw [if_neg hp2]
   by_cases hq:q=j
   ·rw [if_pos hq];exact h p (j-1) h1 (by omega) (by omega) (by omega)
   ·rw [if_neg hq];exact h p q h1 h2 h3 hq
theorem aPP {a i j:Nat} {l:List Nat} (hji:j<=i) (h:∀ p q,a<=p->p<q->q<=i->q≠j->l.getD p 0<=l.getD q 0) (hd:j<=a\/l.getD (j-1) 0<=l.getD j 0):SR a (i+1) l:=by
 intro p q h1 h2 h3
 rcases Nat.eq_or_lt_of_le h2 with rfl | h2
 ·exact Nat.le_refl _
 ·by_cases hq:q=j
  ·subst hq
   rcases hd with hd | hd
   ·omega
   ·by_cases hp:p=q-1
    ·rw [hp];exact hd
    ·exact Nat.le_trans (h p (q-1) h1 (by omega) (by omega) (by omega)) hd
  ·exact h p q h1 h2 (by omega) hq
theorem aWR {a i:Nat} {l:List Nat} (h:SR a i l):∀ p q,a<=p->p<q->q<=i->q≠i->l.getD p 0<=l.getD q 0:=fun p q h1 h2 h3 h4=>h p q h1 (by omega) (by omega)
end Hud
end
namespace Hud
open Go
section
section
variable {G:Nat->Option (List AV)}
end
end
end Hud
