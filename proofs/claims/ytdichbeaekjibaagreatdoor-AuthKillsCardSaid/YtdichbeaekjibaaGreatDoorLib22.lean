import Derived.Test.YtdichbeaekjibaaGreatDoorLib21
set_option linter.all false
namespace Hud
open Go
section
section
variable {G:Nat→Option (List AV)}
set_option maxHeartbeats 1000000
end
end
section
def pw (x i:Fq):Prop:=(x+i)^(NN/2)=1
instance (x i:Fq):Decidable (pw x i):=inferInstanceAs (Decidable (_=_))
section
variable {G:Nat→Option (List AV)}
set_option maxHeartbeats 2000000
end
end
section
section
variable {G:Nat→Option (List AV)}
set_option maxHeartbeats 2000000
end
end
section

end
section
section
variable {G:Nat→Option (List AV)}
set_option maxHeartbeats 4000000
end
end
section
def eY {T:aH} {a b c:Option AObj} {X:aH}:(T++a::b::c::X)[T.length+2]?=some c:=by simp
def rT {T:aH} {a c:Option AObj} {X:aH}:(T++a::X).set T.length c=T++c::X:=by simp
def cY {T:aH} {a b c d:Option AObj} {X:aH}:(T++a::b::c::X).set (T.length+2) d=T++a::b::d::X:=by simp
def nO {T X:aH} {k:Nat}:(T++X)[T.length+k]?=X[k]?:=by rw [Tr (by omega)];congr 1;omega
def rU {T X:aH} {k:Nat} {c:Option AObj}:(T++X).set (T.length+k) c=T++X.set k c:=by rw [Xf _ _ (by omega)];congr 2;omega
structure RM.wv (r:RM):Prop where
 nd:(r.V.map λv=>(v.Of,v.By,v.Device)).Nodup
 pos:∀ v∈r.V,0≤v.At
 few:∀ x d,(r.V.filter λv=>decide (v.Of=x)&&(v.Device==d)).length≤12
section
variable {G:Nat→Option (List AV)} {T:aH} {s:RP} {r:RM}
set_option maxHeartbeats 1000000
end
end
section
def PK {T:aH} {i:Nat} {o o':Option AObj} (h:T[i]?=some o'):(T.set i o)[i]?=some o:=List.getElem?_set_self (vE.1 h).1
def nP {T:aH} {i j:Nat} {o:Option AObj} (h:i≠j):(T.set i o)[j]?=T[j]?:=List.getElem?_set_ne h
def oT {T:aH} {i:Nat} {o:Option AObj} (h:T[i]?=some o):i<T.length:=(vE.1 h).1
def MemAt.mono {T T':aH} {V V':List VM} {p:Nat×Nat×Nat} {m:MM} (h:MemAt T V p m) (hT:∀ i∈Lm p m,T'[i]?=T[i]?) (hV:m.Is=true→∀ v:VM,v.Of=m.ID→(v∈V'↔v∈V)):MemAt T' V' p m where
 mem:=by rw [hT _ (by unfold Lm;split<;>simp)];exact h.mem
 grd:=λe=>by rw [hT _ (by simp [Lm,e])];exact h.grd e
 vch:=λe=>by
  obtain ⟨l,bs,cl,a,b,c,d⟩:=h.vch e;refine ⟨l,bs,cl,by rw [hT _ (by simp [Lm,e])];exact a,b,λv=>?_,d⟩;rw [c];exact ⟨λ⟨x,y⟩=>⟨(hV e v y).2 x,y⟩,λ⟨x,y⟩=>⟨(hV e v y).1 x,y⟩⟩
structure Wr (T:aH) (s:RP) (r:RM) (T':aH) (s':RP) (r':RM):Prop where
 at':RollAt T' s' r'
 root:s'.root=s.root
 len:T.length≤T'.length
 same:∀ i,i<T.length→¬Zz s r i→T'[i]?=T[i]?
 fp:∀ i,Zz s' r' i→Zz s r i∨T.length≤i
def Wr.refl {T:aH} {s:RP} {r:RM} (h:RollAt T s r):Wr T s r T s r:=⟨h,rfl,cT _,λ_ _ _=>rfl,λ_ h=>.inl h⟩
def Wr.trans {T T1 T2:aH} {s s1 s2:RP} {r r1 r2:RM} (a:Wr T s r T1 s1 r1) (b:Wr T1 s1 r1 T2 s2 r2):Wr T s r T2 s2 r2 where
 at':=b.at'
 root:=b.root.trans a.root
 len:=B7 a.len b.len
 same:=λi hi hn=>(b.same i (AH hi a.len) λh=>(a.fp i h).elim hn λh=>absurd hi (by omega)).trans (a.same i hi hn)
 fp:=λi h=>(b.fp i h).elim (a.fp i) λh=>.inr (B7 a.len h)
def Wr.app {T T1 X:aH} {s s1:RP} {r r1:RM} (a:Wr T s r T1 s1 r1):Wr T s r (T1++X) s1 r1 where
 at':=a.at'.app
 root:=a.root
 len:=by rw [gK];have:=a.len;omega
 same:=λi hi hn=>by rw [JQ (by have:=a.len;omega)];exact a.same i hi hn
 fp:=a.fp
def FPr.ne {s:RP} {r:RM} (h:FPr s r):s.root≠s.c∧s.root≠s.i∧s.root≠s.w∧s.root≠s.m∧s.c≠s.i∧s.c≠s.w∧s.c≠s.m∧s.i≠s.w∧s.i≠s.m∧s.w≠s.m:=by
 have:=h.five;simp only [RP.five,IA,jB,qS,or_false,not_or,Po,and_true,not_false_eq_true] at this;obtain ⟨⟨a,b,c,d⟩,⟨e,f,g⟩,⟨i,j⟩,k⟩:=this;exact ⟨a,b,c,d,e,f,g,i,j,k⟩
def RW {s:RP} {x:Nat}:x∈s.five↔x=s.root∨x=s.c∨x=s.i∨x=s.w∨x=s.m:=by simp [RP.five]
section
variable {T T':aH} {s:RP} {r:RM}
def Bu {k:Nat} (h:k<r.L.length) (h2:k<s.ms.length):RV s r k=Lm s.ms[k] r.L[k]:=by
 simp only [RV,nQ h,nQ h2]
def aDw {k x:Nat} (h:x∈RV s r k):∃ (h:k<r.L.length) (h2:k<s.ms.length),x∈Lm s.ms[k] r.L[k]:=by
 unfold RV at h;split at h
 ·rename_i p m e1 e2;obtain ⟨a,rfl⟩:=vE.1 e1;obtain ⟨b,rfl⟩:=vE.1 e2;exact ⟨b,a,h⟩
 ·simp at h
def MemAt.lt {V:List VM} {p:Nat×Nat×Nat} {m:MM} (h:MemAt T V p m) {x:Nat} (hx:x∈Lm p m):x<T.length:=by
 unfold Lm at hx;split at hx
 ·rename_i e;obtain ⟨l,bs,cl,a,_⟩:=h.vch e;simp only [jB,qS,or_false] at hx;rcases hx with rfl | rfl | rfl
  ·exact oT h.mem
  ·exact oT (h.grd e)
  ·exact oT a
 ·rw [iU] at hx;subst hx;exact oT h.mem
def RollAt.lt (h:RollAt T s r) {x:Nat} (hx:Zz s r x):x<T.length:=by
 rcases hx with hx | ⟨k,hx⟩
 ·obtain ⟨_,_,hi,_⟩:=h.inn;obtain ⟨_,_,_,hw,_⟩:=h.was;obtain ⟨_,_,hm,_⟩:=h.mems;rcases RW.1 hx with rfl | rfl | rfl | rfl | rfl
  ·exact oT h.root
  ·exact oT h.cards
  ·exact oT hi
  ·exact oT hw
  ·exact oT hm
 ·obtain ⟨a,b,hx⟩:=aDw hx;exact (h.each k a b).lt hx
def RollAt.fiveLt (h:RollAt T s r):s.root<T.length∧s.c<T.length∧s.i<T.length∧s.w<T.length∧s.m<T.length :=
 ⟨h.lt (.inl (by simp [RP.five])),h.lt (.inl (by simp [RP.five])),h.lt (.inl (by simp [RP.five])),h.lt (.inl (by simp [RP.five])),h.lt (.inl (by simp [RP.five]))⟩
def aDx (h:FPr s r) {k:Nat} (h1:k<r.L.length) (h2:k<s.ms.length) {x:Nat} (hx:x∈Lm s.ms[k] r.L[k]):x≠s.root∧x≠s.c∧x≠s.i∧x≠s.w∧x≠s.m:=by
 have:=h.off k x (by rw [Bu h1 h2];exact hx);rw [RW] at this;simpa only [not_or] using this
def RollAt.addM (h:RollAt T s r) {p:Nat} {m:MM} (hI:m.Is=false) (hp:T.length≤p) (hpT:T'[p]?=some (some (.box [iv m.Role,.v (.pointer none)]))) (hl:T.length≤T'.length) (hT:∀ j,j<T.length→j≠s.m→T'[j]?=T[j]?)
  (hm:∃ bs cl,T'[s.m]?=some (some (.map false (r.L.map (λm=>iK m.N)++[iK m.N]) (s.ms.map (λp=>.ptr p.1 0)++[.ptr p 0]) bs cl))∧Bs (r.L.length+1) bs cl):Wr T s r T' { s with ms:=s.ms++[(p,0,0)] } { r with L:=r.L++[m] }:=by
 obtain ⟨n1,n2,n3,n4,n5,n6,n7,n8,n9,n10⟩:=h.nd.ne;obtain ⟨l1,l2,l3,l4,l5⟩:=h.fiveLt;have hsl:=h.mslen;have hf:∀ k,RV { s with ms:=s.ms++[(p,0,0)] } { r with L:=r.L++[m] } k=if k=r.L.length then [p] else RV s r k:=by
  intro k;unfold RV;dsimp only;by_cases hk:k=r.L.length
  ·subst hk;rw [if_pos rfl,←hsl,List.getElem?_concat_length,hsl,List.getElem?_concat_length];simp [Lm,hI]
  ·rw [if_neg hk];rcases gM k r.L.length with h1 | h1
   ·rw [JQ (by omega),JQ h1]
   ·rw [oW (show s.ms.length≤k by omega),oW (show (s.ms++[(p,0,0)]).length≤k by rw [gK,Mc];omega)]
 have hlt:∀ k x,x∈RV s r k→x<T.length:=λk x hx=>h.lt (.inr ⟨k,hx⟩);refine ⟨⟨?_,?_,?_,?_,?_,?_,λk h1 h2=>?_,⟨h.nd.five,λk x hx=>?_,λk=>?_,λk k' x hx hx'=>?_⟩⟩,rfl,hl,λj hj hn=>hT j hj (λe=>hn (.inl (by simp [RP.five,e]))),λx hx=>?_⟩
 ·rw [hT _ l1 n4];exact h.root
 ·rw [hT _ l2 n7];exact h.cards
 ·obtain ⟨bs,cl,a,b⟩:=h.inn;exact ⟨bs,cl,by rw [hT _ l3 n9];exact a,b⟩
 ·obtain ⟨l,bs,cl,a,b⟩:=h.was;exact ⟨l,bs,cl,by rw [hT _ l4 n10];exact a,b⟩
 ·obtain ⟨bs,cl,a,b⟩:=hm;exact ⟨bs,cl,by simpa using a,by simpa using b⟩
 ·simpa using hsl
 ·simp only [gK,Mc] at h1 h2;rcases gM k r.L.length with h3 | h3
  ·have hm:=h.each k h3 (by omega);simp only [List.getElem_append_left h3,List.getElem_append_left (show k<s.ms.length by omega)];exact hm.mono (λx hx=>hT x (hm.lt hx) (aDx h.nd h3 (by omega) hx).2.2.2.2) λ_ _ _=>Iff.rfl
  ·obtain rfl:k=r.L.length:=by omega
   simp only [List.getElem_concat_length,←hsl];exact ⟨by rw [hpT,hI];rfl,λe=>absurd e (by rw [hI];decide),λe=>absurd e (by rw [hI];decide)⟩
 ·rw [hf] at hx;show x∉s.five;split at hx
  ·rw [iU] at hx;subst hx;exact λh5=>absurd (h.lt (.inl h5)) (by omega)
  ·exact h.nd.off k x hx
 ·rw [hf];split
  ·simp
  ·exact h.nd.own k
 ·rw [hf] at hx hx';split at hx<;>split at hx'
  ·omega
  ·rw [iU] at hx;subst hx;exact absurd (hlt _ _ hx') (by omega)
  ·rw [iU] at hx';subst hx';exact absurd (hlt _ _ hx) (by omega)
  ·exact h.nd.inj k k' x hx hx'
 ·rcases hx with hx | ⟨k,hx⟩
  ·exact .inl (.inl hx)
  ·rw [hf] at hx;split at hx
   ·rw [iU] at hx;exact .inr (by omega)
   ·exact .inl (.inr ⟨k,hx⟩)
def RollAt.setM (h:RollAt T s r) {k:Nat} (hk:k<r.L.length) (hk2:k<s.ms.length) {V':List VM} {p':Nat×Nat×Nat} {m':MM} (hl:T.length≤T'.length) (hT:∀ j,j<T.length→j∉Lm s.ms[k] r.L[k]→T'[j]?=T[j]?)
  (hN:m'.N=r.L[k].N) (hp:p'.1=s.ms[k].1) (hM:MemAt T' V' p' m') (hnd:(Lm p' m').Nodup) (hfp:∀ x∈Lm p' m',x∈Lm s.ms[k] r.L[k]∨T.length≤x)
  (hV:∀ j (hj:j<r.L.length),j≠k→r.L[j].Is=true→∀ v:VM,v.Of=r.L[j].ID→(v∈V'↔v∈r.V)):Wr T s r T' { s with ms:=s.ms.set k p' } { r with L:=r.L.set k m',V:=V' }:=by
 obtain ⟨l1,l2,l3,l4,l5⟩:=h.fiveLt;have hsl:=h.mslen;have off:∀ {x},x∈s.five→x∉Lm s.ms[k] r.L[k]:=λ{x} h5 hx=>h.nd.off k x (by rw [Bu hk hk2];exact hx) h5;have hf:∀ j,RV { s with ms:=s.ms.set k p' } { r with L:=r.L.set k m',V:=V' } j=if j=k then Lm p' m' else RV s r j:=by
  intro j;unfold RV;dsimp only;by_cases hj:j=k
  ·subst hj;rw [if_pos rfl,List.getElem?_set_self hk,List.getElem?_set_self hk2]
  ·rw [if_neg hj,List.getElem?_set_ne (Ne.symm hj),List.getElem?_set_ne (Ne.symm hj)]
 have hlt:∀ j x,x∈RV s r j→x<T.length:=λj x hx=>h.lt (.inr ⟨j,hx⟩);refine ⟨⟨?_,?_,?_,?_,?_,?_,λj h1 h2=>?_,⟨h.nd.five,λj x hx=>?_,λj=>?_,λj j' x hx hx'=>?_⟩⟩,rfl,hl,λj hj hn=>hT j hj λhx=>hn (.inr ⟨k,by rw [Bu hk hk2];exact hx⟩),λx hx=>?_⟩
 ·rw [hT _ l1 (off (by simp [RP.five]))];exact h.root
 ·rw [hT _ l2 (off (by simp [RP.five]))];exact h.cards
 ·obtain ⟨bs,cl,a,b⟩:=h.inn;exact ⟨bs,cl,by rw [hT _ l3 (off (by simp [RP.five]))];exact a,b⟩
 ·obtain ⟨l,bs,cl,a,b⟩:=h.was;exact ⟨l,bs,cl,by rw [hT _ l4 (off (by simp [RP.five]))];exact a,b⟩
 ·obtain ⟨bs,cl,a,b⟩:=h.mems;refine ⟨bs,cl,?_,by simpa using b⟩;have e1:((r.L.set k m').map λm=>iK m.N)=r.L.map λm=>iK m.N:=by
   refine Pm (by simp) λj h1 h2=>?_;rw [Eg,Eg,List.getElem_set];split
   ·rename_i e;subst e;rw [hN]
   ·rfl
  have e2:((s.ms.set k p').map λp=>AV.ptr p.1 0)=s.ms.map λp=>AV.ptr p.1 0:=by
   refine Pm (by simp) λj h1 h2=>?_;rw [Eg,Eg,List.getElem_set];split
   ·rename_i e;subst e;rw [hp]
   ·rfl
  show T'[s.m]?=some (some (.map false ((r.L.set k m').map λm=>iK m.N) ((s.ms.set k p').map λp=>AV.ptr p.1 0) bs cl));rw [e1,e2,hT _ l5 (off (by simp [RP.five]))];exact a
 ·simpa using hsl
 ·simp only [gG] at h1 h2;by_cases hj:j=k
  ·subst hj;simp only [List.getElem_set_self];exact hM
  ·simp only [List.getElem_set_ne (Ne.symm hj)];have hm:=h.each j h1 h2;exact hm.mono (λx hx=>hT x (hm.lt hx) λhx'=>hj (h.nd.inj j k x (by rw [Bu h1 h2];exact hx) (by rw [Bu hk hk2];exact hx'))) (hV j h1 hj)
 ·rw [hf] at hx;show x∉s.five;split at hx
  ·rcases hfp x hx with h1 | h1
   ·exact λh5=>off h5 h1
   ·exact λh5=>absurd (h.lt (.inl h5)) (by omega)
  ·exact h.nd.off j x hx
 ·rw [hf];split
  ·exact hnd
  ·exact h.nd.own j
 ·rw [hf] at hx hx';split at hx<;>split at hx'
  ·omega
  ·rename_i e1 e2;rcases hfp x hx with h1 | h1
   ·exact absurd (h.nd.inj j' k x hx' (by rw [Bu hk hk2];exact h1)) e2
   ·exact absurd (hlt _ _ hx') (by omega)
  ·rename_i e1 e2;rcases hfp x hx' with h1 | h1
   ·exact absurd (h.nd.inj j k x hx (by rw [Bu hk hk2];exact h1)) e1
   ·exact absurd (hlt _ _ hx) (by omega)
  ·exact h.nd.inj j j' x hx hx'
 ·rcases hx with hx | ⟨j,hx⟩
  ·exact .inl (.inl hx)
  ·rw [hf] at hx;split at hx
   ·rcases hfp x hx with h1 | h1
    ·exact .inl (.inr ⟨k,by rw [Bu hk hk2];exact h1⟩)
    ·exact .inr h1
   ·exact .inl (.inr ⟨j,hx⟩)
end
section
variable {T T':aH} {s:RP} {r:RM}
end
end
section
section
variable {G:Nat→Option (List AV)} {T:aH} {s:RP} {r:RM}
set_option maxHeartbeats 1000000
end
def Bs.erase {n cl:Nat} {bs:List Nat} (h:Bs n bs cl) {j:Nat} (hj:j<n):Bs (n-1) (bs.eraseIdx j) cl where
 len:=by rw [XX (by rw [h.len];exact hj),h.len]
 nd:=h.nd.sublist (List.eraseIdx_sublist _ _)
 lt:=λb hb=>h.lt b ((List.eraseIdx_sublist _ _).subset hb)
section
variable {G:Nat→Option (List AV)} {T:aH} {s:RP} {r:RM}
set_option maxHeartbeats 1000000
end
def sS {T X:aH}:(T++X)[T.length]?=X[0]?:=nO (k:=0)
def uV {T X:aH} {c:Option AObj}:(T++X).set T.length c=T++X.set 0 c:=rU (k:=0)
section
variable {G:Nat→Option (List AV)} {T:aH} {s:RP} {r:RM}
set_option maxHeartbeats 1000000
end
end
end Hud
