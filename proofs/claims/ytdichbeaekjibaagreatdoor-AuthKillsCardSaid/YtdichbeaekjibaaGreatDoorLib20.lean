import Derived.Test.YtdichbeaekjibaaGreatDoorLib19
set_option linter.all false
namespace Hud
open Go
section
section
variable {h h1:GH} {φ φ1:Nat→Value} {m n:Nat}
mutual
def Zx:∀ {x:AV} {u u1:Value},Rp h φ m x u→Rp h1 φ1 n x u1→Rp h φ n x u
 | .v _,_,_,e,_=>by simpa [Rp] using e
 | .ls _ _,_,_,e,_=>by simp only [Rp] at *;exact e
 | .ag cs,_,_,e,f=>by simp only [Rp] at *;obtain ⟨us,a,b⟩:=e;obtain ⟨_,_,c⟩:=f;exact ⟨us,a,yZ b c⟩
 | .own _,_,_,e,f=>by simp only [Rp] at *;exact ⟨f.1,e.2⟩
 | .ptr _ _,_,_,e,f=>by simp only [Rp] at *;exact ⟨f.1,e.2⟩
 | .elt _ _ _ _,_,_,e,f=>by simp only [Rp] at *;exact ⟨f.1,e.2⟩
 | .vw _ _ _ _,_,_,e,f=>by simp only [Rp] at *;exact ⟨f.1,e.2⟩
 | .mp _,_,_,e,f=>by simp only [Rp] at *;exact ⟨f.1,e.2⟩
 | .yl _,_,_,e,f=>by simp only [Rp] at *;exact ⟨f.1,e.2⟩
 | .rp _,_,_,e,_=>by simp only [Rp] at *;exact e
 | .cl _ cs,_,_,e,f=>by simp only [Rp] at *;obtain ⟨us,a,b⟩:=e;obtain ⟨_,_,c⟩:=f;exact ⟨us,a,yZ b c⟩
 | .bm _ _ cs,_,_,e,f=>by simp only [Rp] at *;obtain ⟨us,a,b⟩:=e;obtain ⟨_,_,c⟩:=f;exact ⟨us,a,yZ b c⟩
 | .tup cs,_,_,e,f=>by simp only [Rp] at *;obtain ⟨us,a,b⟩:=e;obtain ⟨_,_,c⟩:=f;exact ⟨us,a,yZ b c⟩
 | .any,_,_,_,_=>by simp [Rp]
def yZ:∀ {cs:List AV} {us vs:List Value},bK h φ m cs us→bK h1 φ1 n cs vs→bK h φ n cs us
 | [],us,vs,e,_=>by simpa [bK] using e
 | c::cs,us,vs,e,f=>by
  simp only [bK] at *
  obtain ⟨u,us',a,b,c⟩:=e;obtain ⟨_,_,_,b',c'⟩:=f;exact ⟨u,us',a,Zx b b',yZ c c'⟩
end
def Nn {w w1:World} {i i1:Nat}:∀ {o:AObj},qI h φ m w i o→qI h1 φ1 n w1 i1 o→qI h φ n w i o
 | .box cs,e,f=>by
  obtain ⟨g,us,E,a,b,c,d⟩:=e;obtain ⟨_,_,_,_,_,_,d'⟩:=f;exact ⟨g,us,E,a,b,c,yZ d d'⟩
 | .arr _ _,e,_=>e
 | .arf k es,e,f=>by
  refine ⟨e.1,e.2.imp id ?_⟩;rintro ⟨g,c,cur,E,a1,a2,a3,a4,a5,a6,a7⟩;refine ⟨g,c,cur,E,a1,a2,a3,a4,a5,a6,?_⟩;rcases f.2 with ⟨_,_,he⟩ | ⟨_,_,_,_,_,_,_,_,_,_,b7⟩
  ·subst he;simpa [bK] using a7
  ·exact yZ a7 b7
 | .lp r s,e,f=>by
  obtain ⟨l,a1,a2,a3,a4,a5⟩:=e;obtain ⟨_,_,_,_,_,b5⟩:=f;exact ⟨l,a1,a2,a3,a4,λp hp=>Zx (a5 p hp) (b5 p hp)⟩
 | .mit k a b c,e,f=>by
  obtain ⟨g,mo,a1,a2,a3,a4⟩:=e;obtain ⟨_,_,_,_,_,b4⟩:=f;refine ⟨g,mo,a1,a2,a3,?_⟩
  cases k with
  | none=>exact a4
  | some j =>
   obtain ⟨x,y1,y2,y3⟩:=a4;obtain ⟨_,_,z2,_⟩:=b4;exact ⟨x,y1,z2,y3⟩
 | .map ag ks vs bs cl,e,f=>by
  obtain ⟨g,ens,a1,a2,a3,a4,a5,a6⟩:=e;obtain ⟨_,_,_,_,_,_,_,b6⟩:=f;exact ⟨g,ens,a1,a2,a3,a4,a5,yZ a6 b6⟩
end
def aC.keep {P:Program} {G:Nat→Option (List AV)} {f:FuncId} {args:List AV} {T:aH} {q:Value→Prop} (hc:aC P G f args T λr T'=>(∃ J,T'=T++J)∧∃ v,r=.v v∧q v) :
  aC P G f args T λr T'=>(∃ v,r=.v v∧q v)∧T'=T:=by
 have key:∀ {h:GH} {φ:Nat→Value} {w w':World} {v:Value},Inv h φ w T→Bv h φ T w (λr T'=>(∃ J,T'=T++J)∧∃ v,r=.v v∧q v) v w'→Bv h φ T w (λr T'=>(∃ v,r=.v v∧q v)∧T'=T) v w':=by
  rintro h φ w w' v hI ⟨r,T',h',φ',⟨⟨J,rfl⟩,x,rfl,hq⟩,hE,hI',hr⟩;have hg:∀ i o,T[i]?=some (some o)→(T++J)[i]?=some (some o):=λi o e=>by
   rw [JQ]
   ·exact e
   ·exact (vE.1 e).1
  refine ⟨.v x,T,h',φ',⟨⟨x,rfl,hq⟩,rfl⟩,?_,?_,by simpa [Rp] using hr⟩
  ·exact ⟨hE.os,hE.tape,hE.output,hE.size,hE.frame,hE.le,hE.gfr,hE.phi,λi o b hi hb=>hE.org i o b (hg i o hi) hb,cT _,hE.drawn⟩
  ·exact ⟨hI'.gh,λi o e=>Nn (hI'.obj i o (hg i o e)) (hI.obj i o e),λi j oi oj b e1 e2=>hI'.dis i j oi oj b (hg i oi e1) (hg j oj e2)⟩
 intro h φ w vals hG hI hA;rcases hc h φ w vals hG hI hA with ⟨a,b⟩ | ⟨v,w',a,b⟩
 ·exact .inl ⟨a,b.mono λe w' ⟨v,e1,e2⟩=>⟨v,e1,key hI e2⟩⟩
 ·exact .inr ⟨v,w',a,key hI b⟩
def aBs {P:Program} {G:Nat→Option (List AV)} {f:FuncId} {hf:HFun} {H:List (Nat×Option Nat×Nat)} (hc:mZ P f H=some hf) {args:List AV} {T:aH} {x:Value}
  (hw:aCB P G hf args T λr T'=>r=.v x∧T'.take T.length=T):aC P G f args T λr T'=>r=.v x∧T'=T:=by
 refine (aC.keep (q:=λv=>v=x) ((I5 hc hw).mono ?_)).mono ?_
 ·rintro r T' ⟨rfl,ht⟩;exact ⟨⟨T'.drop T.length,by have:=(Lo T.length T').symm;rwa [ht] at this⟩,x,rfl,rfl⟩
 ·rintro r T' ⟨⟨v,rfl,rfl⟩,rfl⟩;exact ⟨rfl,rfl⟩
end
section
structure VM where
 Of:Id
 By:Int
 Device:Int
 At:Int
 deriving DecidableEq,Inhabited
structure MM where
 N:Int
 Role:Int
 Is:Bool
 ID:Id
 Guards:List Int
 Need:Int
 Wait:Int
 Obj:Bool
 Last:Int
 deriving DecidableEq,Inhabited
structure RM where
 Cards:List CardM
 In:List Int
 Gone:List Int
 L:List MM
 Back:Int
 V:List VM
 deriving DecidableEq,Inhabited
def VM.A (v:VM):List AV:=[.v (.int .i64 v.Of.a),.v (.int .i64 v.Of.b),.v (.int .u64 v.Of.c),iv v.By,iv v.Device,iv v.At]
def MM.A (m:MM):List AV:=[iv m.N,iv m.Role,.v (.bool m.Is),.v (.int .i64 m.ID.a),.v (.int .i64 m.ID.b),.v (.int .u64 m.ID.c),uK m.Guards,iv m.Need,iv m.Wait,.v (.bool m.Obj),iv m.Last]
def RM.A (r:RM):List AV:=[.ls 5 (r.Cards.map CardM.A),uK r.In,uK r.Gone,.ls 11 (r.L.map MM.A),iv r.Back,.ls 6 (r.V.map VM.A)]
def TZ (r:RM) (d:Int):Int:=match r.Cards.find? (λc=>c.Device==d) with | some c=>c.Member | none=>0
def PJ (r:RM) (x:Id):Int:=zV (λm=>m.Is&&decide (m.ID=x)) r.L
def Zy (r:RM):List VM:=r.V.filter λv=>decide (0≤PJ r v.Of)
def No (r:RM) (d:Int):RM :=
 if !decide (d∈r.In) then r else
 let n:=TZ r d
 let i:=r.In.filter λx=>x !=d
 let r1:={ r with In:=i,Gone:=r.Gone++[d] }
 if i.any λx=>TZ r x==n then r1 else
 let r2:={ r1 with L:=r.L.filter λm=>m.N !=n }
 { r2 with V:=Zy r2 }
def RM.new (cs:List CardM):RM:=⟨cs,[],[],[],0,[]⟩
end
section
@[go_sem] def OpM.g16 (o:OpM):o.A[16]?=some (.v (.int .i64 o.Of.a)):=bJ rfl rfl
structure RM.ok (r:RM):Prop where
 c:r.Cards.length≤1000
 i:r.In.length≤100000
 g:r.Gone.length≤100000
 l:r.L.length≤100000
 v:r.V.length≤100000
 mg:∀ m∈r.L,m.Guards.length≤1000
def RM.A_def (r:RM):r.A=[.ls 5 (r.Cards.map CardM.A),uK r.In,uK r.Gone,.ls 11 (r.L.map MM.A),iv r.Back,.ls 6 (r.V.map VM.A)]:=bJ rfl rfl
def MM.A_def (m:MM):m.A=[iv m.N,iv m.Role,.v (.bool m.Is),.v (.int .i64 m.ID.a),.v (.int .i64 m.ID.b),.v (.int .u64 m.ID.c),uK m.Guards,iv m.Need,iv m.Wait,.v (.bool m.Obj),iv m.Last]:=bJ rfl rfl
def aBt {α:Type} {p:α→Bool} {l:List α} (h:0≤zV p l):∃ i:Nat,zV p l=(i:Int)∧∃ hi:i<l.length,p l[i]=true:=by
 unfold zV at h ⊢
 cases e:l.findIdx? p with
 | none=>rw [e] at h;simp at h
 | some i =>
  obtain ⟨h1,h2,_⟩:=aAq.1 e;exact ⟨i,rfl,h1,h2⟩
section
variable {G:Nat→Option (List AV)}
set_option maxHeartbeats 1000000
def Ta {r:RM} {x:Id} (h:0≤PJ r x):∃ i:Nat,PJ r x=(i:Int)∧∃ hi:i<r.L.length,(r.L[i].Is&&decide (r.L[i].ID=x))=true:=aBt h
def VM.A_def (v:VM):v.A=[.v (.int .i64 v.Of.a),.v (.int .i64 v.Of.b),.v (.int .u64 v.Of.c),iv v.By,iv v.Device,iv v.At]:=bJ rfl rfl
def RM.need (r:RM):Prop:=∀ m∈r.L,m.Is=true→1≤m.Need∧m.Need≤1000
end
end
section
structure RP where
 root:Nat
 c:Nat
 i:Nat
 w:Nat
 m:Nat
 ms:List (Nat×Nat×Nat)
abbrev iK (d:Int):List Value:=[.int .i64 d]
def aFh (l:List Int) (bs:List Nat) (cl:Nat):AObj:=.map false (l.map iK) (l.map λ_=>.v (.bool true)) bs cl
structure Bs (n:Nat) (bs:List Nat) (cl:Nat):Prop where
 len:bs.length=n
 nd:bs.Nodup
 lt:∀ b∈bs,b<cl
def aIn (l:List VM) (bs:List Nat) (cl:Nat):AObj:=.map true (l.map λv=>[.int .i64 v.By,.int .i64 v.Device]) (l.map λv=>iv v.At) bs cl
def aFi (m:MM) (v:Nat):List AV:=[.v (.int .i64 m.ID.a),.v (.int .i64 m.ID.b),.v (.int .u64 m.ID.c),uK m.Guards,iv m.Need,iv m.Wait,.mp v,.v (.bool m.Obj),iv m.Last]
structure MemAt (T:aH) (V:List VM) (p:Nat×Nat×Nat) (m:MM):Prop where
 mem:T[p.1]?=some (some (.box [iv m.Role,if m.Is then .ptr p.2.1 0 else .v (.pointer none)]))
 grd:m.Is=true→T[p.2.1]?=some (some (.box (aFi m p.2.2)))
 vch:m.Is=true→∃ l bs cl,T[p.2.2]?=some (some (aIn l bs cl))∧Bs l.length bs cl∧(∀ v,v∈l↔v∈V∧v.Of=m.ID)∧(l.map λv=>(v.By,v.Device)).Nodup
def Lm (p:Nat×Nat×Nat) (m:MM):List Nat:=if m.Is then [p.1,p.2.1,p.2.2] else [p.1]
def RV (s:RP) (r:RM) (k:Nat):List Nat:=match s.ms[k]?,r.L[k]? with | some p,some m=>Lm p m | _,_=>[]
def RP.five (s:RP):List Nat:=[s.root,s.c,s.i,s.w,s.m]
structure FPr (s:RP) (r:RM):Prop where
 five:s.five.Nodup
 off:∀ k,∀ x∈RV s r k,x∉s.five
 own:∀ k,(RV s r k).Nodup
 inj:∀ k k' x,x∈RV s r k→x∈RV s r k'→k=k'
def Zz (s:RP) (r:RM) (x:Nat):Prop:=x∈s.five∨∃ k,x∈RV s r k
structure RollAt (T:aH) (s:RP) (r:RM):Prop where
 root:T[s.root]?=some (some (.box [.mp s.c,.mp s.i,.mp s.w,.mp s.m,iv r.Back]))
 cards:T[s.c]?=some (some (.map false (r.Cards.map λc=>iK c.Device) (r.Cards.map λc=>.ag c.A) (List.range r.Cards.length) r.Cards.length))
 inn:∃ bs cl,T[s.i]?=some (some (aFh r.In bs cl))∧Bs r.In.length bs cl
 was:∃ l bs cl,T[s.w]?=some (some (aFh l bs cl))∧Bs l.length bs cl∧(∀ d,d∈l↔d∈r.In∨d∈r.Gone)∧(l=[]↔r.In=[]∧r.Gone=[])
 mems:∃ bs cl,T[s.m]?=some (some (.map false (r.L.map λm=>iK m.N) (s.ms.map λp=>.ptr p.1 0) bs cl))∧Bs r.L.length bs cl
 mslen:s.ms.length=r.L.length
 each:∀ k (h:k<r.L.length) (h2:k<s.ms.length),MemAt T r.V s.ms[k] r.L[k]
 nd:FPr s r
@[go_sem] def aFj (d:Int):IB false [.int .i64] (.v (.int .i64 d))=some (iK d):=bJ (by simp [IB,oU,iK]) rfl
@[go_sem] def aHs (d e:Int):oU [.int .i64] (iK d) (iK e)=some (d==e):=bJ (by simp [oU,iK]) rfl
section
variable {G:Nat→Option (List AV)} {T:aH} {s:RP} {r:RM}
set_option maxHeartbeats 1000000
end
end
section
def eI {T X:aH} {i:Nat} {o:Option AObj} (h:T[i]?=some o):(T++X)[i]?=some o:=by
 rw [JQ (vE.1 h).1,h]
def RollAt.app {T X:aH} {s:RP} {r:RM} (h:RollAt T s r):RollAt (T++X) s r where
 root:=eI h.root
 cards:=eI h.cards
 inn:=let ⟨bs,cl,a,b⟩:=h.inn;⟨bs,cl,eI a,b⟩
 was:=let ⟨l,bs,cl,a,b⟩:=h.was;⟨l,bs,cl,eI a,b⟩
 mems:=let ⟨bs,cl,a,b⟩:=h.mems;⟨bs,cl,eI a,b⟩
 mslen:=h.mslen
 each:=λk h1 h2=>let m:=h.each k h1 h2
  ⟨eI m.mem,λe=>eI (m.grd e),λe=>let ⟨l,bs,cl,a,b⟩:=m.vch e;⟨l,bs,cl,eI a,b⟩⟩
 nd:=h.nd
def Ge {T:aH} {i:Nat} {o:AObj} (h:T[i]?=some (some o)):bZ T i=some o:=by simp [bZ,h]
def bS {T:aH} {a:Option AObj} {X:aH}:(T++a::X)[T.length]?=some a:=by simp
def bY {T:aH} {a b:Option AObj} {X:aH}:(T++a::b::X)[T.length+1]?=some b:=by simp
def uC {T:aH} {a b c:Option AObj} {X:aH}:(T++a::b::X).set (T.length+1) c=T++a::c::X:=by simp
def fW {T X:aH}:(T++X).take T.length=T:=by simp
def RM.uniq (r:RM):Prop:=∀ (i j:Nat) (hi:i<r.L.length) (hj:j<r.L.length),r.L[i].Is=true→r.L[j].Is=true→r.L[i].ID=r.L[j].ID→i=j
section
variable {G:Nat→Option (List AV)} {T:aH} {s:RP} {r:RM}
set_option maxHeartbeats 1000000
structure RM.wf (r:RM):Prop where
 uniq:r.uniq
 nn:∀ (i j:Nat) (hi:i<r.L.length) (hj:j<r.L.length),r.L[i].N=r.L[j].N→i=j
 pos:∀ m∈r.L,m.N≠0
 mg:∀ m∈r.L,m.Guards.length≤1000
 need:r.need
def Z0 (l:List Int) (x:Int) (hl:l.length≤100000):aC PQ G kP [uK l,iv x] [] λr T=>r=iv (zV (λy=>x==y) l)∧T=[]:=by
 refine aD xD (by decide) ?_;simp only [go_sem,aL];refine aJ l.length (λi=>⟨0,[(0,uK l),(1,iv x),(7,iv l.length),(8,iv i)],[]⟩) (λi=>∀ j (hj:j<l.length),j<i→(x==l[j])=false) ?_ (by intro j hj h;omega) ?_ ?_
 ·simp only [go_sem]
 ·intro i hi hJ;have g0:(l.map λn=>[iv n])[i]?=some [iv l[i]]:=aI _ l i hi;simp only [go_sem,bG hi,hi,g0];cases h1:(x==l[i])
  ·simp only [go_sem,h1,aF (show i<9223372036854775807 by omega)];intro j hj hji;rcases gM j i with h2 | h2
   ·exact hJ j hj h2
   ·obtain rfl:j=i:=by omega
    exact h1
  ·simp only [go_sem,h1];rw [qO hi hJ h1]
 ·intro hJ;simp only [go_sem,aX (cN _)];rw [qN λj hj=>hJ j hj hj]
def Z1 (l:List Int) (x:Int) (hl:l.length≤100000):aC PQ G jF [uK l,iv x] [] λr T=>r=.v (.bool (decide (x∈l)))∧T=[]:=by
 refine aD uA (by decide) ?_;simp only [go_sem];refine aB (aA _) rfl (Z0 l x hl) rfl ?_;simp only [go_sem,ge_iff_le,yI];have:(l.any λy=>x==y)=decide (x∈l):=by
  rw [rX];simp
 rw [this]
end
end
section
section
variable {G:Nat→Option (List AV)} {T:aH} {s:RP} {r:RM}
set_option maxHeartbeats 1000000
end
end
section
structure BX where
 To:Fq
 Eph:Fq
 Body:Fq
 Tag:Fq
def BX.A (b:BX):List AV:=[.v (fu b.To),.v (fu b.Eph),.v (fu b.Body),.v (fu b.Tag)]
section
variable {G:Nat→Option (List AV)}
set_option maxHeartbeats 4000000
end
end
section
section
variable {G:Nat→Option (List AV)}
set_option maxHeartbeats 4000000
end
end
end Hud
