import Derived.Test.YthlndebkfkanbaaGreatDoorLib28
set_option linter.all false
namespace Hud
open Go
section
def Pt (a b i j:Nat) (l:List Nat):Prop:=a<i∧i≤j+1∧a≤j∧j<b∧(∀ k,a<k→k<i→l.getD k 0≤l.getD a 0)∧∀ k,j<k→k<b→l.getD a 0≤l.getD k 0
def D0 (a b j:Nat) (l:List Nat):Prop:=a≤j∧j<b∧(∀ k,a≤k→k<j→l.getD k 0≤l.getD j 0)∧∀ k,j<k→k<b→l.getD j 0≤l.getD k 0
def WT {a b i j:Nat} {l:List Nat} (hb:b≤l.length) (h:Pt a b i j l) (hij:i≤j) (h1:l.getD a 0≤l.getD i 0) (h2:l.getD j 0<l.getD a 0):i<j∧Pt a b (i+1) (j-1) (iF l i j):=by
 obtain ⟨p1,p2,p3,p4,p5,p6⟩:=h;have hne:i≠j:=λe=>by subst e;omega
 have hg:=pI l i j (by omega) (by omega);refine ⟨by omega,by omega,by omega,by omega,by omega,λk k1 k2=>?_,λk k1 k2=>?_⟩
 ·rw [hg,hg,if_neg (show ¬a=j by omega),if_neg (show ¬a=i by omega),if_neg (show ¬k=j by omega)];by_cases hk:k=i
  ·rw [if_pos hk];omega
  ·rw [if_neg hk];exact p5 k k1 (by omega)
 ·rw [hg,hg,if_neg (show ¬a=j by omega),if_neg (show ¬a=i by omega),if_neg (show ¬k=i by omega)];by_cases hk:k=j
  ·rw [if_pos hk];omega
  ·rw [if_neg hk];exact p6 k (by omega) k2
def aBl {a b i j:Nat} {l:List Nat} (hb:b≤l.length) (h:Pt a b i j l) (hij:j<i):D0 a b j (iF l j a):=by
 obtain ⟨p1,p2,p3,p4,p5,p6⟩:=h;have hg:=pI l j a (by omega) (by omega);have hj:(iF l j a).getD j 0=l.getD a 0:=by
  rw [hg];by_cases e:j=a
  ·rw [if_pos e,e]
  ·rw [if_neg e,if_pos rfl]
 refine ⟨p3,p4,λk k1 k2=>?_,λk k1 k2=>?_⟩
 ·rw [hj,hg];by_cases hk:k=a
  ·rw [if_pos hk];exact p5 j (by omega) hij
  ·rw [if_neg hk,if_neg (by omega)];exact p5 k (by omega) (by omega)
 ·rw [hj,hg,if_neg (by omega),if_neg (by omega)];exact p6 k k1 k2
section
variable {G:Nat→Option (List AV)}
set_option maxHeartbeats 2000000
end
end
section
def Pe (a b i j:Nat) (l:List Nat):Prop:=a<i∧i≤j+1∧a≤j∧j<b∧(∀ k,a<k→k<i→l.getD k 0≤l.getD a 0)∧∀ k,j<k→k<b→l.getD a 0<l.getD k 0
def aD8 {a b i j:Nat} {l:List Nat} (hb:b≤l.length) (h:Pe a b i j l) (hij:i≤j) (h1:l.getD a 0<l.getD i 0) (h2:l.getD j 0≤l.getD a 0):i<j∧Pe a b (i+1) (j-1) (iF l i j)∧(iF l i j).getD a 0=l.getD a 0:=by
 obtain ⟨p1,p2,p3,p4,p5,p6⟩:=h;have hne:i≠j:=λe=>by subst e;omega
 have hg:=pI l i j (by omega) (by omega);have hga:(iF l i j).getD a 0=l.getD a 0:=by rw [hg,if_neg (show ¬a=j by omega),if_neg (show ¬a=i by omega)]
 refine ⟨by omega,⟨by omega,by omega,by omega,by omega,λk k1 k2=>?_,λk k1 k2=>?_⟩,hga⟩
 ·rw [hga,hg,if_neg (show ¬k=j by omega)];by_cases hk:k=i
  ·rw [if_pos hk];omega
  ·rw [if_neg hk];exact p5 k k1 (by omega)
 ·rw [hga,hg,if_neg (show ¬k=i by omega)];by_cases hk:k=j
  ·rw [if_pos hk];omega
  ·rw [if_neg hk];exact p6 k (by omega) k2
section
variable {G:Nat→Option (List AV)}
set_option maxHeartbeats 2000000
end
end
section
section
variable {G:Nat→Option (List AV)}
set_option maxHeartbeats 2000000
end
end
section
def AE {a b j:Nat} {l l':List Nat} (h:D0 a b j l) (hb:b≤l.length) (hp:PR a j l l'):D0 a b j l':=by
 obtain ⟨h1,h2,h3,h4⟩:=h;have e:l'.getD j 0=l.getD j 0:=hp.2.1 j (.inr (fW _));refine ⟨h1,h2,λk k1 k2=>?_,λk k1 k2=>?_⟩
 ·rw [e];exact hp.all (by omega) (Q:=λx=>x≤l.getD j 0) h3 k k1 k2
 ·rw [e,hp.2.1 k (.inr (by omega))];exact h4 k k1 k2
def wT {a b j:Nat} {l l':List Nat} (h:D0 a b j l) (hb:b≤l.length) (hp:PR (j+1) b l l'):D0 a b j l':=by
 obtain ⟨h1,h2,h3,h4⟩:=h;have e:l'.getD j 0=l.getD j 0:=hp.2.1 j (.inl (by omega));refine ⟨h1,h2,λk k1 k2=>?_,λk k1 k2=>?_⟩
 ·rw [e,hp.2.1 k (.inl (by omega))];exact h3 k k1 k2
 ·rw [e];exact hp.all hb (Q:=λx=>l.getD j 0≤x) (λi h5 h6=>h4 i (by omega) h6) k (by omega) k2
def AF {a b j:Nat} {l:List Nat} (h:D0 a b j l) (h1:SR a j l) (h2:SR (j+1) b l):SR a b l:=by
 obtain ⟨k1,k2,k3,k4⟩:=h;intro p q p1 p2 p3;by_cases hp:p<j
 ·by_cases hq:q<j
  ·exact h1 p q p1 p2 hq
  ·refine nX (k3 p p1 hp) ?_;by_cases e:q=j
   ·rw [e];exact fW _
   ·exact k4 q (by omega) p3
 ·by_cases e:p=j
  ·subst e;by_cases e2:q=p
   ·rw [e2];exact fW _
   ·exact k4 q (by omega) p3
  ·exact h2 p q (by omega) p2 p3
def CJ {a b j:Nat} {l:List Nat} (h:D0 a b j l):PU (j+1) b l:=.inr λi h1 h2=>h.2.2.2 i (by omega) h2
def Sg {a b i v:Nat} {l5 l6:List Nat} (hi:i≤b) (hb:b≤l5.length) (h1:∀ k,a≤k→k<i→l5.getD k 0≤v) (h2:∀ k,i≤k→k<b→v<l5.getD k 0) (h3:∀ k,a≤k→k<b→v≤l5.getD k 0) (hp:PR i b l5 l6) (hs:SR i b l6):SR a b l6:=by
 intro p q p1 p2 p3;have e:∀ k,k<i→l6.getD k 0=l5.getD k 0:=λk hk=>hp.2.1 k (.inl hk);by_cases hpi:p<i
 ·rw [e p hpi];by_cases hqi:q<i
  ·rw [e q hqi];exact nX (h1 p p1 hpi) (h3 q (by omega) p3)
  ·exact nX (h1 p p1 hpi) (Ck (hp.all hb (Q:=λx=>v<x) h2 q (by omega) p3))
 ·exact hs p q (by omega) p2 p3
section
variable {P:Program} {G:Nat→Option (List AV)} {st:St}
def Mi {t:Bool} {a b:HC} {K:St→Prop} {Q:Ex→St→Prop} (R:St→Prop) (h1:t=true→@cX P G a st ⟨@Fb ⟨R⟩ ⟨Q⟩⟩) (h2:t=false→@cX P G b st ⟨@Fb ⟨R⟩ ⟨Q⟩⟩) (hr:∀ s,R s→K s) :
  @FA t ⟨@cX P G a st ⟨@Fb ⟨K⟩ ⟨Q⟩⟩⟩ ⟨@cX P G b st ⟨@Fb ⟨K⟩ ⟨Q⟩⟩⟩ :=
 aM (λh=>eZ R (h1 h) hr) (λh=>eZ R (h2 h) hr)
end
section
variable {G:Nat→Option (List AV)}
set_option maxHeartbeats 20000000
end
end
section
abbrev kl (d:Nat→Id) (l:List Nat):List (List AV):=l.map λn=>(d n).A
def cv (f:Nat):AV:=.bm f 1 [.ag [.ptr 1 0]]
def aH (g:PGM) (d:Nat→Id) (l:List Nat):aQ:=some (.arr 3 (kl d l))::TG 1 g
def Uh (a b:Nat):Int:=if a<b then -1 else if b<a then 1 else 0
def aD (a b:Nat):decide (Uh a b<0)=decide ((a:Int)<(b:Int)):=by
 unfold Uh;rw [oU];simp only [decide_eq_true_eq];split
 ·omega
 ·split<;>omega
def VL (N:Nat) (l:List Nat):Prop:=∀ x∈l,x<N
def VL.pr {N a b:Nat} {l l':List Nat} (hp:PR a b l l') (hv:VL N l):VL N l':=λx hx=>hv x (hp.2.2.mem_iff.1 hx)
def VL.get {N:Nat} {l:List Nat} (hv:VL N l) {i:Nat} (h:i<l.length):l.getD i 0<N:=by
 rw [fG,fV h];exact hv _ (jY h)
def bH (d:Nat→Id) (l:List Nat) (i:Nat) (h:i<l.length):(l.map λn=>(d n).A)[i]?=some (d (l.getD i 0)).A:=by
 simp only [eD,fV h,kZ,fG,KL]
def jM (d:Nat→Id) (l:List Nat) (i j:Nat):((l.map λn=>(d n).A).set i (d (l.getD j 0)).A).set j (d (l.getD i 0)).A=(iF l i j).map λn=>(d n).A:=by
 simp only [iF,GI]
def tH (d:Nat→Id) (l:List Nat) (i j:Nat) (x:Id) (hj:j<l.length):∃ y:Id,((l.map λn=>(d n).A).set i x.A)[j]?=some y.A:=by
 rw [Ec];split
 ·exact ⟨x,by rw [if_pos (by rw [aL];omega)]⟩
 ·exact ⟨_,bH d l j hj⟩
@[go_sem] def Id.dr3 (x:Id):x.A.drop 3=[]:=cH rfl rfl
def Id.okA0 (b:Bool) (x:Id):x.A.all (Mv b)=true:=by cases b<;>simp [Id.A,jU,Mv,bB]
@[go_sem] def Id.okA (b:Bool) (x:Id):x.A.all (Mv b)=true:=Id.okA0 b x
abbrev FJ (g:PGM) (d:Nat→Id) (K:AV→List Nat→Prop):AV→aQ→Prop:=λr T'=>∃ l',K r l'∧T'=aH g d l'
section
variable {G:Nat→Option (List AV)} {g:PGM} {d:Nat→Id} {f N:Nat}
def oS (G:Nat→Option (List AV)) (g:PGM) (d:Nat→Id) (f N:Nat):Prop:=∀ a b,a<N→b<N→aC PQ G f [.ag [.ptr 0 0],.ag (d a).A,.ag (d b).A] (TG 0 g) λr T=>r=.v (.int .i64 (Uh a b))∧T=TG 0 g
def iQ (hC:oS G g d f N) {a b:Nat} (ha:a<N) (hb:b<N) {es:List (List AV)} {K:AV→aQ→Prop} (hk:K (.v (.int .i64 (Uh a b))) (some (.arr 3 es)::TG 1 g)) :
  @sB PQ G f [.ag [.ptr 1 0],.ag (d a).A,.ag (d b).A] (some (.arr 3 es)::TG 1 g) ⟨K⟩:=by
 refine aI [1,2,3] (aA _) (by decide) (by simp [TG]) (by simp only [go_sem]) (by simp only [go_sem,TG,MG]) (hC a b ha hb) ?_;rintro r T' ⟨rfl,rfl⟩;simp only [go_sem,TG,MG] at hk ⊢;exact hk
def YL (hC:oS G g d f N) {a b:Nat} (ha:a<N) (hb:b<N) {es:List (List AV)} {c:Int} {K:AV→aQ→Prop} (hk:K (.v (.int .i64 (Uh a b))) (some (.arr 3 es)::(TG 1 g++[some (.box [.v (.int .i64 c)])]))) :
  @sB PQ G f [.ag [.ptr 1 0],.ag (d a).A,.ag (d b).A] (some (.arr 3 es)::(TG 1 g++[some (.box [.v (.int .i64 c)])])) ⟨K⟩:=by
 refine aI [1,2,3] (aA _) (by decide) (by simp [TG]) (by simp only [go_sem]) (by simp only [go_sem,TG,MG]) (hC a b ha hb) ?_;rintro r T' ⟨rfl,rfl⟩;simp only [go_sem,TG,MG] at hk ⊢;exact hk
end
end
end Hud
