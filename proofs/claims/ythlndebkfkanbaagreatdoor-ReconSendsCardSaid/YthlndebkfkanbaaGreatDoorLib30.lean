import Derived.Test.YthlndebkfkanbaaGreatDoorLib29
set_option linter.all false
namespace Hud
open Go
section
section
variable {G:Nat→Option (List AV)} {g:PGM} {d:Nat→Id} {f N:Nat}
set_option maxHeartbeats 4000000
def aGQ (hC:oS G g d f N) (l:List Nat) (hv:VL N l) (a b:Nat) (hab:a≤b) (hb:b≤l.length) (hl:l.length≤1000000000) :
  aC PQ G cD [.own 0,.v (.int .i64 (a:Int)),.v (.int .i64 (b:Int)),cv f] (aH g d l) (FJ g d λ_ l'=>PR a b l l'∧SR a b l'):=by
 refine aF gH (by decide) ?_;unfold dQ;have wa:IntKind.i64.wrap ((a:Int)+1)=((a+1:Nat):Int):=aG (by omega);simp only [go_sem,aH,TG,MG,cv,aD,wa];refine bU (λn s=>∃ (i:Nat) (l':List Nat),n=b-i∧a<i∧i≤max b (a+1)∧PR a b l l'∧SR a i l'∧s=⟨4,[(0,.own 0),(1,.v (.int .i64 (a:Int))),(2,.v (.int .i64 (b:Int))),(3,cv f),(8,.v (.int .i64 (i:Int)))],(aH g d l')⟩) (b-(a+1))
  ⟨a+1,l,rfl,by omega,by omega,PR.refl a b l,SR.small (by omega),by simp only [go_sem,aH,TG,MG,cv,aD]⟩ ?_
 rintro n s ⟨i,l1,hn,hai,hib,hp,hs,rfl⟩;have hl1:=hp.1;by_cases hi:i<b
 ·simp only [go_sem,aH,TG,MG,cv,aD,aT hi];refine bU (λm s=>∃ (l2:List Nat),a≤m∧m≤i∧PR a b l l2∧(∀ p q,a≤p→p<q→q≤i→q≠m→l2.getD p 0≤l2.getD q 0)∧s=⟨4,[(0,.own 0),(1,.v (.int .i64 (a:Int))),(2,.v (.int .i64 (b:Int))),(3,cv f),(8,.v (.int .i64 (i:Int))),(9,.v (.int .i64 (m:Int)))],(aH g d l2)⟩) i
   ⟨l1,by omega,fW _,hp,Lx hs,by simp only [go_sem,aH,TG,MG,cv,aD]⟩ ?_
  rintro j s ⟨l2,haj,hji,hp2,hs2,rfl⟩;have hl2:=hp2.1;have wi:=aG (show i<9223372036854775807 by omega);by_cases hj:a<j
  ·have w1:IntKind.i64.wrap ((j:Int)-1)=((j-1:Nat):Int):=by rw [aJ (by omega) (by omega)];omega
   have g1:=bH d l2 j (by omega);have g2:=bH d l2 (j-1) (by omega);have e1:decide ((j:Int)>(a:Int))=true:=by simpa using hj
   simp only [go_sem,aH,TG,MG,cv,aD,e1,aL,show j<l2.length by omega,show j-1<l2.length by omega,w1,g1,g2];refine iQ hC (VL.get (VL.pr hp2 hv) (by omega)) (VL.get (VL.pr hp2 hv) (by omega)) ?_;simp only [go_sem,aH,TG,MG,cv,aD,e1,aL,show j<l2.length by omega,show j-1<l2.length by omega,w1,g1,g2];refine aM (λhc=>?_) (λhc=>?_)
   ·have hlt:l2.getD j 0<l2.getD (j-1) 0:=by simpa using hc
    obtain ⟨y,g3⟩:=tH d l2 j (j-1) (d (l2.getD (j-1) 0)) (by omega);simp only [go_sem,aH,TG,MG,cv,aD,aL,mA,show j<l2.length by omega,show j-1<l2.length by omega,w1,g1,g2,g3,jM];exact ⟨j-1,by omega,iF l2 j (j-1),by omega,by omega,hp2.trans (gJ (by omega) (by omega) (by omega) (by omega) (by omega)),Rl (by omega) hj hji hs2 hlt,rfl⟩
   ·have hlt:l2.getD (j-1) 0≤l2.getD j 0:=by simpa using hc
    simp only [go_sem,aH,TG,MG,cv,aD,wi];exact ⟨b-(i+1),by omega,i+1,l2,rfl,by omega,by omega,hp2,Di hji hs2 (.inr hlt),rfl⟩
  ·have e1:decide ((j:Int)>(a:Int))=false:=by simpa using hj
   simp only [go_sem,aH,TG,MG,cv,aD,e1,wi];exact ⟨b-(i+1),by omega,i+1,l2,rfl,by omega,by omega,hp2,Di hji hs2 (.inl (by omega)),rfl⟩
 ·simp only [go_sem,aH,TG,MG,cv,aD,aX hi];exact ⟨l1,⟨hp,λp q h1 h2 h3=>hs p q h1 h2 (by omega)⟩,rfl⟩
def aBm (hC:oS G g d f N) (l:List Nat) (hv:VL N l) (lo hi o:Nat) (hh:HP o (lo+1) hi l) (hlo:lo≤1000000000) (hb:o+hi≤l.length) (hl:l.length≤1000000000) :
  aC PQ G dG [.own 0,.v (.int .i64 (lo:Int)),.v (.int .i64 (hi:Int)),.v (.int .i64 (o:Int)),cv f] (aH g d l) (FJ g d λ_ l'=>PR (o+lo) (o+hi) l l'∧HP o lo hi l'):=by
 refine aF pH (by decide) ?_;simp only [go_sem,aH,TG,MG,cv,aD];refine bU (λn s=>∃ (r:Nat) (l':List Nat),n=hi-r∧lo≤r∧r≤1000000000∧PR (o+lo) (o+hi) l l'∧HQ o lo hi r l'∧s=⟨4,[(0,.own 0),(2,.v (.int .i64 (hi:Int))),(3,.v (.int .i64 (o:Int))),(4,cv f),(10,.v (.int .i64 (r:Int)))],(aH g d l')⟩) (hi-lo)
  ⟨lo,l,rfl,fW _,hlo,PR.refl _ _ l,aCm hh,by simp only [go_sem,aH,TG,MG,cv,aD]⟩ ?_
 rintro n s ⟨r,l1,hn,hr,hr2,hp,hq,rfl⟩;have hl1:=hp.1;have w1:IntKind.i64.wrap (2*(r:Int))=((2*r:Nat):Int):=by rw [aJ (by omega) (by omega)];omega
 have w2:=aG (show 2*r<9223372036854775807 by omega);simp only [go_sem,aH,TG,MG,cv,aD,w1,w2];by_cases hc:hi≤2*r+1
 ·simp only [go_sem,aH,TG,MG,cv,aD,aDK hc];exact ⟨l1,⟨hp,Jy hq λc h1 h2=>by omega⟩,rfl⟩
 ·simp only [go_sem,aH,TG,MG,cv,aD,aDL (GE hc)];have w3:=aG (show 2*r+1<9223372036854775807 by omega);have w4:IntKind.i64.wrap ((o:Int)+((2*r+1:Nat):Int))=((o+(2*r+1):Nat):Int):=by rw [aJ (by omega) (by omega)];omega
  have w5:=aG (show o+(2*r+1)<9223372036854775807 by omega);have ga:=bH d l1 (o+(2*r+1)) (by omega);by_cases h2:2*r+1+1<hi
  ·have gb:=bH d l1 (o+(2*r+1)+1) (by omega);simp only [go_sem,aH,TG,MG,cv,aD,aL,aT h2,w3,w4,w5,show o+(2*r+1)<l1.length by omega,show o+(2*r+1)+1<l1.length by omega,ga,gb];refine iQ hC (VL.get (VL.pr hp hv) (by omega)) (VL.get (VL.pr hp hv) (by omega)) ?_;simp only [go_sem,aH,TG,MG,cv,aD,aL,aT h2,w3,w4,w5,show o+(2*r+1)<l1.length by omega,show o+(2*r+1)+1<l1.length by omega,ga,gb];refine aM (λhy=>?_) (λhy=>?_)
   ·have hy':l1.getD (o+(2*r+1)) 0<l1.getD (o+(2*r+1)+1) 0:=by simpa using hy
    have hmax:∀ c,(c=2*r+1∨c=2*r+2)→c<hi→l1.getD (o+c) 0≤l1.getD (o+(2*r+1+1)) 0:=by
     rintro c (rfl | rfl) _
     ·exact Ck hy'
     ·exact fW _
    simp only [go_sem,aH,TG,MG,cv,aD,w3];have g1:=bH d l1 (o+r) (by omega);have g2:=bH d l1 (o+(2*r+1+1)) (by omega);have v1:IntKind.i64.wrap ((o:Int)+(r:Int))=((o+r:Nat):Int):=by rw [aJ (by omega) (by omega)];omega
    have v2:IntKind.i64.wrap ((o:Int)+(((2*r+1+1):Nat):Int))=((o+(2*r+1+1):Nat):Int):=by rw [aJ (by omega) (by omega)];omega
    simp only [go_sem,aH,TG,MG,cv,aD,aL,v1,v2,show o+r<l1.length by omega,show o+(2*r+1+1)<l1.length by omega,g1,g2];refine iQ hC (VL.get (VL.pr hp hv) (by omega)) (VL.get (VL.pr hp hv) (by omega)) ?_;simp only [go_sem,aH,TG,MG,cv,aD,aL,v1,v2,show o+r<l1.length by omega,show o+(2*r+1+1)<l1.length by omega,g1,g2];refine aM (λhz=>?_) (λhz=>?_)
    ·have hlt:l1.getD (o+(2*r+1+1)) 0≤l1.getD (o+r) 0:=by simpa using hz
     simp only [go_sem,aH,TG,MG,cv,aD];exact ⟨l1,⟨hp,Jy hq λc h1 h2=>nX (hmax c h1 h2) hlt⟩,rfl⟩
    ·have hlt:l1.getD (o+r) 0<l1.getD (o+(2*r+1+1)) 0:=by simpa using hz
     obtain ⟨y,g3⟩:=tH d l1 (o+r) (o+(2*r+1+1)) (d (l1.getD (o+(2*r+1+1)) 0)) (by omega);simp only [go_sem,aH,TG,MG,cv,aD,aL,mA,v1,v2,show o+r<l1.length by omega,show o+(2*r+1+1)<l1.length by omega,g1,g2,g3,jM];exact ⟨hi-((2*r+1+1)),by omega,(2*r+1+1),_,rfl,by omega,by omega,hp.trans (gJ (by omega) (by omega) (by omega) (by omega) (by omega)),PV hq hr (by omega) (by omega) (by omega) hmax hlt,rfl⟩
   ·have hy':l1.getD (o+(2*r+1)+1) 0≤l1.getD (o+(2*r+1)) 0:=by simpa using hy
    have hmax:∀ c,(c=2*r+1∨c=2*r+2)→c<hi→l1.getD (o+c) 0≤l1.getD (o+(2*r+1)) 0:=by
     rintro c (rfl | rfl) _
     ·exact fW _
     ·exact hy'
    simp only [go_sem,aH,TG,MG,cv,aD];have g1:=bH d l1 (o+r) (by omega);have g2:=bH d l1 (o+(2*r+1)) (by omega);have v1:IntKind.i64.wrap ((o:Int)+(r:Int))=((o+r:Nat):Int):=by rw [aJ (by omega) (by omega)];omega
    have v2:IntKind.i64.wrap ((o:Int)+(((2*r+1):Nat):Int))=((o+(2*r+1):Nat):Int):=by rw [aJ (by omega) (by omega)];omega
    simp only [go_sem,aH,TG,MG,cv,aD,aL,v1,v2,show o+r<l1.length by omega,show o+(2*r+1)<l1.length by omega,g1,g2];refine iQ hC (VL.get (VL.pr hp hv) (by omega)) (VL.get (VL.pr hp hv) (by omega)) ?_;simp only [go_sem,aH,TG,MG,cv,aD,aL,v1,v2,show o+r<l1.length by omega,show o+(2*r+1)<l1.length by omega,g1,g2];refine aM (λhz=>?_) (λhz=>?_)
    ·have hlt:l1.getD (o+(2*r+1)) 0≤l1.getD (o+r) 0:=by simpa using hz
     simp only [go_sem,aH,TG,MG,cv,aD];exact ⟨l1,⟨hp,Jy hq λc h1 h2=>nX (hmax c h1 h2) hlt⟩,rfl⟩
    ·have hlt:l1.getD (o+r) 0<l1.getD (o+(2*r+1)) 0:=by simpa using hz
     obtain ⟨y,g3⟩:=tH d l1 (o+r) (o+(2*r+1)) (d (l1.getD (o+(2*r+1)) 0)) (by omega);simp only [go_sem,aH,TG,MG,cv,aD,aL,mA,v1,v2,show o+r<l1.length by omega,show o+(2*r+1)<l1.length by omega,g1,g2,g3,jM];exact ⟨hi-((2*r+1)),by omega,(2*r+1),_,rfl,by omega,by omega,hp.trans (gJ (by omega) (by omega) (by omega) (by omega) (by omega)),PV hq hr (by omega) (by omega) (by omega) hmax hlt,rfl⟩
  ·have hmax:∀ c,(c=2*r+1∨c=2*r+2)→c<hi→l1.getD (o+c) 0≤l1.getD (o+(2*r+1)) 0:=by
    rintro c (rfl | rfl) _
    ·exact fW _
    ·omega
   simp only [go_sem,aH,TG,MG,cv,aD,w3,aX h2];have g1:=bH d l1 (o+r) (by omega);have g2:=bH d l1 (o+(2*r+1)) (by omega);have v1:IntKind.i64.wrap ((o:Int)+(r:Int))=((o+r:Nat):Int):=by rw [aJ (by omega) (by omega)];omega
   have v2:IntKind.i64.wrap ((o:Int)+(((2*r+1):Nat):Int))=((o+(2*r+1):Nat):Int):=by rw [aJ (by omega) (by omega)];omega
   simp only [go_sem,aH,TG,MG,cv,aD,aL,v1,v2,show o+r<l1.length by omega,show o+(2*r+1)<l1.length by omega,g1,g2];refine iQ hC (VL.get (VL.pr hp hv) (by omega)) (VL.get (VL.pr hp hv) (by omega)) ?_;simp only [go_sem,aH,TG,MG,cv,aD,aL,v1,v2,show o+r<l1.length by omega,show o+(2*r+1)<l1.length by omega,g1,g2];refine aM (λhz=>?_) (λhz=>?_)
   ·have hlt:l1.getD (o+(2*r+1)) 0≤l1.getD (o+r) 0:=by simpa using hz
    simp only [go_sem,aH,TG,MG,cv,aD];exact ⟨l1,⟨hp,Jy hq λc h1 h2=>nX (hmax c h1 h2) hlt⟩,rfl⟩
   ·have hlt:l1.getD (o+r) 0<l1.getD (o+(2*r+1)) 0:=by simpa using hz
    obtain ⟨y,g3⟩:=tH d l1 (o+r) (o+(2*r+1)) (d (l1.getD (o+(2*r+1)) 0)) (by omega);simp only [go_sem,aH,TG,MG,cv,aD,aL,mA,v1,v2,show o+r<l1.length by omega,show o+(2*r+1)<l1.length by omega,g1,g2,g3,jM];exact ⟨hi-((2*r+1)),by omega,(2*r+1),_,rfl,by omega,by omega,hp.trans (gJ (by omega) (by omega) (by omega) (by omega) (by omega)),PV hq hr (by omega) (by omega) (by omega) hmax hlt,rfl⟩
end
end
section
section
variable {G:Nat→Option (List AV)} {g:PGM} {d:Nat→Id} {f N:Nat}
set_option maxHeartbeats 4000000
def aFi (hC:oS G g d f N) (l:List Nat) (hv:VL N l) (a b:Nat) (hab:a<b) (hb:b≤l.length) (hl:l.length≤1000000000) :
  aC PQ G fL [.own 0,.v (.int .i64 (a:Int)),.v (.int .i64 (b:Int)),cv f] (aH g d l) (FJ g d λ_ l'=>PR a b l l'∧SR a b l'):=by
 refine aF pG (by decide) ?_;have w1:IntKind.i64.wrap ((b:Int)-(a:Int))=((b-a:Nat):Int):=by rw [aJ (by omega) (by omega)];omega
 have w2:IntKind.i64.wrap (((b-a:Nat):Int)-1)=((b-a-1:Nat):Int):=by rw [aJ (by omega) (by omega)];omega
 simp only [go_sem,aH,TG,MG,cv,aD,w1,w2,aJl (b-a-1) (by omega)];refine bU (λk s=>∃ l':List Nat,k≤b-a∧PR a b l l'∧HP a k (b-a) l'∧s=⟨4,[(0,.own 0),(3,cv f),(8,.v (.int .i64 (a:Int))),(9,.v (.int .i64 0)),(10,.v (.int .i64 ((b-a:Nat):Int))),(11,.v (.int .i64 ((k:Int)-1)))],(aH g d l')⟩) ((b-a-1)/2+1)
  ⟨l,by omega,PR.refl a b l,λp c h1 h2 h3=>by omega,?_⟩ ?_
 ·simp only [go_sem,aH,TG,MG,cv,aD,show (((b-a-1)/2+1:Nat):Int)-1=(((b-a-1)/2:Nat):Int) by omega]
 rintro k s ⟨l1,hk,hp,hh,rfl⟩;have hl1:=hp.1
 cases k with
 | zero =>
  have w3:IntKind.i64.wrap (((b-a:Nat):Int)-1)=((b-a-1:Nat):Int):=w2;simp only [go_sem,aH,TG,MG,cv,aD,show decide (((0:Nat):Int)-1≥0)=false by decide,show decide ((-1:Int)≥0)=false by decide,w3];refine bU (λk s=>∃ l':List Nat,k≤b-a∧PR a b l l'∧HP a 0 k l'∧HS a b k l'∧s=⟨4,[(0,.own 0),(3,cv f),(8,.v (.int .i64 (a:Int))),(9,.v (.int .i64 0)),(12,.v (.int .i64 ((k:Int)-1)))],(aH g d l')⟩) (b-a)
   ⟨l1,fW _,hp,hh,⟨SR.small (by omega),λp q h1 h2 h3 h4=>by omega⟩,?_⟩ ?_
  ·simp only [go_sem,aH,TG,MG,cv,aD,show ((b-a:Nat):Int)-1=((b-a-1:Nat):Int) by omega]
  rintro k s ⟨l2,hk,hp2,hh2,hs2,rfl⟩;have hl2:=hp2.1
  cases k with
  | zero =>
   simp only [go_sem,aH,TG,MG,cv,aD,show decide (((0:Nat):Int)-1≥0)=false by decide,show decide ((-1:Int)≥0)=false by decide];exact ⟨l2,⟨hp2,hs2.1⟩,rfl⟩
  | succ k =>
   have hk1:((k+1:Nat):Int)-1=(k:Int):=by omega
   have g1:=bH d l2 a (by omega);have g2:=bH d l2 (a+k) (by omega);obtain ⟨y,g3⟩:=tH d l2 a (a+k) (d (l2.getD (a+k) 0)) (by omega);have w5:IntKind.i64.wrap ((a:Int)+(k:Int))=((a+k:Nat):Int):=by rw [aJ (by omega) (by omega)];omega
   have w6:IntKind.i64.wrap ((k:Int)-1)=(k:Int)-1:=aJ (by omega) (by omega);obtain ⟨st1,st2⟩:=aD6 (by omega) (by omega) hh2 hs2;have hsp:PR a b l2 (iF l2 a (a+k)):=gJ (by omega) (by omega) (by omega) (by omega) (by omega);simp only [go_sem,aH,TG,MG,cv,aD,hk1,show decide ((k:Int)≥0)=true by simp,aL,mA,w5,show a<l2.length by omega,show a+k<l2.length by omega,g1,g2,g3,jM];refine aI [0,1,2,3] (aA _) (by decide) (by simp [aH,TG]) (by simp only [go_sem,aH,TG,MG,cv,aD]) (by simp only [go_sem,aH,TG,MG,cv,aD]) (aBm hC (iF l2 a (a+k)) (VL.pr (hp2.trans hsp) hv) 0 k a st1 (by omega) (by rw [EL];omega) (by rw [EL];omega)) ?_;rintro r T' ⟨l3,⟨hp3,hh3⟩,rfl⟩;simp only [go_sem,aH,TG,MG,cv,aD,w6];rw [yN] at hp3;exact ⟨k,Qk k,l3,by omega,(hp2.trans hsp).trans (hp3.wide (fW _) (by omega)),hh3,aGP (by rw [EL];omega) st2 hp3,rfl⟩
 | succ k =>
  have hk1:((k+1:Nat):Int)-1=(k:Int):=by omega
  have w6:IntKind.i64.wrap ((k:Int)-1)=(k:Int)-1:=aJ (by omega) (by omega);simp only [go_sem,aH,TG,MG,cv,aD,hk1,show decide ((k:Int)≥0)=true by simp];refine aI [0,1,2,3] (aA _) (by decide) (by simp [aH,TG]) (by simp only [go_sem,aH,TG,MG,cv,aD]) (by simp only [go_sem,aH,TG,MG,cv,aD]) (aBm hC l1 (VL.pr hp hv) k (b-a) a hh (by omega) (by omega) (by omega)) ?_;rintro r T' ⟨l3,⟨hp3,hh3⟩,rfl⟩;simp only [go_sem,aH,TG,MG,cv,aD,w6];exact ⟨k,Qk k,l3,by omega,hp.trans (hp3.wide (by omega) (by omega)),hh3,rfl⟩
end
end
section
section
variable {G:Nat→Option (List AV)} {g:PGM} {d:Nat→Id} {f N:Nat}
set_option maxHeartbeats 4000000
def Ob (hC:oS G g d f N) (l:List Nat) (hv:VL N l) (a b:Nat) (hab:a<b) (hb:b≤l.length) (hl:l.length≤1000000000) :
  aC PQ G dX [.own 0,.v (.int .i64 (a:Int)),.v (.int .i64 (b:Int)),cv f] (aH g d l) (FJ g d λ_ l'=>PR a b l l'):=by
 refine aF nA (by decide) ?_;have w1:IntKind.i64.wrap ((b:Int)-1)=((b-1:Nat):Int):=by rw [aJ (by omega) (by omega)];omega
 simp only [go_sem,aH,TG,MG,cv,aD,w1];refine bU (λn s=>∃ (i j:Nat) (l':List Nat),n=j+1-i∧a≤i∧j<b∧i≤b∧PR a b l l'∧s=⟨4,[(0,.own 0),(8,.v (.int .i64 (i:Int))),(9,.v (.int .i64 (j:Int)))],(aH g d l')⟩) (b-a)
  ⟨a,b-1,l,by omega,fW _,by omega,by omega,PR.refl a b l,by simp only [go_sem,aH,TG,MG,cv,aD]⟩ ?_
 rintro n s ⟨i,j,l1,hn,hi,hj,hib,hp,rfl⟩;have hl1:=hp.1;by_cases hij:i<j
 ·have g1:=bH d l1 i (by omega);have g2:=bH d l1 j (by omega);obtain ⟨y,g3⟩:=tH d l1 i j (d (l1.getD j 0)) (by omega);have w2:IntKind.i64.wrap ((j:Int)-1)=((j-1:Nat):Int):=by rw [aJ (by omega) (by omega)];omega
  simp only [go_sem,aH,TG,MG,cv,aD,aT hij,aL,mA,show i<l1.length by omega,show j<l1.length by omega,g1,g2,g3,jM,aG (show i<9223372036854775807 by omega),w2];exact ⟨(j-1)+1-(i+1),by omega,i+1,j-1,_,rfl,by omega,by omega,by omega,hp.trans (gJ (by omega) (by omega) (by omega) (by omega) (by omega)),rfl⟩
 ·simp only [go_sem,aH,TG,MG,cv,aD,aX hij];exact ⟨l1,hp,rfl⟩
def Mj (hC:oS G g d f N) (l:List Nat) (hv:VL N l) (a b:Nat) (c:Int) (ha:a<l.length) (hb:b<l.length) :
  aC PQ G cL [.own 0,.v (.int .i64 (a:Int)),.v (.int .i64 (b:Int)),.ptr 4 0,cv f] (aH g d l++[some (.box [.v (.int .i64 c)])]) λr T'=>∃ (x y:Nat) (c':Int),((x=a∧y=b)∨(x=b∧y=a))∧r=.tup [.v (.int .i64 (x:Int)),.v (.int .i64 (y:Int))]∧T'=(aH g d l++[some (.box [.v (.int .i64 c')])]):=by
 refine aF qI (by decide) ?_;have g1:=bH d l a ha;have g2:=bH d l b hb;simp only [go_sem,aH,TG,MG,cv,aD,aL,ha,hb,g1,g2];refine YL hC (a:=l.getD b 0) (b:=l.getD a 0) (VL.get hv hb) (VL.get hv ha) ?_;simp only [go_sem,aH,TG,MG,cv,aD,aL,ha,hb,g1,g2];refine aM (λhc=>?_) (λhc=>?_)
 ·simp only [go_sem,aH,TG,MG,cv,aD];exact ⟨b,a,_,.inr ⟨rfl,rfl⟩,rfl,rfl⟩
 ·simp only [go_sem,aH,TG,MG,cv,aD];exact ⟨a,b,c,.inl ⟨rfl,rfl⟩,rfl,rfl⟩
def Mk (hC:oS G g d f N) (l:List Nat) (hv:VL N l) (a b e:Nat) (c:Int) (ha:a<l.length) (hb:b<l.length) (hd:e<l.length) :
  aC PQ G dO [.own 0,.v (.int .i64 (a:Int)),.v (.int .i64 (b:Int)),.v (.int .i64 (e:Int)),.ptr 4 0,cv f] (aH g d l++[some (.box [.v (.int .i64 c)])]) λr T'=>∃ (x:Nat) (c':Int),(x=a∨x=b∨x=e)∧r=.v (.int .i64 (x:Int))∧T'=(aH g d l++[some (.box [.v (.int .i64 c')])]):=by
 refine aF qH (by decide) ?_;simp only [go_sem,aH,TG,MG,cv,aD];refine aI [0,1,2,3,4] (aA _) (by decide) (by simp [aH,TG]) (by simp only [go_sem,aH,TG,MG,cv,aD]) (by simp only [go_sem,aH,TG,MG,cv,aD]) (Mj hC l (hv) a b c ha hb) ?_;rintro r T' ⟨x,y,c1,h1,rfl,rfl⟩;simp only [go_sem,aH,TG,MG,cv,aD];refine aI [0,1,2,3,4] (aA _) (by decide) (by simp [aH,TG]) (by simp only [go_sem,aH,TG,MG,cv,aD]) (by simp only [go_sem,aH,TG,MG,cv,aD]) (Mj hC l (hv) y e c1 (by omega) hd) ?_;rintro r T' ⟨x2,y2,c2,h2,rfl,rfl⟩;simp only [go_sem,aH,TG,MG,cv,aD];refine aI [0,1,2,3,4] (aA _) (by decide) (by simp [aH,TG]) (by simp only [go_sem,aH,TG,MG,cv,aD]) (by simp only [go_sem,aH,TG,MG,cv,aD]) (Mj hC l (hv) x x2 c2 (by omega) (by omega)) ?_;rintro r T' ⟨x3,y3,c3,h3,rfl,rfl⟩;simp only [go_sem,aH,TG,MG,cv,aD];exact ⟨y3,c3,by omega,rfl,rfl⟩
def IP (hC:oS G g d f N) (l:List Nat) (hv:VL N l) (a:Nat) (c:Int) (h0:0<a) (ha:a+1<l.length) (hl:l.length≤1000000000) :
  aC PQ G bO [.own 0,.v (.int .i64 (a:Int)),.ptr 4 0,cv f] (aH g d l++[some (.box [.v (.int .i64 c)])]) λr T'=>∃ (x:Nat) (c':Int),(x=a-1∨x=a∨x=a+1)∧r=.v (.int .i64 (x:Int))∧T'=(aH g d l++[some (.box [.v (.int .i64 c')])]):=by
 refine aF mG (by decide) ?_;have w1:IntKind.i64.wrap ((a:Int)-1)=((a-1:Nat):Int):=by rw [aJ (by omega) (by omega)];omega
 simp only [go_sem,aH,TG,MG,cv,aD,w1,aG (show a<9223372036854775807 by omega)];refine aI [0,1,2,3,4] (aA _) (by decide) (by simp [aH,TG]) (by simp only [go_sem,aH,TG,MG,cv,aD]) (by simp only [go_sem,aH,TG,MG,cv,aD]) (Mk hC l hv (a-1) a (a+1) c (by omega) (by omega) ha) ?_;rintro r T' ⟨x,c1,h1,rfl,rfl⟩;simp only [go_sem,aH,TG,MG,cv,aD];exact ⟨x,c1,h1,rfl,rfl⟩
def Sh (hC:oS G g d f N) (l:List Nat) (hv:VL N l) (a b:Nat) (hab:a+12<b) (hb:b≤l.length) (hl:l.length≤1000000000) :
  aC PQ G eI [.own 0,.v (.int .i64 (a:Int)),.v (.int .i64 (b:Int)),cv f] (aH g d l) λr T'=>∃ (p:Nat) (h:Int),a≤p∧p<b∧r=.tup [.v (.int .i64 (p:Int)),.v (.int .i64 h)]∧T'=(aH g d l):=by
 refine aF nL (by decide) ?_;have w1:IntKind.i64.wrap ((b:Int)-(a:Int))=((b-a:Nat):Int):=by rw [aJ (by omega) (by omega)];omega
 generalize hq:(b-a)/4=q;have m1:IntKind.i64.wrap ((q:Int)*1)=((q:Nat):Int):=by rw [aJ (by omega) (by omega)];omega
 have m2:IntKind.i64.wrap ((q:Int)*2)=((q*2:Nat):Int):=by rw [aJ (by omega) (by omega)];omega
 have m3:IntKind.i64.wrap ((q:Int)*3)=((q*3:Nat):Int):=by rw [aJ (by omega) (by omega)];omega
 have n1:IntKind.i64.wrap ((a:Int)+(q:Int))=((a+q:Nat):Int):=by rw [aJ (by omega) (by omega)];omega
 have n2:IntKind.i64.wrap ((a:Int)+((q*2:Nat):Int))=((a+q*2:Nat):Int):=by rw [aJ (by omega) (by omega)];omega
 have n3:IntKind.i64.wrap ((a:Int)+((q*3:Nat):Int))=((a+q*3:Nat):Int):=by rw [aJ (by omega) (by omega)];omega
 simp only [go_sem,aH,TG,MG,cv,aD,w1,aD5 (b-a) (by omega),hq,m1,m2,m3,n1,n2,n3,show decide (((b-a:Nat):Int)≥8)=true from decide_eq_true (by omega)];by_cases h50:50≤b-a
 ·simp only [go_sem,aH,TG,MG,cv,aD,show decide (((b-a:Nat):Int)≥50)=true from decide_eq_true (by omega)];refine aI [0,1,2,3,4] (aA _) (by decide) (by simp [aH,TG]) (by simp only [go_sem,aH,TG,MG,cv,aD]) (by simp only [go_sem,aH,TG,MG,cv,aD]) (IP hC l (hv) (a+q) 0 (by omega) (by omega) hl) ?_;rintro r T' ⟨x1,c1,h1,rfl,rfl⟩;have k1:a≤x1∧x1<b:=by omega
  clear h1;simp only [go_sem,aH,TG,MG,cv,aD];refine aI [0,1,2,3,4] (aA _) (by decide) (by simp [aH,TG]) (by simp only [go_sem,aH,TG,MG,cv,aD]) (by simp only [go_sem,aH,TG,MG,cv,aD]) (IP hC l (hv) (a+q*2) c1 (by omega) (by omega) hl) ?_;rintro r T' ⟨x2,c2,h2,rfl,rfl⟩;have k2:a≤x2∧x2<b:=by omega
  clear h2;simp only [go_sem,aH,TG,MG,cv,aD];refine aI [0,1,2,3,4] (aA _) (by decide) (by simp [aH,TG]) (by simp only [go_sem,aH,TG,MG,cv,aD]) (by simp only [go_sem,aH,TG,MG,cv,aD]) (IP hC l (hv) (a+q*3) c2 (by omega) (by omega) hl) ?_;rintro r T' ⟨x3,c3,h3,rfl,rfl⟩;have k3:a≤x3∧x3<b:=by omega
  clear h3;simp only [go_sem,aH,TG,MG,cv,aD];refine aI [0,1,2,3,4] (aA _) (by decide) (by simp [aH,TG]) (by simp only [go_sem,aH,TG,MG,cv,aD]) (by simp only [go_sem,aH,TG,MG,cv,aD]) (Mk hC l (hv) x1 x2 x3 c3 (by omega) (by omega) (by omega)) ?_;rintro r T' ⟨x,c4,h4,rfl,rfl⟩;have k4:a≤x∧x<b:=by omega
  clear h4;simp only [go_sem,aH,TG,MG,cv,aD];refine aM (λhz=>?_) (λhz=>?_)
  ·simp only [go_sem,aH,TG,MG,cv,aD];exact ⟨x,1,k4.1,k4.2,rfl⟩
  ·simp only [go_sem,aH,TG,MG,cv,aD];refine aM (λhz2=>?_) (λhz2=>?_)
   ·simp only [go_sem,aH,TG,MG,cv,aD];exact ⟨x,2,k4.1,k4.2,rfl⟩
   ·simp only [go_sem,aH,TG,MG,cv,aD];exact ⟨x,0,k4.1,k4.2,rfl⟩
 ·simp only [go_sem,aH,TG,MG,cv,aD,show decide (((b-a:Nat):Int)≥50)=false from decide_eq_false (by omega)];refine aI [0,1,2,3,4] (aA _) (by decide) (by simp [aH,TG]) (by simp only [go_sem,aH,TG,MG,cv,aD]) (by simp only [go_sem,aH,TG,MG,cv,aD]) (Mk hC l (hv) (a+q) (a+q*2) (a+q*3) 0 (by omega) (by omega) (by omega)) ?_;rintro r T' ⟨x,c4,h4,rfl,rfl⟩;have k4:a≤x∧x<b:=by omega
  clear h4;simp only [go_sem,aH,TG,MG,cv,aD];refine aM (λhz=>?_) (λhz=>?_)
  ·simp only [go_sem,aH,TG,MG,cv,aD];exact ⟨x,1,k4.1,k4.2,rfl⟩
  ·simp only [go_sem,aH,TG,MG,cv,aD];refine aM (λhz2=>?_) (λhz2=>?_)
   ·simp only [go_sem,aH,TG,MG,cv,aD];exact ⟨x,2,k4.1,k4.2,rfl⟩
   ·simp only [go_sem,aH,TG,MG,cv,aD];exact ⟨x,0,k4.1,k4.2,rfl⟩
def aD9 (hC:oS G g d f N) (l:List Nat) (hv:VL N l) (a b:Nat) (hab:a+12<b) (hb:b≤l.length) (hl:l.length≤60000) :
  aC PQ G dP [.own 0,.v (.int .i64 (a:Int)),.v (.int .i64 (b:Int)),cv f] (aH g d l) (FJ g d λ_ l'=>PR a b l l'):=by
 refine aF mP (by decide) ?_;have w1:IntKind.i64.wrap ((b:Int)-(a:Int))=((b-a:Nat):Int):=by rw [aJ (by omega) (by omega)];omega
 generalize hq:(b-a)/4=q;have m2:IntKind.i64.wrap ((q:Int)*2)=((q*2:Nat):Int):=by rw [aJ (by omega) (by omega)];omega
 have n2:IntKind.i64.wrap ((a:Int)+((q*2:Nat):Int))=((a+q*2:Nat):Int):=by rw [aJ (by omega) (by omega)];omega
 have n3:IntKind.i64.wrap (((a+q*2:Nat):Int)-1)=((a+q*2-1:Nat):Int):=by rw [aJ (by omega) (by omega)];omega
 have n4:IntKind.i64.wrap (((a+q*2:Nat):Int)+1)=((a+q*2+1:Nat):Int):=aG (by omega);simp only [go_sem,aH,TG,MG,cv,aD,w1,show decide (((b-a:Nat):Int)≥8)=true from decide_eq_true (by omega)];refine lM (aA _) rfl (YK (b-a) (by omega) (by omega)) ?_;rintro r T' ⟨⟨m,rfl,hm1,hm2⟩,rfl⟩;simp only [go_sem,aH,TG,MG,cv,aD,aD5 (b-a) (by omega),hq,m2,n2,n3];refine bU (λn s=>∃ (i:Nat) (l':List Nat) (z:Int),n=a+q*2+2-i∧a≤i∧i≤a+q*2+2∧PR a b l l'∧s=⟨4,[(0,.own 0),(1,.v (.int .i64 (a:Int))),(8,.v (.int .i64 ((b-a:Nat):Int))),(9,.ptr 4 0),(10,.v (.int .u64 (m:Int))),(11,.v (.int .i64 (i:Int)))],(aH g d l'++[some (.box [.v (.int .u64 z)])])⟩) 3
  ⟨a+q*2-1,l,IntKind.u64.wrap ((b-a:Nat):Int),by omega,by omega,by omega,PR.refl a b l,by simp only [go_sem,aH,TG,MG,cv,aD]⟩ ?_
 rintro n s ⟨i,l1,z,hn,hai,hi,hp,rfl⟩;have hl1:=hp.1;by_cases hij:i≤a+q*2+1
 ·simp only [go_sem,aH,TG,MG,cv,aD,aD5 (b-a) (by omega),hq,m2,n2,n4,BF hij];refine aI [4] (aA _) (by decide) (by simp) (by simp only [go_sem]) (by simp only [go_sem]) (aFh z) ?_;rintro r T' ⟨z2,rfl,rfl⟩;have v1:IntKind.u64.wrap ((m:Int)-1)=((m-1:Nat):Int):=by rw [show (m:Int)-1=((m-1:Nat):Int) by omega,bG _ (by omega)]
  obtain ⟨o,ho,hpo⟩:=Uf z2 (m-1) (by omega);have sb:aZ .sub (.int .u64 (m:Int)) (.int .u64 1)=some (.int .u64 ((m-1:Nat):Int)):=Ug m 1 (by omega) (by omega);have v2:=Gk (show o≤9223372036854775807 by omega);simp only [↓sb,↓hpo,go_sem,aH,TG,MG,cv,aD,v2];by_cases hob:b-a≤o
  ·have v3:IntKind.i64.wrap ((o:Int)-((b-a:Nat):Int))=((o-(b-a):Nat):Int):=by rw [aJ (by omega) (by omega)];omega
   simp only [go_sem,aH,TG,MG,cv,aD,aDK hob,v3];have v4:IntKind.i64.wrap ((a:Int)+((o-(b-a):Nat):Int))=((a+(o-(b-a)):Nat):Int):=by rw [aJ (by omega) (by omega)];omega
   have hj:a+(o-(b-a))<b:=by omega
   have hja:a≤a+(o-(b-a)):=by omega
   generalize a+(o-(b-a))=j at *
   have g1:=bH d l1 i (by omega);have g2:=bH d l1 j (by omega);obtain ⟨y,g3⟩:=tH d l1 i j (d (l1.getD j 0)) (by omega);simp only [go_sem,aH,TG,MG,cv,aD,v4,aL,mA,show i<l1.length by omega,show j<l1.length by omega,g1,g2,g3,jM,aG (show i<9223372036854775807 by omega)];exact ⟨a+q*2+2-(i+1),by omega,i+1,_,z2,rfl,by omega,by omega,hp.trans (gJ (by omega) (by omega) (by omega) (by omega) (by omega)),rfl⟩
  ·simp only [go_sem,aH,TG,MG,cv,aD,aDL (GE hob)];have v4:IntKind.i64.wrap ((a:Int)+(o:Int))=((a+o:Nat):Int):=by rw [aJ (by omega) (by omega)];omega
   have hj:a+o<b:=by omega
   have hja:a≤a+o:=by omega
   generalize a+o=j at *
   have g1:=bH d l1 i (by omega);have g2:=bH d l1 j (by omega);obtain ⟨y,g3⟩:=tH d l1 i j (d (l1.getD j 0)) (by omega);simp only [go_sem,aH,TG,MG,cv,aD,v4,aL,mA,show i<l1.length by omega,show j<l1.length by omega,g1,g2,g3,jM,aG (show i<9223372036854775807 by omega)];exact ⟨a+q*2+2-(i+1),by omega,i+1,_,z2,rfl,by omega,by omega,hp.trans (gJ (by omega) (by omega) (by omega) (by omega) (by omega)),rfl⟩
 ·simp only [go_sem,aH,TG,MG,cv,aD,aD5 (b-a) (by omega),hq,m2,n2,n4,Ly (GE hij)];exact ⟨l1,hp,rfl⟩
end
end
section
section
variable {G:Nat→Option (List AV)} {g:PGM} {d:Nat→Id} {f N:Nat}
set_option maxHeartbeats 4000000
def aBn (hC:oS G g d f N) (l:List Nat) (hv:VL N l) (a b p:Nat) (hap:a≤p) (hpb:p<b) (hb:b≤l.length) (hl:l.length≤1000000000) :
  aC PQ G cY [.own 0,.v (.int .i64 (a:Int)),.v (.int .i64 (b:Int)),.v (.int .i64 (p:Int)),cv f] (aH g d l) (FJ g d λr l'=>∃ (j:Nat) (f:Bool),r=.tup [.v (.int .i64 (j:Int)),.v (.bool f)]∧PR a b l l'∧D0 a b j l'):=by
 refine aF oO (by decide) ?_;have g1:=bH d l a (by omega);have g2:=bH d l p (by omega);obtain ⟨y,g3⟩:=tH d l a p (d (l.getD p 0)) (by omega);have w1:IntKind.i64.wrap ((b:Int)-1)=((b-1:Nat):Int):=by rw [aJ (by omega) (by omega)];omega
 simp only [go_sem,aH,TG,MG,cv,aD,aL,mA,show a<l.length by omega,show p<l.length by omega,g1,g2,g3,jM,w1,aG (show a<9223372036854775807 by omega)];have hp0:PR a b l (iF l a p):=gJ (by omega) (by omega) (by omega) (by omega) (by omega);generalize iF l a p=l1 at hp0;have hl1:=hp0.1;clear g1 g2 g3;have gx:=bH d l1 a (by omega);refine eF (λs=>∃ i:Nat,(a+1)≤i∧Pt a b i (b-1) l1∧((b-1)<i∨l1.getD a 0≤l1.getD i 0)∧s=⟨4,[(0,.own 0),(1,.v (.int .i64 (a:Int))),(4,cv f),(12,.v (.int .i64 ((i:Nat):Int))),(13,.v (.int .i64 (((b-1):Nat):Int)))],(aH g d l1)⟩) ?_ ?_
 ·refine bU (λn s=>∃ i:Nat,n=b+1-i∧(a+1)≤i∧Pt a b i (b-1) l1∧s=⟨4,[(0,.own 0),(1,.v (.int .i64 (a:Int))),(4,cv f),(12,.v (.int .i64 ((i:Nat):Int))),(13,.v (.int .i64 (((b-1):Nat):Int)))],(aH g d l1)⟩) (b+1-(a+1))
   ⟨(a+1),rfl,fW _,⟨by omega,by omega,by omega,by omega,λk k1 k2=>by omega,λk k1 k2=>by omega⟩,by simp only [go_sem,aH,TG,MG,cv,aD]⟩ ?_
  rintro n s ⟨i,hn,hii,hpt,rfl⟩;obtain ⟨p1,p2,p3,p4,p5,p6⟩:=id hpt;by_cases hij:i≤(b-1)
  ·have gi:=bH d l1 i (by omega);simp only [go_sem,aH,TG,MG,cv,aD,BF hij,aL,show a<l1.length by omega,show i<l1.length by omega,gx,gi];refine iQ hC (VL.get (VL.pr hp0 hv) (by omega)) (VL.get (VL.pr hp0 hv) (by omega)) ?_;simp only [go_sem,aH,TG,MG,cv,aD,BF hij,aL,show a<l1.length by omega,show i<l1.length by omega,gx,gi];refine aM (λhc=>?_) (λhc=>?_)
   ·have hlt:l1.getD i 0<l1.getD a 0:=by simpa using hc
    simp only [go_sem,aH,TG,MG,cv,aD,aG (show i<9223372036854775807 by omega)];refine ⟨b+1-(i+1),by omega,i+1,rfl,by omega,⟨by omega,by omega,p3,p4,λk k1 k2=>?_,p6⟩,rfl⟩;by_cases hk:k=i
    ·subst hk;omega
    ·exact p5 k k1 (by omega)
   ·have hlt:l1.getD a 0≤l1.getD i 0:=by simpa using hc
    simp only [go_sem,aH,TG,MG,cv,aD];exact ⟨i,hii,hpt,.inr hlt,rfl⟩
  ·simp only [go_sem,aH,TG,MG,cv,aD,Ly (GE hij)];exact ⟨i,hii,hpt,.inl (by omega),rfl⟩
 rintro s ⟨i,hii,hpt,hei,rfl⟩;simp only [go_sem,aH,TG,MG,cv,aD];refine eF (λs=>∃ j:Nat,j≤(b-1)∧Pt a b i j l1∧(j<i∨l1.getD j 0<l1.getD a 0)∧s=⟨4,[(0,.own 0),(1,.v (.int .i64 (a:Int))),(4,cv f),(12,.v (.int .i64 ((i:Nat):Int))),(13,.v (.int .i64 ((j:Nat):Int)))],(aH g d l1)⟩) ?_ ?_
 ·refine bU (λn s=>∃ j:Nat,n=j∧j≤(b-1)∧Pt a b i j l1∧s=⟨4,[(0,.own 0),(1,.v (.int .i64 (a:Int))),(4,cv f),(12,.v (.int .i64 ((i:Nat):Int))),(13,.v (.int .i64 ((j:Nat):Int)))],(aH g d l1)⟩) ((b-1))
   ⟨(b-1),rfl,fW _,hpt,by simp only [go_sem,aH,TG,MG,cv,aD]⟩ ?_
  rintro n s ⟨j,hn,hjj,hpt,rfl⟩;obtain ⟨p1,p2,p3,p4,p5,p6⟩:=id hpt;by_cases hij:i≤j
  ·have gj:=bH d l1 j (by omega);have wj:IntKind.i64.wrap ((j:Int)-1)=((j-1:Nat):Int):=by rw [aJ (by omega) (by omega)];omega
   simp only [go_sem,aH,TG,MG,cv,aD,BF hij,aL,show a<l1.length by omega,show j<l1.length by omega,gx,gj];refine iQ hC (VL.get (VL.pr hp0 hv) (by omega)) (VL.get (VL.pr hp0 hv) (by omega)) ?_;simp only [go_sem,aH,TG,MG,cv,aD,BF hij,aL,show a<l1.length by omega,show j<l1.length by omega,gx,gj];refine aM (λhc=>?_) (λhc=>?_)
   ·have hlt:l1.getD a 0≤l1.getD j 0:=by simpa using hc
    simp only [go_sem,aH,TG,MG,cv,aD,wj];refine ⟨j-1,by omega,j-1,rfl,by omega,⟨by omega,by omega,by omega,by omega,p5,λk k1 k2=>?_⟩,rfl⟩;by_cases hk:k=j
    ·subst hk;exact hlt
    ·exact p6 k (by omega) k2
   ·have hlt:l1.getD j 0<l1.getD a 0:=by simpa using hc
    simp only [go_sem,aH,TG,MG,cv,aD];exact ⟨j,hjj,hpt,.inr hlt,rfl⟩
  ·simp only [go_sem,aH,TG,MG,cv,aD,Ly (GE hij)];exact ⟨j,hjj,hpt,.inl (by omega),rfl⟩
 rintro s ⟨j,hjj,hpt,hej,rfl⟩;simp only [go_sem,aH,TG,MG,cv,aD];by_cases hij:j<i
 ·skip;have q1:=bH d l1 j (by have:=hpt.2.2.2.1;omega);obtain ⟨y2,q3⟩:=tH d l1 j a (d (l1.getD a 0)) (by omega);simp only [go_sem,aH,TG,MG,cv,aD,o7 hij,aL,mA,show a<l1.length by omega,show j<l1.length by have:=hpt.2.2.2.1;omega,gx,q1,q3,jM];have k1:=hpt.2.2.1;have k2:=hpt.2.2.2.1;exact ⟨_,⟨j,true,rfl,hp0.trans (gJ (by omega) (by omega) (by omega) (by omega) (by omega)),aBl (by omega) hpt hij⟩,rfl⟩
 ·skip;obtain ⟨p1,p2,p3,p4,p5,p6⟩:=id hpt;have hei':l1.getD a 0≤l1.getD i 0:=hei.resolve_left (by omega);have hej':l1.getD j 0<l1.getD a 0:=hej.resolve_left hij;have hps:=WT (by omega) hpt (by omega) hei' hej';have q1:=bH d l1 i (by omega);have q2:=bH d l1 j (by omega);obtain ⟨y2,q3⟩:=tH d l1 i j (d (l1.getD j 0)) (by omega);have wj:IntKind.i64.wrap ((j:Int)-1)=((j-1:Nat):Int):=by rw [aJ (by omega) (by omega)];omega
  simp only [go_sem,aH,TG,MG,cv,aD,o8 (Y6 hij),aL,mA,show i<l1.length by omega,show j<l1.length by omega,q1,q2,q3,jM,wj,aG (show i<9223372036854775807 by omega)];have hpsw:PR a b l1 (iF l1 i j):=gJ (by omega) (by omega) (by omega) (by omega) (by omega);refine bU (λn s=>∃ (i j:Nat) (l2:List Nat),n=j+1-i∧PR a b l l2∧Pt a b i j l2∧s=⟨4,[(0,.own 0),(1,.v (.int .i64 (a:Int))),(4,cv f),(12,.v (.int .i64 ((i:Nat):Int))),(13,.v (.int .i64 ((j:Nat):Int)))],(aH g d l2)⟩) (j-1+1-(i+1))
   ⟨i+1,j-1,_,rfl,hp0.trans hpsw,hps.2,by simp only [go_sem,aH,TG,MG,cv,aD]⟩ ?_
  rintro n s ⟨i0,j0,l2,hn,hp2,hpt,rfl⟩;have hl2:=hp2.1;have gx:=bH d l2 a (by omega);simp only [go_sem,aH,TG,MG,cv,aD];refine eF (λs=>∃ i:Nat,i0≤i∧Pt a b i j0 l2∧(j0<i∨l2.getD a 0≤l2.getD i 0)∧s=⟨4,[(0,.own 0),(1,.v (.int .i64 (a:Int))),(4,cv f),(12,.v (.int .i64 ((i:Nat):Int))),(13,.v (.int .i64 ((j0:Nat):Int)))],(aH g d l2)⟩) ?_ ?_
  ·refine bU (λn s=>∃ i:Nat,n=b+1-i∧i0≤i∧Pt a b i j0 l2∧s=⟨4,[(0,.own 0),(1,.v (.int .i64 (a:Int))),(4,cv f),(12,.v (.int .i64 ((i:Nat):Int))),(13,.v (.int .i64 ((j0:Nat):Int)))],(aH g d l2)⟩) (b+1-i0)
    ⟨i0,rfl,fW _,hpt,by simp only [go_sem,aH,TG,MG,cv,aD]⟩ ?_
   rintro n s ⟨i,hn,hii,hpt,rfl⟩;obtain ⟨p1,p2,p3,p4,p5,p6⟩:=id hpt;by_cases hij:i≤j0
   ·have gi:=bH d l2 i (by omega);simp only [go_sem,aH,TG,MG,cv,aD,BF hij,aL,show a<l2.length by omega,show i<l2.length by omega,gx,gi];refine iQ hC (VL.get (VL.pr hp2 hv) (by omega)) (VL.get (VL.pr hp2 hv) (by omega)) ?_;simp only [go_sem,aH,TG,MG,cv,aD,BF hij,aL,show a<l2.length by omega,show i<l2.length by omega,gx,gi];refine aM (λhc=>?_) (λhc=>?_)
    ·have hlt:l2.getD i 0<l2.getD a 0:=by simpa using hc
     simp only [go_sem,aH,TG,MG,cv,aD,aG (show i<9223372036854775807 by omega)];refine ⟨b+1-(i+1),by omega,i+1,rfl,by omega,⟨by omega,by omega,p3,p4,λk k1 k2=>?_,p6⟩,rfl⟩;by_cases hk:k=i
     ·subst hk;omega
     ·exact p5 k k1 (by omega)
    ·have hlt:l2.getD a 0≤l2.getD i 0:=by simpa using hc
     simp only [go_sem,aH,TG,MG,cv,aD];exact ⟨i,hii,hpt,.inr hlt,rfl⟩
   ·simp only [go_sem,aH,TG,MG,cv,aD,Ly (GE hij)];exact ⟨i,hii,hpt,.inl (by omega),rfl⟩
  rintro s ⟨i,hii,hpt,hei,rfl⟩;simp only [go_sem,aH,TG,MG,cv,aD];refine eF (λs=>∃ j:Nat,j≤j0∧Pt a b i j l2∧(j<i∨l2.getD j 0<l2.getD a 0)∧s=⟨4,[(0,.own 0),(1,.v (.int .i64 (a:Int))),(4,cv f),(12,.v (.int .i64 ((i:Nat):Int))),(13,.v (.int .i64 ((j:Nat):Int)))],(aH g d l2)⟩) ?_ ?_
  ·refine bU (λn s=>∃ j:Nat,n=j∧j≤j0∧Pt a b i j l2∧s=⟨4,[(0,.own 0),(1,.v (.int .i64 (a:Int))),(4,cv f),(12,.v (.int .i64 ((i:Nat):Int))),(13,.v (.int .i64 ((j:Nat):Int)))],(aH g d l2)⟩) (j0)
    ⟨j0,rfl,fW _,hpt,by simp only [go_sem,aH,TG,MG,cv,aD]⟩ ?_
   rintro n s ⟨j,hn,hjj,hpt,rfl⟩;obtain ⟨p1,p2,p3,p4,p5,p6⟩:=id hpt;by_cases hij:i≤j
   ·have gj:=bH d l2 j (by omega);have wj:IntKind.i64.wrap ((j:Int)-1)=((j-1:Nat):Int):=by rw [aJ (by omega) (by omega)];omega
    simp only [go_sem,aH,TG,MG,cv,aD,BF hij,aL,show a<l2.length by omega,show j<l2.length by omega,gx,gj];refine iQ hC (VL.get (VL.pr hp2 hv) (by omega)) (VL.get (VL.pr hp2 hv) (by omega)) ?_;simp only [go_sem,aH,TG,MG,cv,aD,BF hij,aL,show a<l2.length by omega,show j<l2.length by omega,gx,gj];refine aM (λhc=>?_) (λhc=>?_)
    ·have hlt:l2.getD a 0≤l2.getD j 0:=by simpa using hc
     simp only [go_sem,aH,TG,MG,cv,aD,wj];refine ⟨j-1,by omega,j-1,rfl,by omega,⟨by omega,by omega,by omega,by omega,p5,λk k1 k2=>?_⟩,rfl⟩;by_cases hk:k=j
     ·subst hk;exact hlt
     ·exact p6 k (by omega) k2
    ·have hlt:l2.getD j 0<l2.getD a 0:=by simpa using hc
     simp only [go_sem,aH,TG,MG,cv,aD];exact ⟨j,hjj,hpt,.inr hlt,rfl⟩
   ·simp only [go_sem,aH,TG,MG,cv,aD,Ly (GE hij)];exact ⟨j,hjj,hpt,.inl (by omega),rfl⟩
  rintro s ⟨j,hjj,hpt,hej,rfl⟩;simp only [go_sem,aH,TG,MG,cv,aD];by_cases hij:j<i
  ·skip;have q1:=bH d l2 j (by have:=hpt.2.2.2.1;omega);obtain ⟨y2,q3⟩:=tH d l2 j a (d (l2.getD a 0)) (by omega);simp only [go_sem,aH,TG,MG,cv,aD,o7 hij,aL,mA,show a<l2.length by omega,show j<l2.length by have:=hpt.2.2.2.1;omega,gx,q1,q3,jM];have k1:=hpt.2.2.1;have k2:=hpt.2.2.2.1;exact ⟨_,⟨j,false,rfl,hp2.trans (gJ (by omega) (by omega) (by omega) (by omega) (by omega)),aBl (by omega) hpt hij⟩,rfl⟩
  ·skip;obtain ⟨p1,p2,p3,p4,p5,p6⟩:=id hpt;have hei':l2.getD a 0≤l2.getD i 0:=hei.resolve_left (by omega);have hej':l2.getD j 0<l2.getD a 0:=hej.resolve_left hij;have hps:=WT (by omega) hpt (by omega) hei' hej';have q1:=bH d l2 i (by omega);have q2:=bH d l2 j (by omega);obtain ⟨y2,q3⟩:=tH d l2 i j (d (l2.getD j 0)) (by omega);have wj:IntKind.i64.wrap ((j:Int)-1)=((j-1:Nat):Int):=by rw [aJ (by omega) (by omega)];omega
   simp only [go_sem,aH,TG,MG,cv,aD,o8 (Y6 hij),aL,mA,show i<l2.length by omega,show j<l2.length by omega,q1,q2,q3,jM,wj,aG (show i<9223372036854775807 by omega)];have hpsw:PR a b l2 (iF l2 i j):=gJ (by omega) (by omega) (by omega) (by omega) (by omega);exact ⟨j-1+1-(i+1),by omega,i+1,j-1,_,rfl,hp2.trans hpsw,hps.2,rfl⟩
end
end
section
section
variable {G:Nat→Option (List AV)} {g:PGM} {d:Nat→Id} {f N:Nat}
set_option maxHeartbeats 4000000
def Si (hC:oS G g d f N) (l:List Nat) (hv:VL N l) (a b p:Nat) (hap:a≤p) (hpb:p<b) (hb:b≤l.length) (hl:l.length≤1000000000) :
  aC PQ G cC [.own 0,.v (.int .i64 (a:Int)),.v (.int .i64 (b:Int)),.v (.int .i64 (p:Int)),cv f] (aH g d l) (FJ g d λr l'=>∃ i:Nat,r=.v (.int .i64 (i:Int))∧PR a b l l'∧a<i∧i≤b∧(∀ k,a≤k→k<i→l'.getD k 0≤l.getD p 0)∧∀ k,i≤k→k<b→l.getD p 0<l'.getD k 0):=by
 refine aF mF (by decide) ?_;have g1:=bH d l a (by omega);have g2:=bH d l p (by omega);obtain ⟨y,g3⟩:=tH d l a p (d (l.getD p 0)) (by omega);have w1:IntKind.i64.wrap ((b:Int)-1)=((b-1:Nat):Int):=by rw [aJ (by omega) (by omega)];omega
 simp only [go_sem,aH,TG,MG,cv,aD,aL,mA,show a<l.length by omega,show p<l.length by omega,g1,g2,g3,jM,w1,aG (show a<9223372036854775807 by omega)];have hp0:PR a b l (iF l a p):=gJ (by omega) (by omega) (by omega) (by omega) (by omega);have hv0:(iF l a p).getD a 0=l.getD p 0:=by
  rw [pI l a p (by omega) (by omega)];by_cases e:a=p
  ·rw [if_pos e,e]
  ·rw [if_neg e,if_pos rfl]
 generalize iF l a p=l1 at hp0 hv0;have hl1:=hp0.1;clear g1 g2 g3;refine bU (λn s=>∃ (i j:Nat) (l2:List Nat),n=j+1-i∧PR a b l l2∧l2.getD a 0=l.getD p 0∧Pe a b i j l2∧s=⟨4,[(0,.own 0),(1,.v (.int .i64 (a:Int))),(4,cv f),(11,.v (.int .i64 ((i:Nat):Int))),(12,.v (.int .i64 ((j:Nat):Int)))],(aH g d l2)⟩) (b-1+1-(a+1))
  ⟨a+1,b-1,_,rfl,hp0,hv0,⟨by omega,by omega,by omega,by omega,λk k1 k2=>by omega,λk k1 k2=>by omega⟩,by simp only [go_sem,aH,TG,MG,cv,aD]⟩ ?_
 rintro n s ⟨i0,j0,l2,hn,hp2,hv2,hpt,rfl⟩;have hl2:=hp2.1;have gx:=bH d l2 a (by omega);simp only [go_sem,aH,TG,MG,cv,aD];refine eF (λs=>∃ i:Nat,i0≤i∧Pe a b i j0 l2∧(j0<i∨l2.getD a 0<l2.getD i 0)∧s=⟨4,[(0,.own 0),(1,.v (.int .i64 (a:Int))),(4,cv f),(11,.v (.int .i64 ((i:Nat):Int))),(12,.v (.int .i64 ((j0:Nat):Int)))],(aH g d l2)⟩) ?_ ?_
 ·refine bU (λn s=>∃ i:Nat,n=b+1-i∧i0≤i∧Pe a b i j0 l2∧s=⟨4,[(0,.own 0),(1,.v (.int .i64 (a:Int))),(4,cv f),(11,.v (.int .i64 ((i:Nat):Int))),(12,.v (.int .i64 ((j0:Nat):Int)))],(aH g d l2)⟩) (b+1-i0)
   ⟨i0,rfl,fW _,hpt,by simp only [go_sem,aH,TG,MG,cv,aD]⟩ ?_
  rintro n s ⟨i,hn,hii,hpt,rfl⟩;obtain ⟨p1,p2,p3,p4,p5,p6⟩:=id hpt;by_cases hij:i≤j0
  ·have gi:=bH d l2 i (by omega);simp only [go_sem,aH,TG,MG,cv,aD,BF hij,aL,show a<l2.length by omega,show i<l2.length by omega,gx,gi];refine iQ hC (VL.get (VL.pr hp2 hv) (by omega)) (VL.get (VL.pr hp2 hv) (by omega)) ?_;simp only [go_sem,aH,TG,MG,cv,aD,BF hij,aL,show a<l2.length by omega,show i<l2.length by omega,gx,gi];refine aM (λhc=>?_) (λhc=>?_)
   ·have hlt:l2.getD i 0≤l2.getD a 0:=by simpa using hc
    simp only [go_sem,aH,TG,MG,cv,aD,aG (show i<9223372036854775807 by omega)];refine ⟨b+1-(i+1),by omega,i+1,rfl,by omega,⟨by omega,by omega,p3,p4,λk k1 k2=>?_,p6⟩,rfl⟩;by_cases hk:k=i
    ·subst hk;omega
    ·exact p5 k k1 (by omega)
   ·have hlt:l2.getD a 0<l2.getD i 0:=by simpa using hc
    simp only [go_sem,aH,TG,MG,cv,aD];exact ⟨i,hii,hpt,.inr hlt,rfl⟩
  ·simp only [go_sem,aH,TG,MG,cv,aD,Ly (GE hij)];exact ⟨i,hii,hpt,.inl (by omega),rfl⟩
 rintro s ⟨i,hii,hpt,hei,rfl⟩;simp only [go_sem,aH,TG,MG,cv,aD];refine eF (λs=>∃ j:Nat,j≤j0∧Pe a b i j l2∧(j<i∨l2.getD j 0≤l2.getD a 0)∧s=⟨4,[(0,.own 0),(1,.v (.int .i64 (a:Int))),(4,cv f),(11,.v (.int .i64 ((i:Nat):Int))),(12,.v (.int .i64 ((j:Nat):Int)))],(aH g d l2)⟩) ?_ ?_
 ·refine bU (λn s=>∃ j:Nat,n=j∧j≤j0∧Pe a b i j l2∧s=⟨4,[(0,.own 0),(1,.v (.int .i64 (a:Int))),(4,cv f),(11,.v (.int .i64 ((i:Nat):Int))),(12,.v (.int .i64 ((j:Nat):Int)))],(aH g d l2)⟩) (j0)
   ⟨j0,rfl,fW _,hpt,by simp only [go_sem,aH,TG,MG,cv,aD]⟩ ?_
  rintro n s ⟨j,hn,hjj,hpt,rfl⟩;obtain ⟨p1,p2,p3,p4,p5,p6⟩:=id hpt;by_cases hij:i≤j
  ·have gj:=bH d l2 j (by omega);have wj:IntKind.i64.wrap ((j:Int)-1)=((j-1:Nat):Int):=by rw [aJ (by omega) (by omega)];omega
   simp only [go_sem,aH,TG,MG,cv,aD,BF hij,aL,show a<l2.length by omega,show j<l2.length by omega,gx,gj];refine iQ hC (VL.get (VL.pr hp2 hv) (by omega)) (VL.get (VL.pr hp2 hv) (by omega)) ?_;simp only [go_sem,aH,TG,MG,cv,aD,BF hij,aL,show a<l2.length by omega,show j<l2.length by omega,gx,gj];refine aM (λhc=>?_) (λhc=>?_)
   ·have hlt:l2.getD a 0<l2.getD j 0:=by simpa using hc
    simp only [go_sem,aH,TG,MG,cv,aD,wj];refine ⟨j-1,by omega,j-1,rfl,by omega,⟨by omega,by omega,by omega,by omega,p5,λk k1 k2=>?_⟩,rfl⟩;by_cases hk:k=j
    ·subst hk;exact hlt
    ·exact p6 k (by omega) k2
   ·have hlt:l2.getD j 0≤l2.getD a 0:=by simpa using hc
    simp only [go_sem,aH,TG,MG,cv,aD];exact ⟨j,hjj,hpt,.inr hlt,rfl⟩
  ·simp only [go_sem,aH,TG,MG,cv,aD,Ly (GE hij)];exact ⟨j,hjj,hpt,.inl (by omega),rfl⟩
 rintro s ⟨j,hjj,hpt,hej,rfl⟩;simp only [go_sem,aH,TG,MG,cv,aD];by_cases hij:j<i
 ·simp only [go_sem,aH,TG,MG,cv,aD,o7 hij];obtain ⟨p1,p2,p3,p4,p5,p6⟩:=id hpt;refine ⟨l2,⟨i,rfl,hp2,p1,by omega,λk k1 k2=>?_,λk k1 k2=>?_⟩,rfl⟩
  ·rw [←hv2];by_cases hk:k=a
   ·rw [hk];exact fW _
   ·exact p5 k (by omega) k2
  ·rw [←hv2];exact p6 k (by omega) k2
 ·skip;obtain ⟨p1,p2,p3,p4,p5,p6⟩:=id hpt;have hei':l2.getD a 0<l2.getD i 0:=hei.resolve_left (by omega);have hej':l2.getD j 0≤l2.getD a 0:=hej.resolve_left hij;have hps:=aD8 (by omega) hpt (by omega) hei' hej';have q1:=bH d l2 i (by omega);have q2:=bH d l2 j (by omega);obtain ⟨y2,q3⟩:=tH d l2 i j (d (l2.getD j 0)) (by omega);have wj:IntKind.i64.wrap ((j:Int)-1)=((j-1:Nat):Int):=by rw [aJ (by omega) (by omega)];omega
  simp only [go_sem,aH,TG,MG,cv,aD,o8 (Y6 hij),aL,mA,show i<l2.length by omega,show j<l2.length by omega,q1,q2,q3,jM,wj,aG (show i<9223372036854775807 by omega)];have hpsw:PR a b l2 (iF l2 i j):=gJ (by omega) (by omega) (by omega) (by omega) (by omega);exact ⟨j-1+1-(i+1),by omega,i+1,j-1,_,rfl,hp2.trans hpsw,by rw [hps.2.2,hv2],hps.2.1,rfl⟩
end
end
end Hud
