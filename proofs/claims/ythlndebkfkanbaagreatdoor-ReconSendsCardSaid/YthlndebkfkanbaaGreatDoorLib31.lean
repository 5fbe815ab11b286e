import Derived.Test.YthlndebkfkanbaaGreatDoorLib30
set_option linter.all false
namespace Hud
open Go
section
section
variable {G:Nat→Option (List AV)} {g:PGM} {d:Nat→Id} {f N:Nat}
set_option maxHeartbeats 4000000
def Oc (hC:oS G g d f N) (l:List Nat) (hv:VL N l) (a b:Nat) (hab:a+12<b) (hb:b≤l.length) (hl:l.length≤1000000000) (hpre:PU a b l) :
  aC PQ G cO [.own 0,.v (.int .i64 (a:Int)),.v (.int .i64 (b:Int)),cv f] (aH g d l) (FJ g d λr l'=>∃ f:Bool,r=.v (.bool f)∧PR a b l l'∧(f=true→SR a b l')):=by
 refine aF kJ (by decide) ?_;simp only [go_sem,aH,TG,MG,cv,aD,aG (show a<9223372036854775807 by omega)];refine bU (λn s=>∃ (m i:Nat) (l1:List Nat),n=5-m∧m≤5∧a<i∧i≤b∧PR a b l l1∧SR a i l1∧s=⟨4,[(0,.own 0),(1,.v (.int .i64 (a:Int))),(2,.v (.int .i64 (b:Int))),(3,cv f),(9,.v (.int .i64 ((i:Nat):Int))),(10,.v (.int .i64 ((m:Nat):Int)))],(aH g d l1)⟩) 5
  ⟨0,a+1,l,rfl,by omega,by omega,by omega,PR.refl a b l,SR.small (by omega),by simp only [go_sem,aH,TG,MG,cv,aD]⟩ ?_
 rintro n s ⟨m,i,l1,hn,hm5,hai,hib,hp,hs,rfl⟩;have hl1:=hp.1;have wm:=aG (show m<9223372036854775807 by omega);by_cases hm:m<5
 ·simp only [go_sem,aH,TG,MG,cv,aD,show decide ((m:Int)<5)=true from decide_eq_true (by omega)];refine eF (λs=>∃ i:Nat,a<i∧i≤b∧SR a i l1∧(i=b∨l1.getD i 0<l1.getD (i-1) 0)∧s=⟨4,[(0,.own 0),(1,.v (.int .i64 (a:Int))),(2,.v (.int .i64 (b:Int))),(3,cv f),(9,.v (.int .i64 ((i:Nat):Int))),(10,.v (.int .i64 ((m:Nat):Int)))],(aH g d l1)⟩) ?_ ?_
  ·refine bU (λn s=>∃ i:Nat,n=b-i∧a<i∧i≤b∧SR a i l1∧s=⟨4,[(0,.own 0),(1,.v (.int .i64 (a:Int))),(2,.v (.int .i64 (b:Int))),(3,cv f),(9,.v (.int .i64 ((i:Nat):Int))),(10,.v (.int .i64 ((m:Nat):Int)))],(aH g d l1)⟩) (b-i)
    ⟨i,rfl,hai,hib,hs,by simp only [go_sem,aH,TG,MG,cv,aD]⟩ ?_
   clear hs hib hai hn;rintro n s ⟨i,hn,hai,hib,hs,rfl⟩;by_cases hi:i<b
   ·have wi:IntKind.i64.wrap ((i:Int)-1)=((i-1:Nat):Int):=by rw [aJ (by omega) (by omega)];omega
    have g1:=bH d l1 i (by omega);have g2:=bH d l1 (i-1) (by omega);simp only [go_sem,aH,TG,MG,cv,aD,aT hi,aL,show i<l1.length by omega,show i-1<l1.length by omega,wi,g1,g2];refine iQ hC (VL.get (VL.pr hp hv) (by omega)) (VL.get (VL.pr hp hv) (by omega)) ?_;simp only [go_sem,aH,TG,MG,cv,aD,aT hi,aL,show i<l1.length by omega,show i-1<l1.length by omega,wi,g1,g2];refine aM (λhc=>?_) (λhc=>?_)
    ·have hlt:l1.getD (i-1) 0≤l1.getD i 0:=by simpa using hc
     simp only [go_sem,aH,TG,MG,cv,aD,aG (show i<9223372036854775807 by omega)];exact ⟨b-(i+1),by omega,i+1,rfl,by omega,by omega,Di (fW _) (Lx hs) (.inr hlt),rfl⟩
    ·have hlt:l1.getD i 0<l1.getD (i-1) 0:=by simpa using hc
     simp only [go_sem,aH,TG,MG,cv,aD];exact ⟨i,hai,hib,hs,.inr hlt,rfl⟩
   ·simp only [go_sem,aH,TG,MG,cv,aD,aX hi];exact ⟨i,hai,hib,hs,.inl (by omega),rfl⟩
  clear hs hib hai;rintro s ⟨i,hai,hib,hs,he,rfl⟩;simp only [go_sem,aH,TG,MG,cv,aD];by_cases hi:i=b
  ·simp only [go_sem,aH,TG,MG,cv,aD,hi,beq_self_eq_true];exact ⟨l1,⟨true,rfl,hp,λ_=>by rw [hi] at hs;exact hs⟩,rfl⟩
  ·have he':=he.resolve_left hi;have hne:(((i:Nat):Int)==(b:Int))=false:=by simp;omega
   have wba:IntKind.i64.wrap ((b:Int)-(a:Int))=((b-a:Nat):Int):=by rw [aJ (by omega) (by omega)];omega
   simp only [go_sem,aH,TG,MG,cv,aD,hne,wba];by_cases h50:b-a<50
   ·simp only [go_sem,aH,TG,MG,cv,aD,show decide (((b-a:Nat):Int)<50)=true from decide_eq_true (by omega)];exact ⟨l1,⟨false,rfl,hp,λh=>by cases h⟩,rfl⟩
   ·simp only [go_sem,aH,TG,MG,cv,aD,show decide (((b-a:Nat):Int)<50)=false from decide_eq_false (by omega)];have wi:IntKind.i64.wrap ((i:Int)-1)=((i-1:Nat):Int):=by rw [aJ (by omega) (by omega)];omega
    have wi1:=aG (show i<9223372036854775807 by omega);have wia:IntKind.i64.wrap ((i:Int)-(a:Int))=((i-a:Nat):Int):=by rw [aJ (by omega) (by omega)];omega
    have wbi:IntKind.i64.wrap ((b:Int)-(i:Int))=((b-i:Nat):Int):=by rw [aJ (by omega) (by omega)];omega
    have q1:=bH d l1 (i) (by omega);have q2:=bH d l1 (i-1) (by omega);obtain ⟨yy,q3⟩:=tH d l1 (i) (i-1) (d (l1.getD (i-1) 0)) (by omega);simp only [go_sem,aH,TG,MG,cv,aD,aL,mA,show i<l1.length by omega,show i-1<l1.length by omega,q1,q2,q3,jM,wi,wia];have hsw:PR (i-1) (i+1) l1 (iF l1 i (i-1)):=gJ (by omega) (by omega) (by omega) (by omega) (by omega);have hp2:PR a b l (iF l1 i (i-1)):=hp.trans (hsw.wide (by omega) (by omega));have hs2:SR a (i-1) (iF l1 i (i-1)):=SR.outside (λp q h1 h2 h3=>hs p q h1 h2 (by omega)) hsw (.inl (by omega));generalize iF l1 i (i-1)=l2 at hp2 hs2;clear q1 q2 q3 hsw;have hl2:=hp2.1;by_cases hia:2≤i-a
    ·simp only [go_sem,aH,TG,MG,cv,aD,show decide (((i-a:Nat):Int)≥2)=true from decide_eq_true (by omega),wi];refine eF (λs=>∃ l3:List Nat,PR a b l l3∧SR a i l3∧s=⟨4,[(0,.own 0),(1,.v (.int .i64 (a:Int))),(2,.v (.int .i64 (b:Int))),(3,cv f),(9,.v (.int .i64 ((i:Nat):Int))),(10,.v (.int .i64 ((m:Nat):Int)))],(aH g d l3)⟩) ?_ ?_
     ·refine bU (λj s=>∃ l3:List Nat,a≤j∧j≤i-1∧PR a b l l3∧(∀ p q,a≤p→p<q→q≤i-1→q≠j→l3.getD p 0≤l3.getD q 0)∧s=⟨4,[(0,.own 0),(1,.v (.int .i64 (a:Int))),(2,.v (.int .i64 (b:Int))),(3,cv f),(9,.v (.int .i64 ((i:Nat):Int))),(10,.v (.int .i64 ((m:Nat):Int))),(11,.v (.int .i64 (j:Int)))],(aH g d l3)⟩) (i-1)
       ⟨l2,by omega,fW _,hp2,Lx hs2,by simp only [go_sem,aH,TG,MG,cv,aD]⟩ ?_
      rintro j s ⟨l3,haj,hji,hp3,hs3,rfl⟩;have hl3:=hp3.1;have hpre3:=hpre.pr hp3 hb;by_cases hj:1≤j
      ·have wj:IntKind.i64.wrap ((j:Int)-1)=((j-1:Nat):Int):=by rw [aJ (by omega) (by omega)];omega
       have g1:=bH d l3 j (by omega);have g2:=bH d l3 (j-1) (by omega);simp only [go_sem,aH,TG,MG,cv,aD,show decide ((j:Int)≥1)=true from decide_eq_true (by omega),aL,show j<l3.length by omega,show j-1<l3.length by omega,wj,g1,g2];refine iQ hC (VL.get (VL.pr hp3 hv) (by omega)) (VL.get (VL.pr hp3 hv) (by omega)) ?_;simp only [go_sem,aH,TG,MG,cv,aD,aL,show j<l3.length by omega,show j-1<l3.length by omega,wj,g1,g2];refine aM (λhc=>?_) (λhc=>?_)
       ·have hlt:l3.getD (j-1) 0≤l3.getD j 0:=by simpa using hc
        simp only [go_sem,aH,TG,MG,cv,aD];have:=Di hji hs3 (.inr hlt);rw [show i-1+1=i by omega] at this;exact ⟨l3,hp3,this,rfl⟩
       ·have hlt:l3.getD j 0<l3.getD (j-1) 0:=by simpa using hc
        have haj':a<j:=by
         rcases Nat.eq_or_lt_of_le haj with e | e
         ·subst e;rcases hpre3 with h0 | h0
          ·omega
          ·have:=h0 a (fW _) (by omega);omega
         ·exact e
        simp only [go_sem,aH,TG,MG,cv,aD];have q1:=bH d l3 (j) (by omega);have q2:=bH d l3 (j-1) (by omega);obtain ⟨yy,q3⟩:=tH d l3 (j) (j-1) (d (l3.getD (j-1) 0)) (by omega);simp only [go_sem,aH,TG,MG,cv,aD,aL,mA,show j<l3.length by omega,show j-1<l3.length by omega,q1,q2,q3,jM,wj];exact ⟨j-1,by omega,_,by omega,by omega,hp3.trans (gJ (by omega) (by omega) (by omega) (by omega) (by omega)),Rl (by omega) haj' hji hs3 hlt,rfl⟩
      ·simp only [go_sem,aH,TG,MG,cv,aD,show decide ((j:Int)≥1)=false from decide_eq_false (by omega)];have:=Di hji hs3 (.inl (by omega));rw [show i-1+1=i by omega] at this;exact ⟨l3,hp3,this,rfl⟩
     rintro s ⟨l3,hp3,hs3,rfl⟩;have hl3:=hp3.1;simp only [go_sem,aH,TG,MG,cv,aD];by_cases hr:2≤b-i
     ·simp only [go_sem,aH,TG,MG,cv,aD,wbi,show decide (((b-i:Nat):Int)≥2)=true from decide_eq_true (by omega),wi1];refine bU (λn s=>∃ (j:Nat) (l4:List Nat),n=b-j∧i<j∧j≤b∧PR a b l l4∧SR a i l4∧s=⟨4,[(0,.own 0),(1,.v (.int .i64 (a:Int))),(2,.v (.int .i64 (b:Int))),(3,cv f),(9,.v (.int .i64 ((i:Nat):Int))),(10,.v (.int .i64 ((m:Nat):Int))),(12,.v (.int .i64 (j:Int)))],(aH g d l4)⟩) (b-(i+1))
       ⟨i+1,l3,rfl,by omega,by omega,hp3,hs3,by simp only [go_sem,aH,TG,MG,cv,aD]⟩ ?_
      rintro n s ⟨j,l4,hn,hij,hjb,hp4,hs4,rfl⟩;have hl4:=hp4.1;by_cases hj:j<b
      ·have wj:IntKind.i64.wrap ((j:Int)-1)=((j-1:Nat):Int):=by rw [aJ (by omega) (by omega)];omega
       have g1:=bH d l4 j (by omega);have g2:=bH d l4 (j-1) (by omega);simp only [go_sem,aH,TG,MG,cv,aD,aT hj,aL,show j<l4.length by omega,show j-1<l4.length by omega,wj,g1,g2];refine iQ hC (VL.get (VL.pr hp4 hv) (by omega)) (VL.get (VL.pr hp4 hv) (by omega)) ?_;simp only [go_sem,aH,TG,MG,cv,aD,aT hj,aL,show j<l4.length by omega,show j-1<l4.length by omega,wj,g1,g2];refine aM (λhc=>?_) (λhc=>?_)
       ·simp only [go_sem,aH,TG,MG,cv,aD,wm];exact ⟨5-(m+1),by omega,m+1,i,l4,rfl,by omega,hai,by omega,hp4,hs4,rfl⟩
       ·simp only [go_sem,aH,TG,MG,cv,aD];have q1:=bH d l4 (j) (by omega);have q2:=bH d l4 (j-1) (by omega);obtain ⟨yy,q3⟩:=tH d l4 (j) (j-1) (d (l4.getD (j-1) 0)) (by omega);simp only [go_sem,aH,TG,MG,cv,aD,aL,mA,show j<l4.length by omega,show j-1<l4.length by omega,q1,q2,q3,jM,wj,aG (show j<9223372036854775807 by omega)];have hsw:PR (j-1) (j+1) l4 (iF l4 j (j-1)):=gJ (by omega) (by omega) (by omega) (by omega) (by omega);exact ⟨b-(j+1),by omega,j+1,_,rfl,by omega,by omega,hp4.trans (hsw.wide (by omega) (by omega)),hs4.outside hsw (.inl (by omega)),rfl⟩
      ·simp only [go_sem,aH,TG,MG,cv,aD,aX hj,wm];exact ⟨5-(m+1),by omega,m+1,i,l4,rfl,by omega,hai,by omega,hp4,hs4,rfl⟩
     ·simp only [go_sem,aH,TG,MG,cv,aD,wbi,show decide (((b-i:Nat):Int)≥2)=false from decide_eq_false (by omega),wm];exact ⟨5-(m+1),by omega,m+1,i,l3,rfl,by omega,hai,by omega,hp3,hs3,rfl⟩
    ·simp only [go_sem,aH,TG,MG,cv,aD,show decide (((i-a:Nat):Int)≥2)=false from decide_eq_false (by omega)];have hp3:=hp2;have hs3:SR a i l2:=SR.small (by omega);by_cases hr:2≤b-i
     ·simp only [go_sem,aH,TG,MG,cv,aD,wbi,show decide (((b-i:Nat):Int)≥2)=true from decide_eq_true (by omega),wi1];refine bU (λn s=>∃ (j:Nat) (l4:List Nat),n=b-j∧i<j∧j≤b∧PR a b l l4∧SR a i l4∧s=⟨4,[(0,.own 0),(1,.v (.int .i64 (a:Int))),(2,.v (.int .i64 (b:Int))),(3,cv f),(9,.v (.int .i64 ((i:Nat):Int))),(10,.v (.int .i64 ((m:Nat):Int))),(12,.v (.int .i64 (j:Int)))],(aH g d l4)⟩) (b-(i+1))
       ⟨i+1,l2,rfl,by omega,by omega,hp3,hs3,by simp only [go_sem,aH,TG,MG,cv,aD]⟩ ?_
      rintro n s ⟨j,l4,hn,hij,hjb,hp4,hs4,rfl⟩;have hl4:=hp4.1;by_cases hj:j<b
      ·have wj:IntKind.i64.wrap ((j:Int)-1)=((j-1:Nat):Int):=by rw [aJ (by omega) (by omega)];omega
       have g1:=bH d l4 j (by omega);have g2:=bH d l4 (j-1) (by omega);simp only [go_sem,aH,TG,MG,cv,aD,aT hj,aL,show j<l4.length by omega,show j-1<l4.length by omega,wj,g1,g2];refine iQ hC (VL.get (VL.pr hp4 hv) (by omega)) (VL.get (VL.pr hp4 hv) (by omega)) ?_;simp only [go_sem,aH,TG,MG,cv,aD,aT hj,aL,show j<l4.length by omega,show j-1<l4.length by omega,wj,g1,g2];refine aM (λhc=>?_) (λhc=>?_)
       ·simp only [go_sem,aH,TG,MG,cv,aD,wm];exact ⟨5-(m+1),by omega,m+1,i,l4,rfl,by omega,hai,by omega,hp4,hs4,rfl⟩
       ·simp only [go_sem,aH,TG,MG,cv,aD];have q1:=bH d l4 (j) (by omega);have q2:=bH d l4 (j-1) (by omega);obtain ⟨yy,q3⟩:=tH d l4 (j) (j-1) (d (l4.getD (j-1) 0)) (by omega);simp only [go_sem,aH,TG,MG,cv,aD,aL,mA,show j<l4.length by omega,show j-1<l4.length by omega,q1,q2,q3,jM,wj,aG (show j<9223372036854775807 by omega)];have hsw:PR (j-1) (j+1) l4 (iF l4 j (j-1)):=gJ (by omega) (by omega) (by omega) (by omega) (by omega);exact ⟨b-(j+1),by omega,j+1,_,rfl,by omega,by omega,hp4.trans (hsw.wide (by omega) (by omega)),hs4.outside hsw (.inl (by omega)),rfl⟩
      ·simp only [go_sem,aH,TG,MG,cv,aD,aX hj,wm];exact ⟨5-(m+1),by omega,m+1,i,l4,rfl,by omega,hai,by omega,hp4,hs4,rfl⟩
     ·simp only [go_sem,aH,TG,MG,cv,aD,wbi,show decide (((b-i:Nat):Int)≥2)=false from decide_eq_false (by omega),wm];exact ⟨5-(m+1),by omega,m+1,i,l2,rfl,by omega,hai,by omega,hp3,hs3,rfl⟩
 ·simp only [go_sem,aH,TG,MG,cv,aD,show decide ((m:Int)<5)=false from decide_eq_false (by omega)];exact ⟨l1,⟨false,rfl,hp,λh=>by cases h⟩,rfl⟩
end
end
section
section
variable {G:Nat→Option (List AV)} {g:PGM} {d:Nat→Id} {f N:Nat}
set_option maxHeartbeats 20000000
abbrev pkS (g:PGM) (d:Nat→Id) (f:Nat) (a b lim:Nat) (w8 w9:Bool) (l:List Nat):St:=⟨4,[(0,.own 0),(1,.v (.int .i64 (a:Int))),(2,.v (.int .i64 (b:Int))),(3,.v (.int .i64 (lim:Int))),(4,cv f),(10,.v (.bool w8)),(11,.v (.bool w9))],(aH g d l)⟩
def Ui (G:Nat→Option (List AV)) (g:PGM) (d:Nat→Id) (f N:Nat) (n:Nat):Prop:=∀ (l:List Nat),VL N l→∀ (a b lim:Nat),b-a=n→a≤b→b≤l.length→l.length≤60000→lim≤1000000000→PU a b l→aC PQ G aY [.own 0,.v (.int .i64 (a:Int)),.v (.int .i64 (b:Int)),.v (.int .i64 (lim:Int)),cv f] (aH g d l) (FJ g d λ_ l'=>PR a b l l'∧SR a b l')
def PkN (g:PGM) (d:Nat→Id) (f:Nat) (a b lim2:Nat) (l4:List Nat) (Q:St→Prop):Prop:=∀ (a' b':Nat) (v8 v9:Bool) (l6:List Nat) (s:St),b'-a'<b-a→a≤a'→a'≤b'→b'≤b→PR a b l4 l6→PU a' b' l6→(∀ l7,PR a' b' l6 l7→SR a' b' l7→SR a b l7)→yR [] s=pkS g d f a' b' lim2 v8 v9 l6→Q s
def aBp:HC:=.seq (.seq (.reg [⟨some 106,.mov (.tmp 0),none⟩,⟨some 107,.mov (.tmp 1),none⟩,⟨some 108,.mov (.tmp 2),none⟩,⟨some 109,.mov (.tmp 13),none⟩,⟨some 110,.mov (.tmp 4),none⟩,⟨some 111,.call (.func cY) [.tmp 106,.tmp 107,.tmp 108,.tmp 109,.tmp 110],none⟩,⟨some 105,.mov (.tmp 111),none⟩,⟨some 112,.ext (.tmp 105) 0,none⟩,⟨some 113,.ext (.tmp 105) 1,none⟩,⟨some 16,.mov (.tmp 112),none⟩,⟨some 17,.mov (.tmp 113),none⟩]) (.kill [13,113,112,105,111,110,109,108,107,106])) (.seq (.seq (.reg [⟨some 114,.mov (.tmp 17),none⟩,⟨some 11,.mov (.tmp 114),none⟩]) (.kill [17,114])) (.seq (.seq (.reg [⟨some 115,.mov (.tmp 16),none⟩,⟨some 116,.mov (.tmp 1),none⟩,⟨some 117,.bin .sub (.tmp 115) (.tmp 116),none⟩,⟨some 118,.mov (.tmp 2),none⟩,⟨some 119,.mov (.tmp 16),none⟩,⟨some 120,.bin .sub (.tmp 118) (.tmp 119),none⟩,⟨some 18,.mov (.tmp 117),none⟩,⟨some 19,.mov (.tmp 120),none⟩]) (.kill [120,119,118,117,116,115])) (.seq (.seq (.reg [⟨some 121,.mov (.tmp 12),none⟩,⟨some 122,.bin .quo (.tmp 121) (.const (.int .i64 8)),none⟩,⟨some 20,.mov (.tmp 122),none⟩]) (.kill [12,122,121])) (.seq (.seq (.reg [⟨some 123,.mov (.tmp 18),none⟩,⟨some 124,.mov (.tmp 19),none⟩,⟨some 125,.bin .lss (.tmp 123) (.tmp 124),none⟩]) (.kill [124,123])) (.cond (.tmp 125) (.seq (.kill [19,125]) (.seq (.seq (.reg [⟨some 126,.mov (.tmp 18),none⟩,⟨some 127,.mov (.tmp 20),none⟩,⟨some 128,.bin .geq (.tmp 126) (.tmp 127),none⟩,⟨some 10,.mov (.tmp 128),none⟩]) (.kill [18,20,128,127,126])) (.seq (.seq (.reg [⟨some 129,.mov (.tmp 0),none⟩,⟨some 130,.mov (.tmp 1),none⟩,⟨some 131,.mov (.tmp 16),none⟩,⟨some 132,.mov (.tmp 3),none⟩,⟨some 133,.mov (.tmp 4),none⟩,⟨some 134,.call (.func aY) [.tmp 129,.tmp 130,.tmp 131,.tmp 132,.tmp 133],none⟩]) (.kill [1,134,133,132,131,130,129])) (.seq (.reg [⟨some 135,.mov (.tmp 16),none⟩,⟨some 136,.bin .add (.tmp 135) (.const (.int .i64 1)),none⟩,⟨some 1,.mov (.tmp 136),none⟩]) (.kill [16,136,135]))))) (.seq (.kill [18,125]) (.seq (.seq (.reg [⟨some 137,.mov (.tmp 19),none⟩,⟨some 138,.mov (.tmp 20),none⟩,⟨some 139,.bin .geq (.tmp 137) (.tmp 138),none⟩,⟨some 10,.mov (.tmp 139),none⟩]) (.kill [19,20,139,138,137])) (.seq (.seq (.reg [⟨some 140,.mov (.tmp 0),none⟩,⟨some 141,.mov (.tmp 16),none⟩,⟨some 142,.bin .add (.tmp 141) (.const (.int .i64 1)),none⟩,⟨some 143,.mov (.tmp 2),none⟩,⟨some 144,.mov (.tmp 3),none⟩,⟨some 145,.mov (.tmp 4),none⟩,⟨some 146,.call (.func aY) [.tmp 140,.tmp 142,.tmp 143,.tmp 144,.tmp 145],none⟩]) (.kill [2,146,145,144,143,142,141,140])) (.seq (.reg [⟨some 147,.mov (.tmp 16),none⟩,⟨some 2,.mov (.tmp 147),none⟩]) (.kill [16,147]))))))))))
def Sj (hC:oS G g d f N) (n:Nat) (ih:∀ m,m<n→Ui G g d f N m) {a b p lim2:Nat} {l4:List Nat} {Q:Ex→St→Prop} (hn:b-a=n) (hap:a≤p) (hpb:p<b) (hv4:VL N l4) (hb:b≤l4.length) (hl4:l4.length≤60000) (hlim2:lim2≤1000000000) (hpre:PU a b l4) (hQ:PkN g d f a b lim2 l4 (Q .normal)) :
  @cX PQ G aBp ⟨4,[(13,.v (.int .i64 (p:Int))),(3,.v (.int .i64 (lim2:Int))),(12,.v (.int .i64 ((b-a:Nat):Int))),(0,.own 0),(1,.v (.int .i64 (a:Int))),(2,.v (.int .i64 (b:Int))),(4,cv f)],(aH g d l4)⟩ ⟨Q⟩:=by
 unfold aBp;simp only [go_sem,aH,TG,MG,cv,aD];refine aI [0,1,2,3] (aA _) (by decide) (by simp [aH,TG]) (by simp only [go_sem,aH,TG,MG,cv,aD]) (by simp only [go_sem,aH,TG,MG,cv,aD]) (aBn hC l4 hv4 a b p hap hpb hb (by omega)) ?_;rintro r T' ⟨l5,⟨j,fb,hr,hp5,hpp⟩,hT⟩;subst hr;subst hT;have hl5:=hp5.1;have hj1:=hpp.1;have hj2:=hpp.2.1;have wl:IntKind.i64.wrap ((j:Int)-(a:Int))=((j-a:Nat):Int):=by rw [aJ (by omega) (by omega)];omega
 have wr:IntKind.i64.wrap ((b:Int)-(j:Int))=((b-j:Nat):Int):=by rw [aJ (by omega) (by omega)];omega
 have hpre5:PU a b l5:=hpre.pr hp5 hb;simp only [go_sem,aH,TG,MG,cv,aD,wl,wr,aGO (b-a) (by omega)];by_cases hlr:j-a<b-j
 ·simp only [go_sem,aH,TG,MG,cv,aD,aT hlr];refine aI [0,1,2,3] (aA _) (by decide) (by simp [aH,TG]) (by simp only [go_sem,aH,TG,MG,cv,aD]) (by simp only [go_sem,aH,TG,MG,cv,aD]) (ih (j-a) (by omega) l5 (VL.pr hp5 hv4) a j lim2 rfl hj1 (by omega) (by omega) hlim2 (hpre5.sub (by omega))) ?_;rintro r T' ⟨l6,⟨hp6,hs6⟩,hT⟩;subst hT;have hl6:=hp6.1;have hpp6:=AE hpp (by omega) hp6;simp only [go_sem,aH,TG,MG,cv,aD,aG (show j<9223372036854775807 by omega)];refine hQ (j+1) b (decide (((j-a:Nat):Int)≥(((b-a)/8:Nat):Int))) fb l6 _ (by omega) (by omega) (by omega) (by omega) (hp5.trans (hp6.wide (fW _) (by omega))) (CJ hpp6) (λl7 h7 h8=>AF (wT hpp6 (by omega) h7) (hs6.outside h7 (.inl (by omega))) h8) ?_;simp only [go_sem,aH,TG,MG,cv,aD,pkS]
 ·simp only [go_sem,aH,TG,MG,cv,aD,aX hlr,aG (show j<9223372036854775807 by omega)];refine aI [0,1,2,3] (aA _) (by decide) (by simp [aH,TG]) (by simp only [go_sem,aH,TG,MG,cv,aD]) (by simp only [go_sem,aH,TG,MG,cv,aD]) (ih (b-(j+1)) (by omega) l5 (VL.pr hp5 hv4) (j+1) b lim2 rfl (by omega) (by omega) (by omega) hlim2 (CJ hpp)) ?_;rintro r T' ⟨l6,⟨hp6,hs6⟩,hT⟩;subst hT;have hl6:=hp6.1;have hpp6:=wT hpp (by omega) hp6;simp only [go_sem,aH,TG,MG,cv,aD];refine hQ a j (decide (((b-j:Nat):Int)≥(((b-a)/8:Nat):Int))) fb l6 _ (by omega) (by omega) (by omega) (by omega) (hp5.trans (hp6.wide (by omega) (fW _))) ((hpre5.pr (hp6.wide (by omega) (fW _)) (by omega)).sub (by omega)) (λl7 h7 h8=>AF (AE hpp6 (by omega) h7) h8 (hs6.outside h7 (.inr (by omega)))) ?_;simp only [go_sem,aH,TG,MG,cv,aD,pkS]
def Sk (hC:oS G g d f N) (n:Nat) (ih:∀ m,m<n→Ui G g d f N m) {a b p lim2:Nat} {l4:List Nat} {Q:Ex→St→Prop} (hn:b-a=n) (hap:a≤p) (hpb:p<b) (hv4:VL N l4) (hb:b≤l4.length) (hl4:l4.length≤60000) (hlim2:lim2≤1000000000) (hpre:PU a b l4) (hQ:PkN g d f a b lim2 l4 (Q .normal)) :
  @cX PQ G aBp ⟨4,[(13,.v (.int .i64 (p:Int))),(12,.v (.int .i64 ((b-a:Nat):Int))),(0,.own 0),(1,.v (.int .i64 (a:Int))),(2,.v (.int .i64 (b:Int))),(3,.v (.int .i64 (lim2:Int))),(4,cv f)],(aH g d l4)⟩ ⟨Q⟩:=by
 unfold aBp;simp only [go_sem,aH,TG,MG,cv,aD];refine aI [0,1,2,3] (aA _) (by decide) (by simp [aH,TG]) (by simp only [go_sem,aH,TG,MG,cv,aD]) (by simp only [go_sem,aH,TG,MG,cv,aD]) (aBn hC l4 hv4 a b p hap hpb hb (by omega)) ?_;rintro r T' ⟨l5,⟨j,fb,hr,hp5,hpp⟩,hT⟩;subst hr;subst hT;have hl5:=hp5.1;have hj1:=hpp.1;have hj2:=hpp.2.1;have wl:IntKind.i64.wrap ((j:Int)-(a:Int))=((j-a:Nat):Int):=by rw [aJ (by omega) (by omega)];omega
 have wr:IntKind.i64.wrap ((b:Int)-(j:Int))=((b-j:Nat):Int):=by rw [aJ (by omega) (by omega)];omega
 have hpre5:PU a b l5:=hpre.pr hp5 hb;simp only [go_sem,aH,TG,MG,cv,aD,wl,wr,aGO (b-a) (by omega)];by_cases hlr:j-a<b-j
 ·simp only [go_sem,aH,TG,MG,cv,aD,aT hlr];refine aI [0,1,2,3] (aA _) (by decide) (by simp [aH,TG]) (by simp only [go_sem,aH,TG,MG,cv,aD]) (by simp only [go_sem,aH,TG,MG,cv,aD]) (ih (j-a) (by omega) l5 (VL.pr hp5 hv4) a j lim2 rfl hj1 (by omega) (by omega) hlim2 (hpre5.sub (by omega))) ?_;rintro r T' ⟨l6,⟨hp6,hs6⟩,hT⟩;subst hT;have hl6:=hp6.1;have hpp6:=AE hpp (by omega) hp6;simp only [go_sem,aH,TG,MG,cv,aD,aG (show j<9223372036854775807 by omega)];refine hQ (j+1) b (decide (((j-a:Nat):Int)≥(((b-a)/8:Nat):Int))) fb l6 _ (by omega) (by omega) (by omega) (by omega) (hp5.trans (hp6.wide (fW _) (by omega))) (CJ hpp6) (λl7 h7 h8=>AF (wT hpp6 (by omega) h7) (hs6.outside h7 (.inl (by omega))) h8) ?_;simp only [go_sem,aH,TG,MG,cv,aD,pkS]
 ·simp only [go_sem,aH,TG,MG,cv,aD,aX hlr,aG (show j<9223372036854775807 by omega)];refine aI [0,1,2,3] (aA _) (by decide) (by simp [aH,TG]) (by simp only [go_sem,aH,TG,MG,cv,aD]) (by simp only [go_sem,aH,TG,MG,cv,aD]) (ih (b-(j+1)) (by omega) l5 (VL.pr hp5 hv4) (j+1) b lim2 rfl (by omega) (by omega) (by omega) hlim2 (CJ hpp)) ?_;rintro r T' ⟨l6,⟨hp6,hs6⟩,hT⟩;subst hT;have hl6:=hp6.1;have hpp6:=wT hpp (by omega) hp6;simp only [go_sem,aH,TG,MG,cv,aD];refine hQ a j (decide (((b-j:Nat):Int)≥(((b-a)/8:Nat):Int))) fb l6 _ (by omega) (by omega) (by omega) (by omega) (hp5.trans (hp6.wide (by omega) (fW _))) ((hpre5.pr (hp6.wide (by omega) (fW _)) (by omega)).sub (by omega)) (λl7 h7 h8=>AF (AE hpp6 (by omega) h7) h8 (hs6.outside h7 (.inr (by omega)))) ?_;simp only [go_sem,aH,TG,MG,cv,aD,pkS]
def aDa:HC:=.seq (.seq (.seq (.regd (.q ⟨some 81,.mov (.tmp 1),none⟩ (.q ⟨some 82,.bin .gtr (.tmp 81) (.const (.int .i64 0)),none⟩ (.q ⟨some 83,.mov (.tmp 82),none⟩ (.q ⟨some 84,.mov (.tmp 4),some (83,true)⟩ (.q ⟨some 85,.mov (.tmp 0),some (83,true)⟩ (.q ⟨some 86,.mov (.tmp 1),some (83,true)⟩ (.q ⟨some 87,.bin .sub (.tmp 86) (.const (.int .i64 1)),some (83,true)⟩ (.q ⟨some 88,.iad (.tmp 85) (.tmp 87) 3,some (83,true)⟩ (.q ⟨some 89,.ld (some 3) (.tmp 88),some (83,true)⟩ (.q ⟨some 90,.mov (.tmp 0),some (83,true)⟩ (.q ⟨some 91,.mov (.tmp 13),some (83,true)⟩ (.q ⟨some 92,.iad (.tmp 90) (.tmp 91) 3,some (83,true)⟩ (.q ⟨some 93,.ld (some 3) (.tmp 92),some (83,true)⟩ (.alt ⟨some 94,.call (.tmp 84) [.tmp 89,.tmp 93],some (83,true)⟩ [] (.q ⟨some 95,.bin .lss (.tmp 94) (.const (.int .i64 0)),some (83,true)⟩ (.q ⟨some 96,.un .not (.tmp 95),some (83,true)⟩ (.q ⟨some 97,.pick (.tmp 83) (.tmp 96) (.const (.bool false)),none⟩ (.done false)))) .no))))))))))))))) (.kill [96,95,94,93,92,91,90,89,88,87,86,85,84,83,82,81])) (.cond (.tmp 97) (.seq (.kill [12,97]) (.seq (.seq (.reg [⟨some 98,.mov (.tmp 0),none⟩,⟨some 99,.mov (.tmp 1),none⟩,⟨some 100,.mov (.tmp 2),none⟩,⟨some 101,.mov (.tmp 13),none⟩,⟨some 102,.mov (.tmp 4),none⟩,⟨some 103,.call (.func cC) [.tmp 98,.tmp 99,.tmp 100,.tmp 101,.tmp 102],none⟩,⟨some 15,.mov (.tmp 103),none⟩]) (.kill [1,13,103,102,101,100,99,98])) (.seq (.seq (.reg [⟨some 104,.mov (.tmp 15),none⟩,⟨some 1,.mov (.tmp 104),none⟩]) (.kill [15,104])) (.exit 1)))) (.seq (.kill [11,10,97]) .skip))) (aBp)
def aBq (hC:oS G g d f N) (n:Nat) (ih:∀ m,m<n→Ui G g d f N m) {a b p lim2:Nat} {w8 w9:Bool} {l4:List Nat} {Q:Ex→St→Prop} (hn:b-a=n) (hap:a≤p) (hpb:p<b) (hv4:VL N l4) (hb:b≤l4.length) (hl4:l4.length≤60000) (hlim2:lim2≤1000000000) (hpre:PU a b l4) (hQ:PkN g d f a b lim2 l4 (Q .normal)) (hQ1:PkN g d f a b lim2 l4 (Q (.exit 1))) :
  @cX PQ G aDa ⟨4,[(13,.v (.int .i64 (p:Int))),(3,.v (.int .i64 (lim2:Int))),(12,.v (.int .i64 ((b-a:Nat):Int))),(0,.own 0),(1,.v (.int .i64 (a:Int))),(2,.v (.int .i64 (b:Int))),(4,cv f),(10,.v (.bool w8)),(11,.v (.bool w9))],(aH g d l4)⟩ ⟨Q⟩:=by
 unfold aDa;by_cases ha0:a=0
 ·have e0:decide ((a:Int)>0)=false:=decide_eq_false (by omega);simp only [go_sem,aH,TG,MG,cv,aD,e0];exact Sj hC n ih hn hap hpb hv4 hb hl4 hlim2 hpre hQ
 ·have e0:decide ((a:Int)>0)=true:=decide_eq_true (by omega);have va:IntKind.i64.wrap ((a:Int)-1)=((a-1:Nat):Int):=by rw [aJ (by omega) (by omega)];omega
  have g1:=bH d l4 (a-1) (by omega);have g2:=bH d l4 p (by omega);simp only [go_sem,aH,TG,MG,cv,aD,e0,va,aL,show a-1<l4.length by omega,show p<l4.length by omega,g1,g2];refine iQ hC (VL.get hv4 (by omega)) (VL.get hv4 (by omega)) ?_;simp only [go_sem,aH,TG,MG,cv,aD,va,aL,show a-1<l4.length by omega,show p<l4.length by omega,g1,g2];refine aM (λhc=>?_) (λhc=>?_)
  ·have hle:l4.getD p 0≤l4.getD (a-1) 0:=by simpa using hc
   simp only [go_sem,aH,TG,MG,cv,aD];refine aI [0,1,2,3] (aA _) (by decide) (by simp [aH,TG]) (by simp only [go_sem,aH,TG,MG,cv,aD]) (by simp only [go_sem,aH,TG,MG,cv,aD]) (Si hC l4 hv4 a b p hap hpb hb (by omega)) ?_;rintro r T' ⟨l5,⟨i,hr,hp5,hi1,hi2,hi3,hi4⟩,hT⟩;subst hr;subst hT;have hl5:=hp5.1;have hmin:∀ k,a≤k→k<b→l4.getD p 0≤l5.getD k 0:=by
    refine hp5.all hb (Q:=λx=>l4.getD p 0≤x) λk k1 k2=>?_;rcases hpre with h0 | h0
    ·exact absurd h0 ha0
    ·exact nX hle (h0 k k1 k2)
   simp only [go_sem,aH,TG,MG,cv,aD];refine hQ1 i b w8 w9 l5 _ (by omega) (by omega) hi2 (fW _) hp5 (.inr λk k1 k2=>nX (hi3 (i-1) (by omega) (by omega)) (Ck (hi4 k k1 k2))) (λl6 h6 h7=>Sg hi2 (by omega) hi3 hi4 hmin h6 h7) ?_;simp only [go_sem,aH,TG,MG,cv,aD,pkS]
  ·simp only [go_sem,aH,TG,MG,cv,aD];exact Sj hC n ih hn hap hpb hv4 hb hl4 hlim2 hpre hQ
def aBr (hC:oS G g d f N) (n:Nat) (ih:∀ m,m<n→Ui G g d f N m) {a b p lim2:Nat} {w8 w9:Bool} {l4:List Nat} {Q:Ex→St→Prop} (hn:b-a=n) (hap:a≤p) (hpb:p<b) (hv4:VL N l4) (hb:b≤l4.length) (hl4:l4.length≤60000) (hlim2:lim2≤1000000000) (hpre:PU a b l4) (hQ:PkN g d f a b lim2 l4 (Q .normal)) (hQ1:PkN g d f a b lim2 l4 (Q (.exit 1))) :
  @cX PQ G aDa ⟨4,[(13,.v (.int .i64 (p:Int))),(12,.v (.int .i64 ((b-a:Nat):Int))),(0,.own 0),(1,.v (.int .i64 (a:Int))),(2,.v (.int .i64 (b:Int))),(3,.v (.int .i64 (lim2:Int))),(4,cv f),(10,.v (.bool w8)),(11,.v (.bool w9))],(aH g d l4)⟩ ⟨Q⟩:=by
 unfold aDa;by_cases ha0:a=0
 ·have e0:decide ((a:Int)>0)=false:=decide_eq_false (by omega);simp only [go_sem,aH,TG,MG,cv,aD,e0];exact Sk hC n ih hn hap hpb hv4 hb hl4 hlim2 hpre hQ
 ·have e0:decide ((a:Int)>0)=true:=decide_eq_true (by omega);have va:IntKind.i64.wrap ((a:Int)-1)=((a-1:Nat):Int):=by rw [aJ (by omega) (by omega)];omega
  have g1:=bH d l4 (a-1) (by omega);have g2:=bH d l4 p (by omega);simp only [go_sem,aH,TG,MG,cv,aD,e0,va,aL,show a-1<l4.length by omega,show p<l4.length by omega,g1,g2];refine iQ hC (VL.get hv4 (by omega)) (VL.get hv4 (by omega)) ?_;simp only [go_sem,aH,TG,MG,cv,aD,va,aL,show a-1<l4.length by omega,show p<l4.length by omega,g1,g2];refine aM (λhc=>?_) (λhc=>?_)
  ·have hle:l4.getD p 0≤l4.getD (a-1) 0:=by simpa using hc
   simp only [go_sem,aH,TG,MG,cv,aD];refine aI [0,1,2,3] (aA _) (by decide) (by simp [aH,TG]) (by simp only [go_sem,aH,TG,MG,cv,aD]) (by simp only [go_sem,aH,TG,MG,cv,aD]) (Si hC l4 hv4 a b p hap hpb hb (by omega)) ?_;rintro r T' ⟨l5,⟨i,hr,hp5,hi1,hi2,hi3,hi4⟩,hT⟩;subst hr;subst hT;have hl5:=hp5.1;have hmin:∀ k,a≤k→k<b→l4.getD p 0≤l5.getD k 0:=by
    refine hp5.all hb (Q:=λx=>l4.getD p 0≤x) λk k1 k2=>?_;rcases hpre with h0 | h0
    ·exact absurd h0 ha0
    ·exact nX hle (h0 k k1 k2)
   simp only [go_sem,aH,TG,MG,cv,aD];refine hQ1 i b w8 w9 l5 _ (by omega) (by omega) hi2 (fW _) hp5 (.inr λk k1 k2=>nX (hi3 (i-1) (by omega) (by omega)) (Ck (hi4 k k1 k2))) (λl6 h6 h7=>Sg hi2 (by omega) hi3 hi4 hmin h6 h7) ?_;simp only [go_sem,aH,TG,MG,cv,aD,pkS]
  ·simp only [go_sem,aH,TG,MG,cv,aD];exact Sk hC n ih hn hap hpb hv4 hb hl4 hlim2 hpre hQ
def aGR (hC:oS G g d f N) (n:Nat) (ih:∀ m,m<n→Ui G g d f N m):Ui G g d f N n:=by
 intro l hv a0 b0 lim0 hn0 hab0 hb0 hl hlim0 hpre0;refine aF jF (by decide) ?_;unfold fT;simp only [go_sem,aH,TG,MG,cv,aD];refine bU (λn s=>∃ (a b lim:Nat) (w8 w9:Bool) (l1:List Nat),n=b-a∧a0≤a∧a≤b∧b≤b0∧lim≤1000000000∧PR a0 b0 l l1∧PU a b l1∧(∀ l2,PR a b l1 l2→SR a b l2→SR a0 b0 l2)∧s=pkS g d f a b lim w8 w9 l1) (b0-a0)
  ⟨a0,b0,lim0,true,true,l,rfl,fW _,hab0,fW _,hlim0,PR.refl _ _ l,hpre0,λ_ _ h=>h,by simp only [go_sem,aH,TG,MG,cv,aD,pkS]⟩ ?_
 rintro n1 s ⟨a,b,lim,w8,w9,l1,hn1,ha,hab,hb,hlim,hp,hpre,hK,rfl⟩;have hl1:=hp.1;have w1:IntKind.i64.wrap ((b:Int)-(a:Int))=((b-a:Nat):Int):=by rw [aJ (by omega) (by omega)];omega
 simp only [go_sem,aH,TG,MG,cv,aD,w1];by_cases h12:b-a≤12
 ·simp only [go_sem,aH,TG,MG,cv,aD,show decide (((b-a:Nat):Int)≤12)=true from decide_eq_true (by omega)];refine aI [0,1,2,3] (aA _) (by decide) (by simp [aH,TG]) (by simp only [go_sem,aH,TG,MG,cv,aD]) (by simp only [go_sem,aH,TG,MG,cv,aD]) (aGQ hC l1 (VL.pr hp hv) a b hab (by omega) (by omega)) ?_;rintro r T' ⟨l2,⟨hp2,hs2⟩,rfl⟩;simp only [go_sem,aH,TG,MG,cv,aD];exact ⟨l2,⟨hp.trans (hp2.wide ha hb),hK l2 hp2 hs2⟩,rfl⟩
 simp only [go_sem,aH,TG,MG,cv,aD,show decide (((b-a:Nat):Int)≤12)=false from decide_eq_false (by omega)];by_cases hlz:lim=0
 ·subst hlz;simp only [go_sem,aH,TG,MG,cv,aD];refine aI [0,1,2,3] (aA _) (by decide) (by simp [aH,TG]) (by simp only [go_sem,aH,TG,MG,cv,aD]) (by simp only [go_sem,aH,TG,MG,cv,aD]) (aFi hC l1 (VL.pr hp hv) a b (by omega) (by omega) (by omega)) ?_;rintro r T' ⟨l2,⟨hp2,hs2⟩,rfl⟩;simp only [go_sem,aH,TG,MG,cv,aD];exact ⟨l2,⟨hp.trans (hp2.wide ha hb),hK l2 hp2 hs2⟩,rfl⟩
 have hlz':((lim:Int)==0)=false:=by simp;omega
 simp only [go_sem,aH,TG,MG,cv,aD,hlz'];refine Mi (λs=>∃ (lim2:Nat) (l2:List Nat),lim2≤1000000000∧PR a b l1 l2∧(s=⟨4,[(3,.v (.int .i64 (lim2:Int))),(12,.v (.int .i64 ((b-a:Nat):Int))),(0,.own 0),(1,.v (.int .i64 (a:Int))),(2,.v (.int .i64 (b:Int))),(4,cv f),(10,.v (.bool w8)),(11,.v (.bool w9))],(aH g d l2)⟩∨s=⟨4,[(12,.v (.int .i64 ((b-a:Nat):Int))),(0,.own 0),(1,.v (.int .i64 (a:Int))),(2,.v (.int .i64 (b:Int))),(3,.v (.int .i64 (lim2:Int))),(4,cv f),(10,.v (.bool w8)),(11,.v (.bool w9))],(aH g d l2)⟩)) ?_ ?_ ?_
 ·intro hw;simp only [go_sem,aH,TG,MG,cv,aD];refine aI [0,1,2,3] (aA _) (by decide) (by simp [aH,TG]) (by simp only [go_sem,aH,TG,MG,cv,aD]) (by simp only [go_sem,aH,TG,MG,cv,aD]) (aD9 hC l1 (VL.pr hp hv) a b (by omega) (by omega) (by omega)) ?_;rintro r T' ⟨l2,hp2,rfl⟩;have wl:IntKind.i64.wrap ((lim:Int)-1)=((lim-1:Nat):Int):=by rw [aJ (by omega) (by omega)];omega
  simp only [go_sem,aH,TG,MG,cv,aD,wl];exact ⟨lim-1,l2,by omega,hp2,.inl rfl⟩
 ·intro hw;simp only [go_sem,aH,TG,MG,cv,aD];exact ⟨lim,l1,hlim,PR.refl _ _ _,.inr rfl⟩
 rintro s ⟨lim2,l2,hlim2,hp2,hs | hs⟩
 ·subst hs;have hl2:=hp2.1;simp only [go_sem,aH,TG,MG,cv,aD];refine aI [0,1,2,3] (aA _) (by decide) (by simp [aH,TG]) (by simp only [go_sem,aH,TG,MG,cv,aD]) (by simp only [go_sem,aH,TG,MG,cv,aD]) (Sh hC l2 (VL.pr hp2 (VL.pr hp hv)) a b (by omega) (by omega) (by omega)) ?_;rintro r T' ⟨p,h,hap,hpb,hr,hT⟩;subst hr;subst hT;simp only [go_sem,aH,TG,MG,cv,aD];refine Mi (λs=>∃ (p:Nat) (h:Int) (l3:List Nat),a≤p∧p<b∧PR a b l1 l3∧s=⟨4,[(14,.v (.int .i64 h)),(13,.v (.int .i64 (p:Int))),(3,.v (.int .i64 (lim2:Int))),(12,.v (.int .i64 ((b-a:Nat):Int))),(0,.own 0),(1,.v (.int .i64 (a:Int))),(2,.v (.int .i64 (b:Int))),(4,cv f),(10,.v (.bool w8)),(11,.v (.bool w9))],(aH g d l3)⟩) ?_ ?_ ?_
  ·intro hh;have v1:IntKind.i64.wrap ((b:Int)-1)=((b-1:Nat):Int):=by rw [aJ (by omega) (by omega)];omega
   have v2:IntKind.i64.wrap ((p:Int)-(a:Int))=((p-a:Nat):Int):=by rw [aJ (by omega) (by omega)];omega
   have v3:IntKind.i64.wrap (((b-1:Nat):Int)-((p-a:Nat):Int))=((b-1-(p-a):Nat):Int):=by rw [aJ (by omega) (by omega)];omega
   simp only [go_sem,aH,TG,MG,cv,aD];refine aI [0,1,2,3] (aA _) (by decide) (by simp [aH,TG]) (by simp only [go_sem,aH,TG,MG,cv,aD]) (by simp only [go_sem,aH,TG,MG,cv,aD]) (Ob hC l2 (VL.pr hp2 (VL.pr hp hv)) a b (by omega) (by omega) (by omega)) ?_;rintro r T' ⟨l3,hp3,hT⟩;subst hT;simp only [go_sem,aH,TG,MG,cv,aD,v1,v2,v3];exact ⟨b-1-(p-a),1,l3,by omega,by omega,hp2.trans hp3,rfl⟩
  ·intro hh;simp only [go_sem,aH,TG,MG,cv,aD];exact ⟨p,h,l2,hap,hpb,hp2,rfl⟩
  clear hap hpb;rintro s ⟨p,h,l3,hap,hpb,hp3,hs⟩;subst hs;have hl3:=hp3.1;rw [cP];refine eZ (λs=>∃ l4:List Nat,PR a b l1 l4∧s=⟨4,[(13,.v (.int .i64 (p:Int))),(3,.v (.int .i64 (lim2:Int))),(12,.v (.int .i64 ((b-a:Nat):Int))),(0,.own 0),(1,.v (.int .i64 (a:Int))),(2,.v (.int .i64 (b:Int))),(4,cv f),(10,.v (.bool w8)),(11,.v (.bool w9))],(aH g d l4)⟩) ?_ ?_
  ·by_cases hww:w8=true∧w9=true
   ·obtain ⟨rfl,rfl⟩:=hww;simp only [go_sem,aH,TG,MG,cv,aD];refine aM (λhc=>?_) (λhc=>?_)
    ·simp only [go_sem,aH,TG,MG,cv,aD];refine aI [0,1,2,3] (aA _) (by decide) (by simp [aH,TG]) (by simp only [go_sem,aH,TG,MG,cv,aD]) (by simp only [go_sem,aH,TG,MG,cv,aD]) (Oc hC l3 (VL.pr hp3 (VL.pr hp hv)) a b (by omega) (by omega) (by omega) (hpre.pr hp3 (by omega))) ?_;rintro r T' ⟨l4,⟨fb,hr,hp4,hf⟩,hT⟩;subst hr;subst hT
     cases fb with
     | true =>
      simp only [go_sem,aH,TG,MG,cv,aD];exact ⟨l4,⟨hp.trans ((hp3.trans hp4).wide ha hb),hK l4 (hp3.trans hp4) (hf rfl)⟩,rfl⟩
     | false =>
      simp only [go_sem,aH,TG,MG,cv,aD];exact ⟨l4,hp3.trans hp4,rfl⟩
    ·simp only [go_sem,aH,TG,MG,cv,aD];exact ⟨l3,hp3,rfl⟩
   ·cases w8 with
    | false=>simp only [go_sem,aH,TG,MG,cv,aD];exact ⟨l3,hp3,rfl⟩
    | true =>
     cases w9 with
     | false=>simp only [go_sem,aH,TG,MG,cv,aD];exact ⟨l3,hp3,rfl⟩
     | true=>exact absurd ⟨rfl,rfl⟩ hww
  rintro s ⟨l4,hp4,hs⟩;subst hs;have hl4:=hp4.1
  have hN:PkN g d f a b lim2 l4 λs=>∃ m,m<n1∧∃ (a b lim:Nat) (w8 w9:Bool) (l1:List Nat),m=b-a∧a0≤a∧a≤b∧b≤b0∧lim≤1000000000∧PR a0 b0 l l1∧PU a b l1∧(∀ l2,PR a b l1 l2→SR a b l2→SR a0 b0 l2)∧yR [] s=pkS g d f a b lim w8 w9 l1 :=
   λa' b' v8 v9 l6 s h1 h2 h3 h4 h5 h6 h7 h8=>⟨b'-a',by omega,a',b',lim2,v8,v9,l6,rfl,by omega,h3,by omega,hlim2,hp.trans ((hp4.trans h5).wide ha hb),h6,λl7 k1 k2=>hK l7 ((hp4.trans h5).trans (k1.wide h2 h4)) (h7 l7 k1 k2),h8⟩
  exact aBq hC (b-a) (λm hm=>ih m (by omega)) rfl hap hpb (VL.pr (hp.trans (hp4.wide ha hb)) hv) (by omega) (by omega) hlim2 (hpre.pr hp4 (by omega)) hN hN
 ·subst hs;have hl2:=hp2.1;simp only [go_sem,aH,TG,MG,cv,aD];refine aI [0,1,2,3] (aA _) (by decide) (by simp [aH,TG]) (by simp only [go_sem,aH,TG,MG,cv,aD]) (by simp only [go_sem,aH,TG,MG,cv,aD]) (Sh hC l2 (VL.pr hp2 (VL.pr hp hv)) a b (by omega) (by omega) (by omega)) ?_;rintro r T' ⟨p,h,hap,hpb,hr,hT⟩;subst hr;subst hT;simp only [go_sem,aH,TG,MG,cv,aD];refine Mi (λs=>∃ (p:Nat) (h:Int) (l3:List Nat),a≤p∧p<b∧PR a b l1 l3∧s=⟨4,[(14,.v (.int .i64 h)),(13,.v (.int .i64 (p:Int))),(12,.v (.int .i64 ((b-a:Nat):Int))),(0,.own 0),(1,.v (.int .i64 (a:Int))),(2,.v (.int .i64 (b:Int))),(3,.v (.int .i64 (lim2:Int))),(4,cv f),(10,.v (.bool w8)),(11,.v (.bool w9))],(aH g d l3)⟩) ?_ ?_ ?_
  ·intro hh;have v1:IntKind.i64.wrap ((b:Int)-1)=((b-1:Nat):Int):=by rw [aJ (by omega) (by omega)];omega
   have v2:IntKind.i64.wrap ((p:Int)-(a:Int))=((p-a:Nat):Int):=by rw [aJ (by omega) (by omega)];omega
   have v3:IntKind.i64.wrap (((b-1:Nat):Int)-((p-a:Nat):Int))=((b-1-(p-a):Nat):Int):=by rw [aJ (by omega) (by omega)];omega
   simp only [go_sem,aH,TG,MG,cv,aD];refine aI [0,1,2,3] (aA _) (by decide) (by simp [aH,TG]) (by simp only [go_sem,aH,TG,MG,cv,aD]) (by simp only [go_sem,aH,TG,MG,cv,aD]) (Ob hC l2 (VL.pr hp2 (VL.pr hp hv)) a b (by omega) (by omega) (by omega)) ?_;rintro r T' ⟨l3,hp3,hT⟩;subst hT;simp only [go_sem,aH,TG,MG,cv,aD,v1,v2,v3];exact ⟨b-1-(p-a),1,l3,by omega,by omega,hp2.trans hp3,rfl⟩
  ·intro hh;simp only [go_sem,aH,TG,MG,cv,aD];exact ⟨p,h,l2,hap,hpb,hp2,rfl⟩
  clear hap hpb;rintro s ⟨p,h,l3,hap,hpb,hp3,hs⟩;subst hs;have hl3:=hp3.1;rw [cP];refine eZ (λs=>∃ l4:List Nat,PR a b l1 l4∧s=⟨4,[(13,.v (.int .i64 (p:Int))),(12,.v (.int .i64 ((b-a:Nat):Int))),(0,.own 0),(1,.v (.int .i64 (a:Int))),(2,.v (.int .i64 (b:Int))),(3,.v (.int .i64 (lim2:Int))),(4,cv f),(10,.v (.bool w8)),(11,.v (.bool w9))],(aH g d l4)⟩) ?_ ?_
  ·by_cases hww:w8=true∧w9=true
   ·obtain ⟨rfl,rfl⟩:=hww;simp only [go_sem,aH,TG,MG,cv,aD];refine aM (λhc=>?_) (λhc=>?_)
    ·simp only [go_sem,aH,TG,MG,cv,aD];refine aI [0,1,2,3] (aA _) (by decide) (by simp [aH,TG]) (by simp only [go_sem,aH,TG,MG,cv,aD]) (by simp only [go_sem,aH,TG,MG,cv,aD]) (Oc hC l3 (VL.pr hp3 (VL.pr hp hv)) a b (by omega) (by omega) (by omega) (hpre.pr hp3 (by omega))) ?_;rintro r T' ⟨l4,⟨fb,hr,hp4,hf⟩,hT⟩;subst hr;subst hT
     cases fb with
     | true =>
      simp only [go_sem,aH,TG,MG,cv,aD];exact ⟨l4,⟨hp.trans ((hp3.trans hp4).wide ha hb),hK l4 (hp3.trans hp4) (hf rfl)⟩,rfl⟩
     | false =>
      simp only [go_sem,aH,TG,MG,cv,aD];exact ⟨l4,hp3.trans hp4,rfl⟩
    ·simp only [go_sem,aH,TG,MG,cv,aD];exact ⟨l3,hp3,rfl⟩
   ·cases w8 with
    | false=>simp only [go_sem,aH,TG,MG,cv,aD];exact ⟨l3,hp3,rfl⟩
    | true =>
     cases w9 with
     | false=>simp only [go_sem,aH,TG,MG,cv,aD];exact ⟨l3,hp3,rfl⟩
     | true=>exact absurd ⟨rfl,rfl⟩ hww
  rintro s ⟨l4,hp4,hs⟩;subst hs;have hl4:=hp4.1
  have hN:PkN g d f a b lim2 l4 λs=>∃ m,m<n1∧∃ (a b lim:Nat) (w8 w9:Bool) (l1:List Nat),m=b-a∧a0≤a∧a≤b∧b≤b0∧lim≤1000000000∧PR a0 b0 l l1∧PU a b l1∧(∀ l2,PR a b l1 l2→SR a b l2→SR a0 b0 l2)∧yR [] s=pkS g d f a b lim w8 w9 l1 :=
   λa' b' v8 v9 l6 s h1 h2 h3 h4 h5 h6 h7 h8=>⟨b'-a',by omega,a',b',lim2,v8,v9,l6,rfl,by omega,h3,by omega,hlim2,hp.trans ((hp4.trans h5).wide ha hb),h6,λl7 k1 k2=>hK l7 ((hp4.trans h5).trans (k1.wide h2 h4)) (h7 l7 k1 k2),h8⟩
  exact aBr hC (b-a) (λm hm=>ih m (by omega)) rfl hap hpb (VL.pr (hp.trans (hp4.wide ha hb)) hv) (by omega) (by omega) hlim2 (hpre.pr hp4 (by omega)) hN hN
end
end
section
def D1:∀ {l m:List Nat},l.Perm m→l.Pairwise (· ≤ ·)→m.Pairwise (· ≤ ·)→l=m
 | [],m,hp,_,_=>(List.nil_perm.1 hp).symm ▸ rfl
 | x::l,[],hp,_,_=>absurd hp.length_eq (by simp)
 | x::l,y::m,hp,h1,h2=>by
  obtain ⟨a1,a2⟩:=GD.1 h1;obtain ⟨b1,b2⟩:=GD.1 h2;have e:x=y:=by
   have hx:x∈y::m:=hp.mem_iff.1 (by simp);have hy:y∈x::l:=hp.mem_iff.2 (by simp);rcases gK.1 hx with e | hx
   ·exact e
   ·rcases gK.1 hy with e | hy
    ·exact e.symm
    ·exact Nat.le_antisymm (a1 y hy) (b1 x hx)
  subst e;rw [D1 (List.perm_cons x |>.1 hp) a2 b2]
def Sl {l:List Nat} (h:SR 0 l.length l):l.Pairwise (· ≤ ·):=by
 rw [Uv];intro i j hi hj hij;have:=h i j (xC _) (Ck hij) hj;simpa [fG,hi,hj] using this
def Ew (S:List Id) (n:Nat):Id:=S.getD n default
def aBs {S:List Id} {x:Id} (h:x∈S):Ew S (S.idxOf x)=x:=by
 have h1:=aDm h;rw [Ew,fG,fV h1];exact List.getElem_idxOf h1
def aFj {S L:List Id} (h:∀ x∈L,x∈S):kl (Ew S) (L.map S.idxOf)=L.map Id.A:=by
 simp only [kl,Ee];refine Mt λx hx=>?_;simp only [Function.comp_apply,aBs (h x hx)]
def YM {S:List Id} (hn:S.Nodup):S.map S.idxOf=List.range S.length:=by
 apply VC
 ·simp
 ·intro i h1 h2;simp only [IW,List.getElem_range];exact hn.idxOf_getElem i _
def aBt (S:List Id):kl (Ew S) (List.range S.length)=S.map Id.A:=by
 apply VC
 ·simp
 ·intro i h1 h2;have h3:i<S.length:=by simpa using h2
  simp [Ew,fG,h3]
section
variable {G:Nat→Option (List AV)} {g:PGM} {d:Nat→Id} {f N:Nat}
set_option maxHeartbeats 4000000
def YN (hC:oS G g d f N) (n:Nat):Ui G g d f N n:=Nat.strongRecOn n λm ih=>aGR hC m ih
def Uj (hC:oS G g d f N) (l:List Nat) (hv:VL N l) (hl:l.length≤60000):aC PQ G bF [.own 0,cv f] (aH g d l) (FJ g d λr l'=>r=.tup []∧PR 0 l.length l l'∧SR 0 l.length l'):=by
 refine aF gS (by decide) ?_;unfold dZ;simp only [go_sem,aH,TG,MG,cv,aL,bG l.length (by omega)];refine lM (aA _) rfl (aE0 l.length (by omega)) ?_;rintro r T' ⟨⟨m,rfl,hm,_⟩,rfl⟩;simp only [go_sem];refine aI [0,1,2,3] (aA _) (by decide) (by simp) (by simp only [go_sem,cv]) (by simp only [go_sem,aH,TG,MG]) (YN hC l.length l hv 0 l.length m (E4 _) (xC _) (fW _) hl (by omega) (.inl rfl)) ?_;rintro r T' ⟨l',⟨hp,hs⟩,rfl⟩;simp only [go_sem,aH,TG,MG];exact ⟨l',⟨rfl,hp,hs⟩,rfl⟩
def aFk {S L:List Id} (hn:S.Nodup) (hp:L.Perm S) (hl:L.length≤60000) (hC:oS G g (Ew S) f S.length):aC PQ G bF [.own 0,cv f] (some (.arr 3 (L.map Id.A))::TG 1 g) λr T=>r=.tup []∧T=some (.arr 3 (S.map Id.A))::TG 1 g:=by
 have hm:∀ x∈L,x∈S:=λx hx=>hp.mem_iff.1 hx
 have key:=Uj hC (L.map S.idxOf) (λn h=>by
  obtain ⟨x,hx,rfl⟩:=dE.1 h
  exact aDm (hm x hx)) (by simpa using hl)
 have e1:aH g (Ew S) (L.map S.idxOf)=some (.arr 3 (L.map Id.A))::TG 1 g:=by rw [aH,aFj hm]
 rw [e1] at key;refine key.mono ?_;rintro r T' ⟨l',⟨rfl,h1,h2⟩,rfl⟩;have h3:l'=List.range S.length:=by
  have hlen:=h1.1;refine D1 ((h1.2.2.trans (hp.map S.idxOf)).trans (.of_eq (YM hn))) (Sl (by rw [hlen];exact h2)) ?_;rw [Uv];intro i j hi hj hij;simpa using Ck hij
 exact ⟨rfl,by rw [h3,aH,aBt]⟩
end
end
section
def Ml (g:PGM) (x:Id):Int:=if x∈g.I then (g.nd x).lv else 0
def Je (g:PGM) (x y:Id):Bool:=decide (Ml g x<Ml g y)||(decide (Ml g x=Ml g y)&&x.lt y)
def WU {g:PGM} {x y:Id} (h:Je g x y=false) (k:Je g y x=false):x=y:=by
 simp only [Je,Yr,Yl,decide_eq_false_iff_not] at h k;have e:Ml g x=Ml g y:=by omega
 exact Id.lt_total (h.2.resolve_left (by omega)) (k.2.resolve_left (by omega))
def Od {g:PGM} {x y:Id} (h:Je g x y=true):Je g y x=false:=by
 simp only [Je,HR,eM,decide_eq_true_eq,Yr,Yl,decide_eq_false_iff_not] at h ⊢;rcases h with h | ⟨h1,h2⟩
 ·exact ⟨by omega,.inl (by omega)⟩
 ·exact ⟨by omega,.inr (Id.lt_asymm h2)⟩
def Uk {g:PGM} {x y z:Id} (h:Je g y x=false) (k:Je g z y=false):Je g z x=false:=by
 simp only [Je,Yr,Yl,decide_eq_false_iff_not] at h k ⊢;refine ⟨by omega,?_⟩;by_cases e:Ml g z=Ml g x
 ·exact .inr (Id.nlt_trans (k.2.resolve_left (by omega)) (h.2.resolve_left (by omega)))
 ·exact .inl e
def vV (g:PGM) (l:List Id):List Id:=l.mergeSort λx y=>!(Je g y x)
def uI (g:PGM) (l:List Id):(vV g l).Perm l:=U3 l _
def Mm (g:PGM) (l:List Id):(vV g l).length=l.length:=(uI g l).length_eq
def I3 (g:PGM) (l:List Id):(vV g l).Pairwise λx y=>Je g y x=false:=by
 have:=List.pairwise_mergeSort (le:=λx y=>!(Je g y x)) (λa b c h1 h2=>by simp only [Cg] at *;exact Uk h1 h2)
  (λa b=>by
   cases h:Je g b a with
   | false=>simp
   | true=>simp [Od h]) l
 refine this.imp λh=>?_;simpa using h
def I4 {g:PGM}:∀ {l m:List Id},l.Perm m→l.Pairwise (λx y=>Je g y x=false)→m.Pairwise (λx y=>Je g y x=false)→l=m
 | [],m,hp,_,_=>(List.nil_perm.1 hp).symm ▸ rfl
 | x::l,[],hp,_,_=>absurd hp.length_eq (by simp)
 | x::l,y::m,hp,h1,h2=>by
  obtain ⟨a1,a2⟩:=GD.1 h1;obtain ⟨b1,b2⟩:=GD.1 h2;have e:x=y:=by
   have hx:x∈y::m:=hp.mem_iff.1 (by simp);have hy:y∈x::l:=hp.mem_iff.2 (by simp);rcases gK.1 hx with e | hx
   ·exact e
   ·rcases gK.1 hy with e | hy
    ·exact e.symm
    ·exact WU (b1 x hx) (a1 y hy)
  subst e;rw [I4 (List.perm_cons x |>.1 hp) a2 b2]
def BS (g:PGM) (x y:Id):Int:=mQ [vT (Ml g x) (Ml g y),if x.lt y then -1 else if y.lt x then 1 else 0]
def aBu {g:PGM} {x y:Id} (h:Je g x y=true):BS g x y=-1:=by
 simp only [Je,HR,eM,decide_eq_true_eq] at h;rcases h with h | ⟨h1,h2⟩
 ·simp [BS,vT,mQ,h]
 ·simp [BS,vT,mQ,h1,h2]
def aBv {g:PGM} {x y:Id} (h:Je g y x=true):BS g x y=1:=by
 simp only [Je,HR,eM,decide_eq_true_eq] at h;rcases h with h | ⟨h1,h2⟩
 ·simp [BS,vT,mQ,h,show ¬Ml g x<Ml g y by omega]
 ·simp [BS,vT,mQ,h1,h2,Id.lt_asymm h2]
def aBw (g:PGM) (x:Id):BS g x x=0:=by
 simp [BS,vT,mQ,Id.lt_irrefl]
section
variable {G:Nat→Option (List AV)}
set_option maxHeartbeats 4000000
def aGS (n:ND) (h:n.W.length=4):n.A[34]?=some (iv n.lv):=by
 simp only [ND.A];rw [KG (by rw [OpM.len];omega),OpM.len,KG (by simp [Id.A]),KG (by simp [Id.A,mK,h])];simp [Id.A,mK,h]
def aBx {g:PGM} {x:Id} {j:Nat} (h:g.I.findIdx? (λy=>decide (y=x))=some j):g.nd x=g.nodes.getD j P6:=by
 simp [PGM.nd,PGM.at,h]
def Ea (g:PGM) (hg:g.ok) (x:Id):aC PQ G lK [.ptr 0 0,.ag x.A] (TG 0 g) λr T=>r=iv (Ml g x)∧T=TG 0 g:=by
 refine aF B5 (by decide) ?_;have hk:=HG x;have hf:=EX x g.I 0;by_cases hx:x∈g.I
 ·obtain ⟨j,h1,h2,_⟩:=pL hx;have hnd:=aBx h1;rw [h1] at hf;have gv:=Dx g.I.length j h2;have hj:j<g.nodes.length:=by simpa [PGM.I] using h2
  have gn:(g.nodes.map ND.A)[j]?=some (g.nd x).A:=by
   rw [eD,fV hj,hnd,fG,fV hj];rfl
  have hW:=(SQ hg x).1;have gl:=aGS (g.nd x) hW;have gA:=ND.Alen (g.nd x) hW;simp only [kZ,yN] at hf;simp only [Ml,if_pos hx];generalize (g.nd x)=n at *
  simp only [go_sem,TG,MG,hf,gv,aL,hj,gn,gl,gA]
 ·rw [CH hx] at hf;simp only [VF] at hf;simp only [go_sem,TG,MG,hf,Ml,if_neg hx]
def YO (g:PGM) (hg:g.ok) (x y:Id):aC PQ G mM [.ag [.ptr 0 0],.ag x.A,.ag y.A] (TG 0 g) λr T=>r=iv (BS g x y)∧T=TG 0 g:=by
 refine aF Cc (by decide) ?_;simp only [go_sem,TG,MG];refine aB (aA _) rfl (H9 x y) rfl ?_;simp only [go_sem];refine aM (λh=>?_) (λh=>?_);rotate_left
 ·simp only [go_sem];refine aB (aA _) rfl (H9 y x) rfl ?_;simp only [go_sem];refine aM (λh2=>?_) (λh2=>?_)
  ·simp only [go_sem];refine aI [0,1,2] (aA _) (by decide) (by simp) (by simp only [go_sem]) (by simp only [go_sem,TG,MG]) (Ea g hg x) ?_;rintro r T' ⟨rfl,rfl⟩;simp only [go_sem,TG,MG];refine aI [0,1,2] (aA _) (by decide) (by simp) (by simp only [go_sem]) (by simp only [go_sem,TG,MG]) (Ea g hg y) ?_;rintro r T' ⟨rfl,rfl⟩;simp only [go_sem,TG,MG];refine aB (aA _) rfl (kX _ _) rfl ?_;simp only [go_sem,TG,MG];refine bS (aA _) rfl rfl (wM [vT (Ml g x) (Ml g y),1] (by simp [maxLen])) ?_;rintro r T' ⟨rfl,rfl⟩;refine ⟨by simp only [eY],by simp,?_⟩;simp only [go_sem,TG,MG,BS,h,h2,if_true,if_false,jZ]
  ·simp only [go_sem];refine aI [0,1,2] (aA _) (by decide) (by simp) (by simp only [go_sem]) (by simp only [go_sem,TG,MG]) (Ea g hg x) ?_;rintro r T' ⟨rfl,rfl⟩;simp only [go_sem,TG,MG];refine aI [0,1,2] (aA _) (by decide) (by simp) (by simp only [go_sem]) (by simp only [go_sem,TG,MG]) (Ea g hg y) ?_;rintro r T' ⟨rfl,rfl⟩;simp only [go_sem,TG,MG];refine aB (aA _) rfl (kX _ _) rfl ?_;simp only [go_sem,TG,MG];refine bS (aA _) rfl rfl (wM [vT (Ml g x) (Ml g y),0] (by simp [maxLen])) ?_;rintro r T' ⟨rfl,rfl⟩;refine ⟨by simp only [eY],by simp,?_⟩;simp only [go_sem,TG,MG,BS,h,h2,if_true,if_false,jZ]
 ·simp only [go_sem];refine aI [0,1,2] (aA _) (by decide) (by simp) (by simp only [go_sem]) (by simp only [go_sem,TG,MG]) (Ea g hg x) ?_;rintro r T' ⟨rfl,rfl⟩;simp only [go_sem,TG,MG];refine aI [0,1,2] (aA _) (by decide) (by simp) (by simp only [go_sem]) (by simp only [go_sem,TG,MG]) (Ea g hg y) ?_;rintro r T' ⟨rfl,rfl⟩;simp only [go_sem,TG,MG];refine aB (aA _) rfl (kX _ _) rfl ?_;simp only [go_sem,TG,MG];refine bS (aA _) rfl rfl (wM [vT (Ml g x) (Ml g y),-1] (by simp [maxLen])) ?_;rintro r T' ⟨rfl,rfl⟩;refine ⟨by simp only [eY],by simp,?_⟩;simp only [go_sem,TG,MG,BS,h,if_true,if_false,jZ]
def I5 {g:PGM} {l:List Id} (hn:l.Nodup):(vV g l).Pairwise λx y=>Je g x y=true:=by
 have h1:=I3 g l;have h2:(vV g l).Pairwise (· ≠ ·):=(uI g l).nodup_iff.2 hn;refine (h1.and h2).imp ?_;rintro x y ⟨a,b⟩
 cases h:Je g x y with
 | true=>rfl
 | false=>exact absurd (WU h a) b
def aDb {g:PGM} (hg:g.ok) {l:List Id} (hn:l.Nodup):oS G g (Ew (vV g l)) mM (vV g l).length:=by
 intro a b ha hb;have hs:=Uv.1 (I5 (g:=g) hn);have ea:Ew (vV g l) a=(vV g l)[a]:=by simp [Ew,fG,ha]
 have eb:Ew (vV g l) b=(vV g l)[b]:=by simp [Ew,fG,hb]
 have key:BS g (Ew (vV g l) a) (Ew (vV g l) b)=Uh a b:=by
  rw [ea,eb];unfold Uh;rcases Y2 a b with h | h | h
  ·rw [if_pos h,aBu (hs a b ha hb h)]
  ·subst h;rw [if_neg (cZ _),if_neg (cZ _),aBw]
  ·rw [if_neg (by omega),if_pos h,aBv (hs b a hb ha h)]
 have:=YO (G:=G) g hg (Ew (vV g l) a) (Ew (vV g l) b);rw [key] at this;exact this
def aBy (g:PGM) (hg:g.ok) (l:List Id) (hn:l.Nodup) (hl:l.length≤60000):aC PQ G wE [.ptr 0 0,ids l] (TG 0 g) λr T=>r=.own 3∧T=TG 0 g++[some (.arr 3 ((vV g l).map Id.A))]:=by
 refine aF JL (by decide) ?_;simp only [go_sem,TG,MG];refine aS (aA _) rfl (P4 l (by omega)) ?_;simp only [go_sem,TG,MG];refine aI [3,0,1,2] (aA _) (by decide) (by simp) (by simp only [go_sem,cv]) (by simp only [go_sem,TG,MG]) (aFk ((uI g l).nodup_iff.2 hn) (uI g l).symm hl (aDb hg hn)) ?_;rintro r T' ⟨rfl,rfl⟩;simp only [go_sem,TG,MG]
def aDc (g:PGM) (hg:g.ok) (l:List Id) (hn:l.Nodup) (hl:l.length≤60000):aC PQ G wE [.ptr 0 0,ids l] (TG 0 g) λr T=>r=ids (vV g l)∧T=TG 0 g:=by
 refine (aBy g hg l hn hl).fin [3] ?_;rintro r T' ⟨rfl,rfl⟩;simp only [go_sem,TG,MG]
end
end
section
def YP {p:PGM} {o:OpM} (h:(wS p o).2=0):(wS p o).1=⟨p.cards,p.nodes++[⟨o,Af o,wA p o,yP p o.Past⟩]⟩:=by
 unfold wS at h ⊢;split at h
 ·rename_i hc;exact absurd h hc
 rename_i hc;rw [if_neg hc];unfold OR at h ⊢;split at h
 ·simp at h
 rename_i h0;rw [if_neg h0];split at h
 ·simp at h
 rename_i h1;rw [if_neg h1];split at h
 ·simp at h
 rename_i h2;rw [if_neg h2];split at h
 ·simp at h
 rename_i h3;rw [if_neg h3];split at h
 ·simp at h
 rename_i h4;rw [if_neg h4];split at h
 ·simp at h
 rename_i h5;rw [if_neg h5];unfold SP at h ⊢;split at h
 ·simp at h
 rename_i h7;rw [if_neg h7];split at h
 ·simp at h
 rename_i h8;rw [if_neg h8]
def Sm (Up:List (List Nat)) (u:List Nat):∀ i,i≤Up.length→iR (Up++[u]) i=iR Up i
 | 0,_=>rfl
 | i+1,h=>by rw [iR,iR,Sm Up u i (by omega),mS _ _ _ _ (by omega)]
structure RowOk (cs:List CardM) (g:GM):Prop where
 ids:g.I=g.L.map Af
 nd:g.I.Nodup
 par:∀ i,i<g.L.length→∀ y∈(g.L.getD i default).Past,∃ k∈g.Up.getD i [],g.I[k]?=some y
 lv:∀ i,i<g.L.length→((rN cs g.L).nodes.getD i P6).lv=(iR g.Up g.L.length).getD i 0
def BT {I:List Id} {x:Id} (h:0≤aR I x):I[(aR I x).toNat]?=some x:=by
 unfold aR DK at *
 cases e:I.findIdx? (λy=>decide (y=x)) with
 | none=>rw [e] at h;simp at h
 | some j =>
  obtain ⟨h1,h2,_⟩:=WY.1 e;simp only [KK];rw [fV h1];exact congrArg some (of_decide_eq_true h2)
def Sn (f:Id→Int) (h:Nat→Int) (pl:Id→Nat):∀ (l:List Id) (m:Int),(∀ x∈l,f x=h (pl x))→l.foldl (λm x=>max m (f x+1)) m=(l.map pl).foldl (λm k=>max m (1+h k)) m
 | [],_,_=>rfl
 | x::l,m,hh=>by
  simp only [HO,cN];rw [hh x (by simp),Int.add_comm];exact Sn f h pl l _ λy hy=>hh y (by simp [hy])
def Reach.row {cs:List CardM} (hc:cardsOk cs) {g:GM} (h:Reach cs g):RowOk cs g:=by
 induction h with
 | new=>exact ⟨rfl,Nd,by simp,by simp⟩
 | @add g o hr ho hid ih =>
  by_cases h:(eK g o).1=0;rotate_left
  ·have e:(sZ g o).1=g:=by rw [sZ,if_pos h]
   rw [e];exact ih
  have gd:=hr.good hc;have a:=MV h;have hu:=UQ gd.wf a;have hpo:(rN cs g.L).ok:=P9 hc g.L λx hx=>⟨gd.ok.ops x hx,gd.ids x hx⟩
  have st:=Sd gd.sim hpo gd.wf h;have hz:=YP st.1;have hn:(rN cs g.L).nodes.length=g.L.length:=by have:=congrArg List.length gd.sim.l;rwa [aL] at this
  have hi:=gd.wf.i;have hun:=gd.wf.un;rw [Dy a h];refine ⟨by simp [ih.ids],?_,?_,?_⟩
  ·rw [HN];refine ⟨ih.nd,by simp,?_⟩;intro x hx y hy e;rw [gZ.1 hy] at e;exact a.twice ((nF g.I _).2 (e ▸ hx))
  ·intro i hi2 y hy;simp only [dU,QX] at hi2;rcases bY i g.L.length with h1 | h1
   ·rw [mS _ _ _ _ h1] at hy;rw [mS _ _ _ _ (by rw [hun];exact h1)];obtain ⟨k,hk,e⟩:=ih.par i h1 y hy;refine ⟨k,hk,?_⟩;have hkl:k<g.I.length:=by
     rcases bY k g.I.length with hh | hh
     ·exact hh
     ·rw [gV hh] at e;simp at e
    rw [Eb hkl];exact e
   ·obtain rfl:i=g.L.length:=by omega
    rw [lF] at hy;have e2:(g.Up++[rS g o]).getD g.L.length []=rS g o:=by rw [←hun];exact lF _ _ _
    rw [e2];have hp:=a.there y hy;refine ⟨(aR g.I y).toNat,dE.2 ⟨y,hy,rfl⟩,?_⟩;have hlt:=hu _ (dE.2 ⟨y,hy,rfl⟩);rw [Eb (by omega)];exact BT hp
  ·intro i hi2;simp only [dU,QX] at hi2 ⊢;rw [P8,hz];have e3:iR (g.Up++[rS g o]) (g.L.length+1)=iR g.Up g.L.length++[yP (rN cs g.L) o.Past]:=by
    rw [iR,Sm _ _ _ (by omega)];have e2:(g.Up++[rS g o]).getD g.L.length []=rS g o:=by rw [←hun];exact lF _ _ _
    rw [e2];congr 2;unfold yP;refine (Sn _ (λk=>(iR g.Up g.L.length).getD k 0) (λx=>(aR g.I x).toNat) o.Past 1 ?_).symm;intro x hx;have hlt:=hu _ (dE.2 ⟨x,hx,rfl⟩);rw [PGM.nd,MU,gd.sim.i];exact ih.lv _ hlt
   rw [e3];rcases bY i g.L.length with h1 | h1
   ·rw [mS _ _ _ _ (by rw [hn];exact h1),mS _ _ _ _ (by rw [yK];exact h1)];exact ih.lv i h1
   ·obtain rfl:i=g.L.length:=by omega
    have e4:((rN cs g.L).nodes++[(⟨o,Af o,wA (rN cs g.L) o,yP (rN cs g.L) o.Past⟩:ND)]).getD g.L.length P6=⟨o,Af o,wA (rN cs g.L) o,yP (rN cs g.L) o.Past⟩:=by rw [←hn];exact lF _ _ _
    have e5:(iR g.Up g.L.length++[yP (rN cs g.L) o.Past]).getD g.L.length 0=yP (rN cs g.L) o.Past:=by
     have:=yK g.Up g.L.length
     conv=>lhs;arg 2;rw [←this]
     exact lF _ _ _
    rw [e4,e5]
def Mn {lt:Nat→Nat→Bool} (hA:∀ a b,lt a b=true→lt b a=false) (nt:∀ a b c,lt b a=false→lt c b=false→lt c a=false) (p:Nat):∀ out:List Nat,out.Pairwise (λx y=>lt y x=false) →
  (out.take (out.takeWhile λq=>lt q p).length++p::out.drop (out.takeWhile λq=>lt q p).length).Pairwise λx y=>lt y x=false
 | [],_=>by simp
 | q::out,h=>by
  obtain ⟨h1,h2⟩:=GD.1 h
  cases hq:lt q p with
  | true =>
   rw [aDr (p:=λq=>lt q p) hq,kS,NW,U2,Ag];refine GD.2 ⟨?_,Mn hA nt p out h2⟩;intro z hz;rw [eO,gK] at hz;rcases hz with hz | rfl | hz
   ·exact h1 z (CS hz)
   ·exact hA _ _ hq
   ·exact h1 z (IS hz)
  | false =>
   rw [List.takeWhile_cons_of_neg (p:=λq=>lt q p) (by simp [hq])];simp only [kI,mL,Qq,FQ];refine GD.2 ⟨?_,h⟩;intro z hz;rcases gK.1 hz with rfl | hz
   ·exact hq
   ·exact nt p q z hq (h1 z hz)
def YQ (lv:List Int) (I:List Id) (a b:Nat) (h:SW lv I a b=true):SW lv I b a=false:=by
 unfold SW at *
 split at h
 ·rename_i e;rw [if_pos e.symm];exact Id.lt_asymm h
 ·rename_i e;have:=of_decide_eq_true h;rw [if_neg (λh=>e h.symm)];exact decide_eq_false (by omega)
def Ul (lv:List Int) (I:List Id) (a b c:Nat) (h:SW lv I b a=false) (k:SW lv I c b=false):SW lv I c a=false:=by
 unfold SW at *
 split at h<;>split at k
 ·rename_i e1 e2;rw [if_pos (e2.trans e1)];exact Id.nlt_trans k h
 ·rename_i e1 e2;have:=of_decide_eq_false k;rw [if_neg (by omega)];exact decide_eq_false (by omega)
 ·rename_i e1 e2;have:=of_decide_eq_false h;rw [if_neg (by omega)];exact decide_eq_false (by omega)
 ·have:=of_decide_eq_false h;have:=of_decide_eq_false k;rw [if_neg (by omega)];exact decide_eq_false (by omega)
def I6 (lv:List Int) (I:List Id):∀ (ps out:List Nat),out.Pairwise (λx y=>SW lv I y x=false)→(ps.foldl (QE lv I) out).Pairwise λx y=>SW lv I y x=false
 | [],_,h=>h
 | p::ps,out,h=>I6 lv I ps _ (by
   have:=Mn (lt:=SW lv I) (YQ lv I) (Ul lv I) p out h
   exact this)
section
variable {cs:List CardM} {g:GM}
def Mo (hc:cardsOk cs) (h:Reach cs g) (i:Nat) (hi:i<g.L.length):(rN cs g.L).nd (g.I.getD i default)=(rN cs g.L).nodes.getD i P6∧((rN cs g.L).nd (g.I.getD i default)).o=g.L.getD i default:=by
 have gd:=h.good hc;have r:=h.row hc;have hI:=gd.wf.i;have hn:(rN cs g.L).nodes.length=g.L.length:=by have:=congrArg List.length gd.sim.l;rwa [aL] at this
 have e0:g.I.getD i default=g.I[i]'(by omega):=by rw [fG,fV (by omega)];rfl
 have e1:(rN cs g.L).at (g.I.getD i default)=i:=by
  rw [MU,gd.sim.i,e0];have h1:0≤aR g.I g.I[i]:=(nF _ _).2 (jY _);have h2:=BT h1;have h3:(aR g.I g.I[i]).toNat<g.I.length:=by
   rcases bY (aR g.I g.I[i]).toNat g.I.length with hh | hh
   ·exact hh
   ·rw [gV hh] at h2;simp at h2
  rw [fV h3] at h2;exact (IV r.nd).1 (Option.some.inj h2)
 have e2:(rN cs g.L).nd (g.I.getD i default)=(rN cs g.L).nodes.getD i P6:=by rw [PGM.nd,e1]
 refine ⟨e2,?_⟩;rw [e2];have h1:((rN cs g.L).nodes.map (·.o))[i]?=g.L[i]?:=by rw [gd.sim.l]
 rw [eD,fV hi,fV (by omega)] at h1;rw [fG,fV (by omega),fG,fV hi];simpa using h1
def So (hc:cardsOk cs) (h:Reach cs g) (i:Nat) (hi:i<g.L.length):Ml (rN cs g.L) (g.I.getD i default)=(iR g.Up g.L.length).getD i 0:=by
 have gd:=h.good hc;have hI:=gd.wf.i;have e0:g.I.getD i default=g.I[i]'(by omega):=by rw [fG,fV (by omega)];rfl
 rw [Ml,if_pos (by rw [gd.sim.i,e0];exact jY _),(Mo hc h i hi).1,(h.row hc).lv i hi]
def Sp (hc:cardsOk cs) (h:Reach cs g) (i k:Nat) (hi:i<g.L.length) (hk:k<g.L.length):Je (rN cs g.L) (g.I.getD i default) (g.I.getD k default)=SW (iR g.Up g.L.length) g.I i k:=by
 unfold Je SW;rw [So hc h i hi,So hc h k hk];split
 ·rename_i e;rw [e];simp
 ·rename_i e;have:decide ((iR g.Up g.L.length).getD i 0=(iR g.Up g.L.length).getD k 0)=false:=decide_eq_false e;rw [this];simp
def Oe {I:List Id}:∀ {l:List Id},(∀ x∈l,x∈I)→(tE I l).map (λi=>I.getD i default)=l
 | [],_=>rfl
 | x::l,h=>by
  have:=BT ((nF I x).2 (h x (by simp)));simp only [tE,cN,fG,this,KL];congr 1;exact Oe λy hy=>h y (by simp [hy])
def aFl (hc:cardsOk cs) (h:Reach cs g) {l:List Id} (hm:∀ x∈l,x∈g.I):vV (rN cs g.L) l=(Eu (iR g.Up g.L.length) g.I (tE g.I l)).map λi=>g.I.getD i default:=by
 have gd:=h.good hc;have hI:=gd.wf.i;have hp:(Eu (iR g.Up g.L.length) g.I (tE g.I l)).Perm (tE g.I l):=by
  have:=IL (iR g.Up g.L.length) g.I (tE g.I l) [];rwa [kT] at this
 have hlt:∀ p∈Eu (iR g.Up g.L.length) g.I (tE g.I l),p<g.L.length:=λp hq=>by
  obtain ⟨x,hx,rfl⟩:=dE.1 (hp.mem_iff.1 hq);have:=BT ((nF g.I x).2 (hm x hx));rcases bY (aR g.I x).toNat g.L.length with hh | hh
  ·exact hh
  ·rw [gV (by omega)] at this;simp at this
 refine I4 ((uI _ l).trans ?_) (I3 _ l) ?_
 ·have:=(hp.map λi=>g.I.getD i default).symm;rwa [Oe hm] at this
 ·rw [NZ];refine (I6 (iR g.Up g.L.length) g.I (tE g.I l) [] List.Pairwise.nil).imp_of_mem ?_;intro i k hi hk hh;rw [Sp hc h k i (hlt k hk) (hlt i hi)];exact hh
def aFm (hc:cardsOk cs) (h:Reach cs g) {x y:Id} (hx:x∈g.I) (hy:y∈((rN cs g.L).nd x).o.Past):Je (rN cs g.L) y x=true:=by
 have gd:=h.good hc;have r:=h.row hc;have hI:=gd.wf.i;obtain ⟨i,hi,rfl⟩:=AH hx;have hiL:i<g.L.length:=by omega
 have e0:g.I.getD i default=g.I[i]:=by rw [fG,fV hi];rfl
 rw [←e0] at hy ⊢;rw [(Mo hc h i hiL).2] at hy;obtain ⟨k,hk,e⟩:=r.par i hiL y hy;have hki:=gd.wf.up i k hk;have e1:y=g.I.getD k default:=by rw [fG,e];rfl
 rw [e1,Sp hc h k i (by omega) hiL];have key:(iR g.Up g.L.length).getD k 0<(iR g.Up g.L.length).getD i 0:=by
  have mono:∀ n,∀ j,j<n→(iR g.Up n).getD j 0=(iR g.Up (j+1)).getD j 0:=by
   intro n
   induction n with
   | zero=>intro j hj;omega
   | succ n ih =>
    intro j hj;rcases bY j n with h1 | h1
    ·rw [iR,mS _ _ _ _ (by rw [yK];exact h1)];exact ih j h1
    ·obtain rfl:j=n:=by omega
     rfl
  rw [mono _ i hiL,mono _ k (by omega)];have e2:(iR g.Up (i+1)).getD i 0=(g.Up.getD i []).foldl (λm k=>max m (1+(iR g.Up i).getD k 0)) 1:=by
   have:=yK g.Up i;rw [iR]
   conv=>lhs;arg 2;rw [←this]
   exact lF _ _ _
  rw [e2,←mono i k hki];have le:∀ (f:Nat→Int) (l:List Nat) (m:Int),(m≤l.foldl (λm k=>max m (1+f k)) m)∧∀ k∈l,1+f k≤l.foldl (λm k=>max m (1+f k)) m:=by
   intro f l
   induction l with
   | nil=>intro m;exact ⟨IZ _,by simp⟩
   | cons a l ih =>
    intro m;have:=ih (max m (1+f a));refine ⟨VO (Int.le_max_left _ _) this.1,λk hk=>?_⟩;rcases gK.1 hk with rfl | hk
    ·exact VO (Int.le_max_right _ _) this.1
    ·exact this.2 k hk
  have:=(le (λk=>(iR g.Up i).getD k 0) (g.Up.getD i []) 1).2 k hk;omega
 unfold SW;rw [if_neg (by omega)];exact decide_eq_true key
end
end
end Hud
