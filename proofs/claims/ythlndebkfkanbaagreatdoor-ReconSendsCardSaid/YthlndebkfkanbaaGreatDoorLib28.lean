import Derived.Test.YthlndebkfkanbaaGreatDoorLib27
set_option linter.all false
namespace Hud
open Go
section
def kN (l:List Int) (j:Nat):Int:=if j<l.length then nM (l.getD j 0) 1000000 else 0
def aDY (l:List Int) (j:Nat):0≤kN l j∧kN l j<1000000:=by
 unfold kN;split
 ·exact F4 _ _ (by decide)
 ·decide
def QN (l:List Int) (j:Nat):∃ k:Nat,k<1000000∧kN l j=(k:Int):=⟨(kN l j).toNat,by have:=aDY l j;omega,by have:=aDY l j;omega⟩
def aDZ {b:Int} (hb:tK b) (k2 k3:Nat) (h2:k2<1000000) (h3:k3<1000000):(⟨b,1,1,(k2:Int).tmod 5,[],0,0,0,0,[⟨5,[]⟩],⟨0,0,0⟩,0,[],[],⟨0,0,0⟩,[],(k3:Int).tmod 5,0,[],0,[],0,0⟩:OpM).ok:=by
 have z:tK 0:=⟨by decide,by decide⟩
 have z1:tK 1:=⟨by decide,by decide⟩
 have m2:tK ((k2:Int).tmod 5):=by
  have e:(k2:Int).tmod 5=((k2%5:Nat):Int):=rfl;rw [e];exact ⟨by omega,by omega⟩
 have m3:tK ((k3:Int).tmod 5):=by
  have e:(k3:Int).tmod 5=((k3%5:Nat):Int):=rfl;rw [e];exact ⟨by omega,by omega⟩
 refine ⟨?_,?_,QL,QL,⟨by simp,by simp⟩,EZ (by decide),AD,⟨by simp,by simp⟩,⟨by simp,by simp⟩,⟨by simp,by simp⟩,⟨by simp,by simp⟩⟩
 ·intro n hn;simp only [gK,pQ,or_false] at hn;rcases hn with rfl | rfl | rfl | rfl | rfl | rfl | rfl | rfl | rfl | rfl | rfl<;>assumption
 ·intro n hn;simp only [gK,pQ,or_false] at hn;rcases hn with rfl | rfl | rfl<;>decide
def WS {o:OpM} (ho:o.ok) {g:GM} (hg:g.ok) (hs:∀ x∈g.I,x.b≤2147483647) {X:List Id} (hX:∀ x∈X,x∈g.I) (hl:X.length≤1000) (d:Int) (k2:Nat):OpM.ok { o with Seq:=aAC X d,At:=IntKind.i64.wrap (WE g X+(k2:Int).tmod 3),Past:=F1 g X }:=by
 have h1:tK (aAC X d):=by
  have a:=UI d X 0;have b:=UJ d 2147483647 X 0 (by decide) (λx hx=>hs x (hX x hx));unfold aAC;exact ⟨by omega,by omega⟩
 have h2:tK (IntKind.i64.wrap (WE g X+(k2:Int).tmod 3)):=cG _;have hi:=ho.ints;refine ⟨?_,ho.nums,ho.epoch,ho.of,⟨nX (YG X) hl,λx hx=>hg.is x (YF X x hx)⟩,ho.path,ho.body,ho.refs,ho.guards,ho.boxes,ho.hist⟩;intro n hn;simp only [gK,pQ,or_false] at hn;rcases hn with rfl | rfl | rfl | rfl | rfl | rfl | rfl | rfl | rfl | rfl | rfl
 ·exact hi _ (by simp)
 ·exact h1
 ·exact hi _ (by simp)
 ·exact h2
 all_goals exact hi _ (by simp)
section
variable {G:Nat→Option (List AV)}
set_option maxHeartbeats 1000000
def aD3 (g:GM) (hg:g.ok) (hs:∀ x∈g.I,x.b≤2147483647) (hc:g.Cards≠[]) (h200:g.L.length≤200) (l:List Int) (hl:l.length≤9223372036854775807) (hi:∀ n∈l,tK n) :
  aC PQ G Fg [.ag g.A,AM l] [] λr T=>(∃ o:OpM,o.ok∧0≤o.By∧r=.ag (pK o).A)∧T=[]:=by
 have hcl:0<g.Cards.length:=CT.2 hc;have hcn:=hg.cn;obtain ⟨k0,hk0,e0⟩:=QN l 0;obtain ⟨k1,hk1,e1⟩:=QN l 1;obtain ⟨k2,hk2,e2⟩:=QN l 2;obtain ⟨k3,hk3,e3⟩:=QN l 3;refine aF MZ (by decide) ?_;dsimp only [go_sem];simp only [go_sem];refine eF (λs=>s=⟨0,[(2,.ptr 0 0),(4,.ptr 1 0),(5,.own 2)],[some (.box g.A),some (.box (IN 0)),some (.arr 1 [[iv k0],[iv k1],[iv k2],[iv k3]])]⟩) ?_ ?_
 ·refine aO 4 (λi=>⟨0,[(1,AM l),(2,.ptr 0 0),(4,.ptr 1 0),(5,.own 2),(6,iv i)],[some (.box g.A),some (.box (IN 0)),some (.arr 1 ((List.range i).map λj=>[iv (kN l j)]))]⟩) (λ_=>True) ?_ trivial ?_ ?_
  ·simp only [go_sem,IN,KS,eQ]
  ·intro i hi2 _;have ws:=aG (show i<9223372036854775807 by omega);have hd:decide (((i:Nat):Int)<4)=true:=decide_eq_true (by omega);have hr:(List.range i).length=i:=NY;rw [Nc,gQ,cN,eQ];rcases bY i l.length with h1 | h1
   ·have g0:(l.map λn=>[iv n])[i]?=some [iv l[i]]:=aP _ l i h1;have hin:=hi l[i] (jY h1);have hk:kN l i=nM l[i] 1000000:=by rw [kN,if_pos h1,fG,fV h1];rfl
    rw [hk];generalize l[i]=x at *
    simp only [go_sem,IN,aL,hd,aT h1,h1,g0];refine aB (aA _) rfl (B7 x 1000000 hin.1 hin.2 (by decide) (by decide)) rfl ?_;simp only [go_sem,IN,aL,hr,ws,show (i+1)*8≤140737488355328 by omega,show i+1≤maxLen by unfold maxLen;omega]
   ·have hk:kN l i=0:=by rw [kN,if_neg (by omega)]
    rw [hk];simp only [go_sem,IN,aL,hd,aX (show ¬i<l.length by omega),hr,ws,show (i+1)*8≤140737488355328 by omega,show i+1≤maxLen by unfold maxLen;omega]
  ·intro _;simp only [go_sem,aL,show decide (((4:Nat):Int)<4)=false from rfl,IN,show List.range 4=[0,1,2,3] from rfl,cN,eQ,e0,e1,e2,e3]
 rintro s rfl;have hby:IntKind.i64.wrap (1+((k0%g.Cards.length:Nat):Int))=((1+k0%g.Cards.length:Nat):Int):=by
  have:=Aj k0 hcl;rw [aJ (by omega) (by omega)];omega
 have hbo:tK ((1+k0%g.Cards.length:Nat):Int):=by
  have:=Aj k0 hcl;exact ⟨by omega,by omega⟩
 have hne:((g.Cards.length:Int)=0)=False:=by simp;exact hc
 have htm:((k0:Nat):Int).tmod (g.Cards.length:Int)=((k0%g.Cards.length:Nat):Int):=rfl;generalize hbz:((1+k0%g.Cards.length:Nat):Int)=by0 at *
 have hb0:0≤by0:=by omega
 rw [cP];refine eZ (λs=>∃ o:OpM,o.ok∧o.By=by0∧s=⟨0,[(2,.ptr 0 0),(4,.ptr 1 0),(5,.own 2),(8,.ptr 3 0)],[some (.box g.A),some (.box (IN 0)),some (.arr 1 [[iv k0],[iv k1],[iv k2],[iv k3]]),some (.box o.A)]⟩) ?_ ?_
 ·simp only [go_sem,aL,hne,if_false,htm,hby];refine ⟨?_,?_⟩
  ·refine lM (aA _) rfl (Sc by0 hbo k3 hk3) ?_;rintro r T' ⟨⟨o,ho,hoy,rfl⟩,rfl⟩;simp only [go_sem];exact ⟨o,ho,hoy,rfl⟩
  ·refine lM (aA _) rfl (Sc by0 hbo k3 hk3) ?_;rintro r T' ⟨⟨o,ho,hoy,rfl⟩,rfl⟩;simp only [go_sem];exact ⟨o,ho,hoy,rfl⟩
 rintro s ⟨o,ho,hoy,rfl⟩;simp only [go_sem,aL];refine aM (λh=>?_) (λh=>?_)
 ·simp only [go_sem];refine aB (aA _) rfl (aC.asub (Du ⟨o.By,1,1,(k2:Int).tmod 5,[],0,0,0,0,[⟨5,[]⟩],⟨0,0,0⟩,0,[],[],⟨0,0,0⟩,[],(k3:Int).tmod 5,0,[],0,[],0,0⟩ (aDZ (hoy ▸ hbo) k2 k3 hk2 hk3) (by show (0:Int)≤o.By;omega)) ?_) rfl ?_
  ·simp only [kE,kD,oR,Dz,OpM.A,NodeM.A,ids,C0,AM,bl,ul,eQ,cN,beq_self_eq_true,uO,jG,GC,FR];rfl
  simp only [go_sem];exact ⟨_,aDZ (hoy ▸ hbo) k2 k3 hk2 hk3,by show (0:Int)≤o.By;omega,rfl⟩
 ·simp only [go_sem];refine aB (aA _) rfl (P2 g hg) rfl ?_;have hX:∀ x∈iG g.I,x∈g.I:=λx hx=>(fO _).mem_iff.1 hx;have hXl:(iG g.I).length≤g.L.length+4:=by rw [(fO _).length_eq,hg.i];omega
  generalize iG g.I=X at *
  simp only [go_sem];refine aM (λh3=>?_) (λh3=>?_)
  ·have q1:IntKind.i64.wrap ((k1:Int).tdiv 3)=((k1/3:Nat):Int):=by rw [show (k1:Int).tdiv 3=((k1/3:Nat):Int) from rfl,aJ (by omega) (by omega)]
   have q2:IntKind.i64.wrap ((k1:Int).tdiv 100)=((k1/100:Nat):Int):=by rw [show (k1:Int).tdiv 100=((k1/100:Nat):Int) from rfl,aJ (by omega) (by omega)]
   have hL:g.L≠[]:=by intro e;rw [e] at h;simp at h
   clear hX hXl;have hX:=Me (g:=g) hg.i [((k1/3:Nat):Int),((k1/100:Nat):Int)];have hXl:=Mf hg [((k1/3:Nat):Int),((k1/100:Nat):Int)]
   have hC:=YB (G:=G) g hg [((k1/3:Nat):Int),((k1/100:Nat):Int)] (by simp) (by
    intro n hn;simp only [gK,pQ,or_false] at hn
    rcases hn with rfl | rfl<;>exact ⟨by omega,by omega⟩) (by simp) hL
   generalize lL g [((k1/3:Nat):Int),((k1/100:Nat):Int)]=X at *
   simp only [go_sem,q1,q2];refine bS (aA _) rfl rfl hC ?_;rintro r T' ⟨rfl,rfl⟩;refine ⟨by simp only [eY],by simp only [gZ,forall_eq,tQ];exact J7 _,?_⟩;simp only [go_sem];refine aB (aA _) rfl (SL g X hg (by omega)) rfl ?_;simp only [go_sem];refine aB (aA _) rfl (aDU g X o.By (by omega) (λx hx=>by have:=hs x (hX x hx);omega)) rfl ?_;simp only [go_sem];refine aB (aA _) rfl (aAE g X hg (by omega)) rfl ?_;simp only [go_sem];refine aB (aA _) rfl (Du _ (WS ho hg hs hX (by omega) o.By k2) (by show (0:Int)≤o.By;omega)) rfl ?_;simp only [go_sem];exact ⟨_,WS ho hg hs hX (by omega) o.By k2,by show (0:Int)≤o.By;omega,rfl⟩
  ·simp only [go_sem];refine aB (aA _) rfl (SL g X hg (by omega)) rfl ?_;simp only [go_sem];refine aB (aA _) rfl (aDU g X o.By (by omega) (λx hx=>by have:=hs x (hX x hx);omega)) rfl ?_;simp only [go_sem];refine aB (aA _) rfl (aAE g X hg (by omega)) rfl ?_;simp only [go_sem];refine aB (aA _) rfl (Du _ (WS ho hg hs hX (by omega) o.By k2) (by show (0:Int)≤o.By;omega)) rfl ?_;simp only [go_sem];exact ⟨_,WS ho hg hs hX (by omega) o.By k2,by show (0:Int)≤o.By;omega,rfl⟩
end
end
section
def iP:List CardM:=yL [1,2,3,1]
def pM:cardsOk iP:=aB2 _ (by decide) (by decide) (by decide)
def Reach.hyps {cs:List CardM} (hc:cardsOk cs) {g:GM} (h:Reach cs g):g.ok∧(∀ x∈g.I,x.b≤2147483647)∧g.Cards≠[]∧g.L.length≤200:=by
 have gd:=h.good hc;exact ⟨gd.ok,h.seqb,by rw [gd.cards];exact hc.ne,gd.n⟩
section
variable {G:Nat→Option (List AV)}
set_option maxHeartbeats 1000000
def YH (l:List CardM):∀ e∈l.map CardM.A,∀ c∈e,∃ x,c=AV.v x:=by
 intro e he c hc;obtain ⟨y,_,rfl⟩:=dE.1 he;simp only [CardM.A_def,gK,pQ,or_false] at hc;rcases hc with rfl | rfl | rfl | rfl | rfl<;>exact ⟨_,rfl⟩
def Mg:∀ l:List CardM,oR (l.map CardM.A) (l.map CardM.A)=true
 | []=>rfl
 | c::l=>by
  simp only [cN,oR,CardM.A_def,kE,kD,Dz,beq_self_eq_true,uO,jG,Mg l]
def YI (cs:List CardM):aC PQ G Ho [.ls 5 (cs.map CardM.A)] [] λr T=>r=.ag (⟨cs,[],[],[],[]⟩:GM).A∧T=[]:=by
 refine aC.dsub (p:=λr T=>r=.ag [.ls 5 (cs.map CardM.A),.v (.slice none 0 0),.v (.slice none 0 0),.v (.slice none 0 0),.v (.slice none 0 0)]∧T=[]) (aF O8 (by decide) ?_) ?_
 ·simp only [go_sem]
 ·rintro r T' ⟨rfl,rfl⟩;refine ⟨_,?_,rfl,rfl⟩;simp only [kD,kE,GM.A,ids,eQ,Mg,FR,uO,jG]
def Ue (o:OpM):(pK o).By=o.By:=by unfold pK;exact Eq.refl _
def Mh:∀ l:List Id,oR (l.map Id.A) (l.map Id.A)=true
 | []=>rfl
 | c::l=>by
  simp only [cN,oR,Id.A_def,kE,kD,Dz,beq_self_eq_true,uO,jG,Mh l]
def QU (o:OpM) (k d ol rl:Int) (of:Id):OpM:=⟨o.By,o.Seq,k,o.At,o.Past,d,ol,0,rl,[],⟨0,0,0⟩,0,[],[],of,[],0,0,[],0,[],0,0⟩
def I2 {o:OpM} (ho:o.ok) {k d ol rl:Int} {of:Id} (h2:tK k) (h3:tK d) (h4:tK ol) (h5:tK rl) (h6:of.ok):(QU o k d ol rl of).ok:=by
 have z:tK 0:=⟨by decide,by decide⟩
 have hi:=ho.ints;refine ⟨?_,?_,QL,h6,ho.past,KE,AD,⟨by simp [QU],by simp [QU]⟩,⟨by simp [QU],by simp [QU]⟩,⟨by simp [QU],by simp [QU]⟩,⟨by simp [QU],by simp [QU]⟩⟩
 ·intro n hn;simp only [QU,gK,pQ,or_false] at hn;rcases hn with rfl | rfl | rfl | rfl | rfl | rfl | rfl | rfl | rfl | rfl | rfl
  ·exact hi _ (by simp)
  ·exact hi _ (by simp)
  ·exact h2
  ·exact hi _ (by simp)
  all_goals assumption
 ·intro n hn;simp only [QU,gK,pQ,or_false] at hn;rcases hn with rfl | rfl | rfl<;>decide
def QO (o:OpM):(pK o).Kind=o.Kind:=by unfold pK;exact Eq.refl _
def z5:List AV:=[.v (.slice none 0 0),.v (.slice none 0 0),.v (.slice none 0 0),.v (.slice none 0 0),.v (.slice none 0 0)]
def aD4 (l:List Int) (hl:l.length≤9223372036854775807) (hi:∀ n∈l,tK n) :
  aC PQ G Fe [AM l] [] λr T=>(∃ g,Reach iP g∧r=.ag g.A)∧T=[]:=by
 refine aF Ma (by decide) ?_;dsimp only [go_sem];simp only [go_sem];refine bS (aA _) rfl rfl (aB3 [1,2,3,1] (by decide)) ?_;rintro r T' ⟨rfl,rfl⟩;refine ⟨by simp only [eY],by simp only [gZ,forall_eq,tQ];exact YH _,?_⟩;simp only [go_sem];refine aB (aA _) rfl (YI iP) rfl ?_;simp only [go_sem];refine eF (λs=>∃ g,Reach iP g∧s=⟨0,[(2,.ptr 0 0),(3,.ptr 1 0)],[some (.box z5),some (.box g.A)]⟩) ?_ ?_;rotate_left
 ·rintro s ⟨g,hr,rfl⟩;simp only [go_sem,z5];exact ⟨g,hr,rfl⟩
 refine bU (λm s=>∃ (i:Nat) (g:GM),m=14-i∧i≤14∧Reach iP g∧s=⟨0,[(0,AM l),(2,.ptr 0 0),(3,.ptr 1 0),(4,iv i)],[some (.box z5),some (.box g.A)]⟩) 14 ⟨0,_,rfl,by decide,Reach.new,by simp only [go_sem,z5]⟩ ?_;rintro m s ⟨i,g,hm,hi14,hr,rfl⟩;obtain ⟨hg,hs,hcs,h200⟩:=hr.hyps pM;by_cases hgo:i<14∧(i=0∨4*i<l.length)
 rotate_left
 ·rcases bY i 14 with h14 | h14
  ·have h0:¬i=0:=λe=>hgo ⟨h14,.inl e⟩;have h4:¬4*i<l.length:=λe=>hgo ⟨h14,.inr e⟩;have b1:decide ((i:Int)<14)=true:=decide_eq_true (by omega);have b2:((i:Int)==0)=false:=by simpa using h0
   have b3:decide (4*(i:Int)<(l.length:Int))=false:=decide_eq_false (by omega);have w4:IntKind.i64.wrap (4*(i:Int))=4*(i:Int):=aJ (by omega) (by omega);simp only [go_sem,aL,b1,b2,b3,w4,undef];exact ⟨g,hr,rfl⟩
  ·have b1:decide ((i:Int)<14)=false:=decide_eq_false (by omega);simp only [go_sem,aL,b1,undef];exact ⟨g,hr,rfl⟩
 obtain ⟨h14,hgo⟩:=hgo;have ws:=aG (show i<9223372036854775807 by omega);have b1:decide ((i:Int)<14)=true:=decide_eq_true (by omega);have w4:IntKind.i64.wrap (4*(i:Int))=4*(i:Int):=aJ (by omega) (by omega);obtain ⟨k,hk,ek⟩:∃ k:Nat,k≤l.length∧(if (4*(i:Int))<(l.length:Int) then (4*(i:Int)) else (l.length:Int))=(k:Int):=⟨min (4*i) l.length,by omega,by split<;>omega⟩
 have hnx:=aD3 (G:=G) g hg hs hcs h200 (l.drop k) (by rw [tT];omega) (λn hn=>hi n (IS hn));have ht:(l.map λn=>[iv n]).drop k=(l.drop k).map λn=>[iv n]:=by rw [←VK]
 have htt:((l.drop k).map λn=>[iv n]).take (l.length-k)=(l.drop k).map λn=>[iv n]:=pY (by simp);rw [cP];refine eZ (λs=>s=⟨0,[(0,AM l),(2,.ptr 0 0),(3,.ptr 1 0),(4,iv i)],[some (.box z5),some (.box g.A)]⟩) ?_ ?_
 ·rcases hgo with h0 | h4
  ·subst h0;simp only [go_sem,aL,undef]
  ·have b2:((i:Int)==0)=false∨i=0:=by
    rcases Oh i with h | h
    ·exact .inr h
    ·left;simp;omega
   rcases b2 with b2 | h0
   ·have b3:decide (4*(i:Int)<(l.length:Int))=true:=decide_eq_true (by omega);simp only [go_sem,aL,b1,b2,b3,w4,undef]
   ·subst h0;simp only [go_sem,aL,undef]
 rintro s rfl;simp only [go_sem,aL,w4,mx,ek,hk,ht,htt];refine lM (aA _) rfl hnx ?_;rintro r T' ⟨⟨o,ho,hby,hr1⟩,rfl⟩;obtain ⟨o1,ho',hby',rfl⟩:∃ o1:OpM,o1.ok∧0≤o1.By∧r=.ag o1.A:=⟨pK o,rA ho,by rw [Ue];exact hby,hr1⟩
 clear ho hby
 have hdl:(l.drop k).length=l.length-k:=tT;have hdi:∀ n∈l.drop k,tK n:=λn hn=>hi n (IS hn);clear hnx;clear ht htt ek;generalize l.drop k=c at *
 simp only [go_sem,z5];have z0:tK 0:=⟨by decide,by decide⟩
 have id1:(⟨1,1,0⟩:Id).ok:=⟨⟨by decide,by decide⟩,⟨by decide,by decide⟩,by decide,by decide⟩
 refine aM (λhc3=>?_) (λhc3=>?_)
 ·have h3:3<c.length:=by have:=of_decide_eq_true hc3;omega
  have g3:(c.map λn=>[iv n])[3]?=some [iv (c.getD 3 0)]:=by rw [eD,fG,fV h3];rfl
  have hin:tK (c.getD 3 0):=by rw [fG,fV h3];exact hdi _ (jY h3)
  simp only [go_sem,z5,aL,h3,g3];refine aB (aA _) rfl (B7 (c.getD 3 0) 1000000 hin.1 hin.2 (by decide) (by decide)) rfl ?_;have hn0:0≤nM (c.getD 3 0) 1000000:=(F4 _ _ (by decide)).1;generalize nM (c.getD 3 0) 1000000=n at *
  cases kb:(o1.Kind !=1)
  ·simp only [go_sem,z5,undef,kb];refine aB (aA _) rfl (ET g o1 hg ho') rfl ?_;simp only [go_sem,z5];refine aM (λhe=>?_) (λhe=>?_)
   ·simp only [go_sem,z5,ws];exact ⟨13-i,by omega,i+1,_,by omega,by omega,hr.add ho' (IH ho'),rfl⟩
   ·simp only [go_sem,z5,ws];exact ⟨13-i,by omega,i+1,g,by omega,by omega,hr,rfl⟩
  cases m3:(n.tmod 3==1)
  ·cases m6:(n.tmod 6==2)
   ·simp only [go_sem,z5,undef,kb,m3,m6];refine aB (aA _) rfl (ET g o1 hg ho') rfl ?_;simp only [go_sem,z5];refine aM (λhe=>?_) (λhe=>?_)
    ·simp only [go_sem,z5,ws];exact ⟨13-i,by omega,i+1,_,by omega,by omega,hr.add ho' (IH ho'),rfl⟩
    ·simp only [go_sem,z5,ws];exact ⟨13-i,by omega,i+1,g,by omega,by omega,hr,rfl⟩
   ·simp only [go_sem,z5,undef,kb,m3,m6];refine aB (aA _) rfl (aC.asub (Du (QU o1 13 (IntKind.i64.wrap (1+(IntKind.i64.wrap ((n).tdiv 6)).tmod 5)) (IntKind.i64.wrap (1+(IntKind.i64.wrap ((n).tdiv 30)).tmod 4)) 0 ⟨1,1,0⟩) (I2 ho' ⟨by decide,by decide⟩ (cG _) (cG _) z0 id1) hby') ?_) rfl ?_
    ·simp only [kE,kD,oR,Dz,OpM.A,QU,ids,C0,AM,bl,ul,eQ,cN,beq_self_eq_true,uO,jG,GC,FR,Mh];rfl
    simp only [go_sem,z5,undef,kb,m3,m6];refine aB (aA _) rfl (ET g (pK (QU o1 13 (IntKind.i64.wrap (1+(IntKind.i64.wrap ((n).tdiv 6)).tmod 5)) (IntKind.i64.wrap (1+(IntKind.i64.wrap ((n).tdiv 30)).tmod 4)) 0 ⟨1,1,0⟩)) hg (rA (I2 ho' ⟨by decide,by decide⟩ (cG _) (cG _) z0 id1))) rfl ?_;simp only [go_sem,z5];refine aM (λhe=>?_) (λhe=>?_)
    ·simp only [go_sem,z5,ws];exact ⟨13-i,by omega,i+1,_,by omega,by omega,hr.add (rA (I2 ho' ⟨by decide,by decide⟩ (cG _) (cG _) z0 id1)) (IH (rA (I2 ho' ⟨by decide,by decide⟩ (cG _) (cG _) z0 id1))),rfl⟩
    ·simp only [go_sem,z5,ws];exact ⟨13-i,by omega,i+1,g,by omega,by omega,hr,rfl⟩
  ·simp only [go_sem,z5,undef,kb,m3];refine aB (aA _) rfl (aC.asub (Du (QU o1 2 (IntKind.i64.wrap (1+(IntKind.i64.wrap ((n).tdiv 3)).tmod 5)) 0 (IntKind.i64.wrap (1+(IntKind.i64.wrap ((n).tdiv 15)).tmod 3)) ⟨0,0,0⟩) (I2 ho' ⟨by decide,by decide⟩ (cG _) z0 (cG _) QL) hby') ?_) rfl ?_
   ·simp only [kE,kD,oR,Dz,OpM.A,QU,ids,C0,AM,bl,ul,eQ,cN,beq_self_eq_true,uO,jG,GC,FR,Mh];rfl
   have kb2:((pK (QU o1 2 (IntKind.i64.wrap (1+(IntKind.i64.wrap ((n).tdiv 3)).tmod 5)) 0 (IntKind.i64.wrap (1+(IntKind.i64.wrap ((n).tdiv 15)).tmod 3)) ⟨0,0,0⟩)).Kind !=1)=true:=by rw [QO];rfl
   have m6:(n.tmod 6==2)=false:=by
    rw [Us hn0] at m3 ⊢;simp only [beq_iff_eq] at m3;simp only [beq_eq_false_iff_ne,ne_eq];omega
   simp only [go_sem,z5,undef,kb2,m6];refine aB (aA _) rfl (ET g (pK (QU o1 2 (IntKind.i64.wrap (1+(IntKind.i64.wrap ((n).tdiv 3)).tmod 5)) 0 (IntKind.i64.wrap (1+(IntKind.i64.wrap ((n).tdiv 15)).tmod 3)) ⟨0,0,0⟩)) hg (rA (I2 ho' ⟨by decide,by decide⟩ (cG _) z0 (cG _) QL))) rfl ?_;simp only [go_sem,z5];refine aM (λhe=>?_) (λhe=>?_)
   ·simp only [go_sem,z5,ws];exact ⟨13-i,by omega,i+1,_,by omega,by omega,hr.add (rA (I2 ho' ⟨by decide,by decide⟩ (cG _) z0 (cG _) QL)) (IH (rA (I2 ho' ⟨by decide,by decide⟩ (cG _) z0 (cG _) QL))),rfl⟩
   ·simp only [go_sem,z5,ws];exact ⟨13-i,by omega,i+1,g,by omega,by omega,hr,rfl⟩
 ·cases kb:(o1.Kind !=1)
  ·simp only [go_sem,z5,undef,kb];refine aB (aA _) rfl (ET g o1 hg ho') rfl ?_;simp only [go_sem,z5];refine aM (λhe=>?_) (λhe=>?_)
   ·simp only [go_sem,z5,ws];exact ⟨13-i,by omega,i+1,_,by omega,by omega,hr.add ho' (IH ho'),rfl⟩
   ·simp only [go_sem,z5,ws];exact ⟨13-i,by omega,i+1,g,by omega,by omega,hr,rfl⟩
  ·simp only [go_sem,z5,undef,kb,show ((0:Int).tmod 3==1)=false from rfl,show ((0:Int).tmod 6==2)=false from rfl];refine aB (aA _) rfl (ET g o1 hg ho') rfl ?_;simp only [go_sem,z5];refine aM (λhe=>?_) (λhe=>?_)
   ·simp only [go_sem,z5,ws];exact ⟨13-i,by omega,i+1,_,by omega,by omega,hr.add ho' (IH ho'),rfl⟩
   ·simp only [go_sem,z5,ws];exact ⟨13-i,by omega,i+1,g,by omega,by omega,hr,rfl⟩
end
end
section
def QP (n m:Nat) (h:n≤9223372036854775807):IntKind.i64.wrap (((n:Nat):Int).tdiv ((m:Nat):Int))=((n/m:Nat):Int):=by
 rw [←Int.ofNat_tdiv];exact Gk (nX (Qm n m) h)
def aJl (n:Nat) (h:n≤9223372036854775807):IntKind.i64.wrap (((n:Nat):Int).tdiv 2)=((n/2:Nat):Int):=QP n 2 h
def aD5 (n:Nat) (h:n≤9223372036854775807):IntKind.i64.wrap (((n:Nat):Int).tdiv 4)=((n/4:Nat):Int):=QP n 4 h
def aGO (n:Nat) (h:n≤9223372036854775807):IntKind.i64.wrap (((n:Nat):Int).tdiv 8)=((n/8:Nat):Int):=QP n 8 h
def HS (a b k:Nat) (l:List Nat):Prop:=SR (a+k) b l∧∀ p q,a≤p→p<a+k→a+k≤q→q<b→l.getD p 0≤l.getD q 0
def aD6 {a b k:Nat} {l:List Nat} (hb:b≤l.length) (hk:a+k<b) (h:HP a 0 (k+1) l) (hs:HS a b (k+1) l):HP a 1 k (iF l a (a+k))∧HS a b k (iF l a (a+k)):=by
 have hg:=pI l a (a+k) (by omega) (by omega);have ht:=aEJ h;have ht2:∀ p,a≤p→p≤a+k→l.getD p 0≤l.getD a 0:=λp h1 h2=>by have:=ht (p-a) (by omega);rwa [show a+(p-a)=p by omega] at this
 refine ⟨λp c h1 h2 h3=>?_,λi j h1 h2 h3=>?_,λp q h1 h2 h3 h4=>?_⟩
 ·rw [hg,hg,if_neg (by omega),if_neg (by omega),if_neg (by omega),if_neg (by omega)];exact h p c (by omega) h2 (by omega)
 ·rw [hg,hg];by_cases hi:i=a+k
  ·rw [if_pos hi];by_cases hj:j=a+k
   ·rw [if_pos hj];exact fW _
   ·rw [if_neg hj,if_neg (by omega)];exact hs.2 a j (fW _) (by omega) (by omega) h3
  ·rw [if_neg hi,if_neg (by omega),if_neg (by omega),if_neg (by omega)];exact hs.1 i j (by omega) h2 h3
 ·rw [hg,hg,if_neg (by omega:¬p=a+k)];have hp:(if p=a then l.getD (a+k) 0 else l.getD p 0)≤l.getD a 0∧∀ q,a+(k+1)≤q→q<b→(if p=a then l.getD (a+k) 0 else l.getD p 0)≤l.getD q 0:=by
   split
   ·exact ⟨ht2 _ (by omega) (fW _),λq h5 h6=>hs.2 (a+k) q (by omega) (by omega) h5 h6⟩
   ·exact ⟨ht2 _ h1 (by omega),λq h5 h6=>hs.2 p q h1 (by omega) h5 h6⟩
  by_cases hq:q=a+k
  ·rw [if_pos hq];exact hp.1
  ·rw [if_neg hq,if_neg (show ¬q=a by omega)];exact hp.2 q (by omega) h4
def aGP {a b k:Nat} {l l':List Nat} (hb:a+k≤l.length) (hs:HS a b k l) (hp:PR a (a+k) l l'):HS a b k l':=by
 refine ⟨hs.1.outside hp (.inr (by omega)),λp q h1 h2 h3 h4=>?_⟩;rw [hp.2.1 q (.inr h3)];exact hp.all hb (Q:=λx=>x≤l.getD q 0) (λi h5 h6=>hs.2 i q h5 h6 h3 h4) p h1 h2
section
variable {G:Nat→Option (List AV)}
set_option maxHeartbeats 1000000
end
end
section
def Sf (n:Nat) (h:n<256):IntKind.u8.wrap (n:Int)=(n:Int):=by
 simp only [IntKind.wrap,IntKind.bits,IntKind.signed];simp;omega
section
variable {G:Nat→Option (List AV)}
def aD7 (x:Nat) (hx:x<65536):aC PQ G nR [.v (.int .u64 (x:Int))] [] λr T'=>(∃ n:Nat,r=.v (.int .i64 (n:Int))∧n≤16∧x<2^n∧(x=0∨2^n≤2*x))∧T'=[]:=by
 refine aF vE (by decide) ?_;unfold sV;generalize hb:bs _=tab;have key:(List.range 256).all (λi=>match tab.data[i]? with | some t=>decide (t.toNat≤8∧i<2^t.toNat∧(i=0∨2^t.toNat≤2*i)) | none=>false)=true:=by rw [←hb];decide +kernel
 clear hb;have ht:∀ i,i<256→∃ t,tab.data[i]?=some t∧t.toNat≤8∧i<2^t.toNat∧(i=0∨2^t.toNat≤2*i):=by
  intro i hi;have:=kY.1 key i (rV.2 hi);split at this
  ·rename_i t h;exact ⟨t,h,of_decide_eq_true this⟩
  ·cases this
 have e1:decide ((x:Int)≥4294967296)=false:=decide_eq_false (by omega);have e2:decide ((x:Int)≥65536)=false:=decide_eq_false (by omega);by_cases h:256≤x
 ·have e3:decide ((x:Int)≥256)=true:=decide_eq_true (by omega);have sh:aZ .shr (.int .u64 (x:Int)) (.int .u64 8)=some (.int .u64 ((x/256:Nat):Int)):=by
   have:(x:Int).fdiv (2^min 8 64)=((x/256:Nat):Int):=by simp [VD]
   rw [←this];simp only [aZ];rfl
  obtain ⟨t,t1,t2,t3,t4⟩:=ht (x/256) (by omega);have w1:=Gk (show t.toNat≤9223372036854775807 by omega);have w2:IntKind.i64.wrap (IntKind.i64.wrap 8+(t.toNat:Int))=((8+t.toNat:Nat):Int):=by rw [show IntKind.i64.wrap 8=8 from rfl,aJ (by omega) (by omega)];omega
  have w3:IntKind.i64.wrap (8+(t.toNat:Int))=((8+t.toNat:Nat):Int):=by rw [aJ (by omega) (by omega)];omega
  simp only [go_sem,e1,e2,e3,↓sh,Sf _ (show x/256<256 by omega),t1,w1,w2,w3];refine ⟨8+t.toNat,rfl,by omega,?_,.inr ?_⟩
  ·rw [Qv];have:(2:Nat)^8=256:=rfl;omega
  ·rw [Qv];have:(2:Nat)^8=256:=rfl;omega
 ·have e3:decide ((x:Int)≥256)=false:=decide_eq_false (by omega);obtain ⟨t,t1,t2,t3,t4⟩:=ht x (by omega);have w1:=Gk (show t.toNat≤9223372036854775807 by omega);have w2:IntKind.i64.wrap (0+(t.toNat:Int))=(t.toNat:Int):=by rw [Int.zero_add];exact w1
  simp only [go_sem,e1,e2,e3,Sf _ (show x<256 by omega),t1,w1,w2];exact ⟨t.toNat,rfl,by omega,t3,t4⟩
def aE0 (x:Nat) (hx:x<65536):aC PQ G kR [.v (.int .u64 (x:Int))] [] λr T'=>(∃ n:Nat,r=.v (.int .i64 (n:Int))∧n≤16∧x<2^n∧(x=0∨2^n≤2*x))∧T'=[]:=by
 refine aF xZ (by decide) ?_;unfold vR;simp only [go_sem];refine lM (aA _) rfl (aD7 x hx) ?_;rintro r T' ⟨⟨n,rfl,hn⟩,rfl⟩;simp only [go_sem];exact ⟨n,rfl,hn⟩
def YJ (n:Nat) (h:n≤16):aZ .shl (.int .u64 1) (.int .i64 (n:Int))=some (.int .u64 ((2^n:Nat):Int)):=by
 have h2:(2:Nat)^n≤2^16:=Ms (by omega) h;have e:(1:Int)*2^(min ((n:Int)).toNat 64)=((2^n:Nat):Int):=by
  rw [KK,KN (by omega),Int.one_mul];exact (ZA 2 n).symm
 have:IntKind.u64.wrap ((1:Int)*2^(min ((n:Int)).toNat 64))=((2^n:Nat):Int):=by
  rw [e,bG _ (by omega)]
 rw [←this];simp only [aZ];rw [if_neg (by omega)];rfl
def YK (n:Nat) (hn:0<n) (hx:n<65536):aC PQ G lS [.v (.int .i64 (n:Int))] [] λr T'=>(∃ m:Nat,r=.v (.int .u64 (m:Int))∧n<m∧m≤2*n)∧T'=[]:=by
 refine aF xX (by decide) ?_;simp only [go_sem,bG n (by omega)];refine lM (aA _) rfl (aE0 n hx) ?_;rintro r T' ⟨⟨k,rfl,h1,h2,h3⟩,rfl⟩;simp only [go_sem,↓YJ k h1];exact ⟨2^k,rfl,h2,by omega⟩
def Uf (x:Int) (y:Nat) (hy:y<18446744073709551616):∃ z:Nat,z≤y∧aZ .and (.int .u64 x) (.int .u64 (y:Int))=some (.int .u64 (z:Int)):=by
 refine ⟨(BitVec.ofInt 64 x &&& BitVec.ofInt 64 (y:Int)).toNat,?_,?_⟩
 ·have h1:(BitVec.ofInt 64 (y:Int)).toNat=y:=by rw [Cf];omega
  rw [KR,h1];exact Nat.and_le_right
 ·have:aZ .and (.int .u64 (x:Int)) (.int .u64 (y:Int))=some (.int .u64 (IntKind.u64.wrap ((BitVec.ofInt 64 (x:Int) &&& BitVec.ofInt 64 (y:Int)).toNat:Int))):=by
   simp only [aZ,if_true];rfl
  rw [this,bG _ (BitVec.isLt _)]
def aFh (x:Int):aC PQ G mO [.ptr 0 0] [some (.box [.v (.int .u64 x)])] λr T'=>∃ z:Int,r=.v (.int .u64 z)∧T'=[some (.box [.v (.int .u64 z)])]:=by
 refine aF yO (by decide) ?_;simp only [go_sem];exact ⟨_,rfl,rfl⟩
end
end
section
section
variable {G:Nat→Option (List AV)}
set_option maxHeartbeats 1000000
def Ug (x y:Nat) (h:y≤x) (h2:x<18446744073709551616):aZ .sub (.int .u64 (x:Int)) (.int .u64 (y:Int))=some (.int .u64 ((x-y:Nat):Int)):=by
 simp only [aZ,if_true];rw [show (x:Int)-(y:Int)=((x-y:Nat):Int) from by omega,bG _ (by omega)]
end
end
end Hud
