import Derived.Test.YthlndebkfkanbaaGreatDoorLib21
set_option linter.all false
namespace Hud
open Go
section
section
variable {G:Nat→Option (List AV)}
set_option maxHeartbeats 4000000
def aGE (l:List Int) (x:Int) (hl:l.length<9223372036854775807):aC PQ G EG [AM l,iv x] [] λr T=>r=.v (.bool (decide (x∈l)))∧T=[]:=by
 refine aF Pn (by decide) ?_;simp only [go_sem];refine aO l.length (λi=>⟨0,[(0,AM l),(1,iv x),(5,iv i)],[]⟩) (λi=>∀ j (hj:j<l.length),j<i→l[j]≠x) ?_ (by intro j hj h;omega) ?_ ?_
 ·simp only [go_sem]
 ·intro i hi hJ;have g0:(l.map λn=>[iv n])[i]?=some [iv l[i]]:=aP _ l i hi;simp only [go_sem,aL,aT hi,hi,g0];refine aM (λh=>?_) (λh=>?_)<;>simp only [go_sem,aG (show i<9223372036854775807 by omega)]
  ·have e:x∈l:=by have:=jY hi;simp only [beq_iff_eq] at h;rw [h] at this;exact this
   rw [decide_eq_true e]
  ·intro j hj hji;rcases bY j i with h1 | h1
   ·exact hJ j hj h1
   ·obtain rfl:j=i:=by omega
    simpa using h
 ·intro hJ;have e:¬x∈l:=λhm=>by
   obtain ⟨j,hj,he⟩:=AH hm;exact hJ j hj hj he
  simp only [go_sem,aL,aX (cZ _),decide_eq_false e]
def wR (g:GM) (x:Id) (hg:g.ok):aC PQ G jO [.ag g.A,.ag x.A] [] λr T=>r=iv (aR g.I x)∧T=[]:=by
 refine aF LH (by decide) ?_;have hl:g.I.length<9223372036854775807:=by have:=hg.i;have:=hg.n;omega
 simp only [go_sem];refine aO g.I.length (λi=>⟨0,[(2,.ptr 0 0),(3,.ptr 1 0),(5,iv i)],[some (.box g.A),some (.box x.A)]⟩) (λi=>∀ j (hj:j<g.I.length),j<i→decide (g.I[j]=x)=false) ?_ (by intro j hj h;omega) ?_ ?_
 ·simp only [go_sem]
 ·intro i hi hJ;have g0:(g.I.map Id.A)[i]?=some g.I[i].A:=aP _ g.I i hi;simp only [go_sem,aL,aT hi,hi,g0];refine aM (λh=>?_) (λh=>?_)<;>simp only [go_sem,aG (show i<9223372036854775807 by omega)]
  ·rw [aR,uC hi hJ h]
  ·intro j hj hji;rcases bY j i with h1 | h1
   ·exact hJ j hj h1
   ·obtain rfl:j=i:=by omega
    exact h
 ·intro hJ;simp only [go_sem,aL,aX (cZ _)];rw [aR,uB λj hj=>hJ j hj hj]
def aAz (g:GM) (d:Int) (hg:g.ok):aC PQ G Ff [.ag g.A,iv d] [] λr T=>r=.tup [.ag (jT g.Cards d).1.A,.v (.bool (jT g.Cards d).2)]∧T=[]:=by
 refine aF M0 (by decide) ?_;have hl:g.Cards.length<9223372036854775807:=by have:=hg.cn;omega
 simp only [go_sem];refine aO g.Cards.length (λi=>⟨0,[(1,iv d),(2,.ptr 0 0),(4,.ptr 1 0),(6,iv i)],[some (.box g.A),some (.box [iv 0,iv 0,AV.v (.int .u64 0),AV.v (.int .u64 0),AV.v (.int .u64 0)])]⟩) (λi=>∀ j (hj:j<g.Cards.length),j<i→(g.Cards[j].Device==d)=false) ?_ (by intro j hj h;omega) ?_ ?_
 ·simp only [go_sem]
 ·intro i hi hJ;have g0:(g.Cards.map CardM.A)[i]?=some [iv g.Cards[i].Device,iv g.Cards[i].Member,uv g.Cards[i].Lead,uv g.Cards[i].Keep,uv g.Cards[i].Sign]:=aP _ g.Cards i hi;simp only [go_sem,aL,aT hi,hi,g0];refine aM (λh=>?_) (λh=>?_)<;>simp only [go_sem,aL,hi,g0,aG (show i<9223372036854775807 by omega)]
  ·have e:g.Cards.find? (λc=>c.Device==d)=some g.Cards[i]:=aDj.2 ⟨h,i,hi,rfl,λj hj=>by simp [hJ j (by omega) hj]⟩;simp only [jT,e,CardM.A_def]
  ·intro j hj hji;rcases bY j i with h1 | h1
   ·exact hJ j hj h1
   ·obtain rfl:j=i:=by omega
    exact h
 ·intro hJ;have e:g.Cards.find? (λc=>c.Device==d)=none:=Mu.2 λx hx=>by
   obtain ⟨j,hj,rfl⟩:=AH hx;simp [hJ j hj hj]
  simp only [go_sem,aL,aX (cZ _),jT,e,CardM.A_def];rfl
def aCJ (l:List Nat):OA l=AM (l.map λn:Nat=>(n:Int)):=by simp only [OA,AM,Ee];rfl
def aAA {l:List Nat} {i:Nat}:decide ((i:Int)∈l.map λn:Nat=>(n:Int))=decide (i∈l):=by
 rw [oU];simp only [decide_eq_true_eq,dE];constructor
 ·rintro ⟨k,hk,e⟩;obtain rfl:k=i:=by omega
  exact hk
 ·intro h;exact ⟨i,h,rfl⟩
def vG (u:List Nat) (b:List Bool):(u.foldl (λb k=>b.set k true) b).length=b.length:=by
 induction u generalizing b with
 | nil=>rfl
 | cons k u ih=>rw [HO,ih,mA]
def OK (Up:List (List Nat)) (up:List Nat) (a:List Bool) (i:Nat):(L3 Up up a i).length=a.length:=by
 unfold L3;split<;>split<;>simp [vG]
def OL (Up:List (List Nat)) (up:List Nat):∀ (n:Nat) (a:List Bool),(Ir Up up n a).length=a.length
 | 0,_=>rfl
 | n+1,a=>by rw [Ir,OL Up up n,OK]
def BP (g:GM) (up:List Nat):(nB g up).length=g.L.length:=by rw [nB,OL,KI]
def HB (u:List Nat) (b:List Bool) (i:Nat) (h:i<u.length):(u.take (i+1)).foldl (λb k=>b.set k true) b=((u.take i).foldl (λb k=>b.set k true) b).set u[i] true:=by
 rw [oT h,VB];rfl
def aF1 (l:List Nat) (i:Nat) (hl:l.length<9223372036854775807):aC PQ G EG [OA l,iv i] [] λr T=>r=.v (.bool (decide (i∈l)))∧T=[]:=by
 rw [aCJ,←aAA];exact aGE _ (i:Int) (by simpa using hl)
abbrev P0 (a:List Bool):List (List AV):=a.map λb=>[AV.v (.bool b)]
def P1 (a:List Bool) (i:Nat) (b:Bool):(P0 a).set i [AV.v (.bool b)]=P0 (a.set i b):=by simp only [P0,GI]
def UH (g:GM) (up:List Nat) (hg:g.ok) (hu:up.length≤1000):aC PQ G Bm [.ag g.A,OA up] [] λr T=>r=.own 0∧T=[some (.arr 1 (P0 (nB g up)))]:=by
 refine aF M3 (by decide) ?_;have hn:=hg.n;have b1:(g.L.length:Int)*1≤140737488355328:=by omega
 have b2:(g.L.length:Int)≤(maxLen:Nat):=by unfold maxLen;omega
 have hz:(0:Int)≤(g.L.length:Int):=by omega
 have w1:IntKind.i64.wrap ((g.L.length:Int)-1)=(g.L.length:Int)-1:=aJ (by omega) (by omega);simp only [go_sem,aL,b1,b2,hz,w1,IZ];refine bU (λn s=>∃ a:List Bool,a.length=g.L.length∧n≤g.L.length∧Ir g.Up up n a=nB g up∧s=⟨0,[(1,OA up),(2,.ptr 0 0),(5,.own 1),(6,iv ((n:Int)-1))],[some (.box g.A),some (.arr 1 (P0 a))]⟩) g.L.length ⟨List.replicate g.L.length false,by simp,fW _,rfl,?_⟩ ?_
 ·simp only [go_sem,U7]
 rintro n s ⟨a,ha,hnl,hR,rfl⟩
 cases n with
 | zero =>
  have t1:decide ((0:Int)≤((0:Nat):Int)-1)=false:=by decide
  rw [←hR];simp only [go_sem,ge_iff_le,t1,Ir]
 | succ i =>
  have e0:(((i+1:Nat):Int)-1)=(i:Int):=by omega
  have t1:decide ((0:Int)≤(i:Int))=true:=decide_eq_true (by omega);have w2:IntKind.i64.wrap ((i:Int)-1)=(i:Int)-1:=aJ (by omega) (by omega);rw [e0];simp only [go_sem,ge_iff_le,t1];refine aB (aA _) rfl (aF1 up i (by omega)) rfl ?_;obtain ⟨a1,ha1⟩:∃ a1,a1=(if decide (i∈up) then a.set i true else a):=⟨_,rfl⟩
  have hl1:a1.length=g.L.length:=by rw [ha1];split<;>simp [ha]
  have hil:i<g.L.length:=by omega
  have g0:(P0 a)[i]?=some [AV.v (.bool (a.getD i false))]:=by rw [P0,eD,fG,fV (by omega)];rfl
  have g1:(P0 a1)[i]?=some [AV.v (.bool (a1.getD i false))]:=by rw [P0,eD,fG,fV (by omega)];rfl
  have hU:(g.Up.map λl=>[OA l])[i]?=some [OA (g.Up.getD i [])]:=by rw [eD,fG,fV (by rw [hg.un];omega)];rfl
  have hUm:g.Up.getD i []∈g.Up:=by rw [fG,fV (by rw [hg.un];omega)];exact jY _
  obtain ⟨hul,huk⟩:=hg.up _ hUm;have hstep:L3 g.Up up a i=if a1.getD i false then (g.Up.getD i []).foldl (λb k=>b.set k true) a1 else a1:=by rw [ha1];rfl
  rw [Ir,hstep] at hR;have hul2:=hg.un;clear hstep;generalize g.Up.getD i []=u at *
  simp only [go_sem];refine aM (λh=>?_) (λh=>?_)
  ·have hs:=P1 a i true;have hai:a1=a.set i true:=by rw [ha1,if_pos h]
   simp only [go_sem,aL,ha,hil,g0,hs,←hai,hl1,g1];cases hb:a1.getD i false
   ·rw [hb] at hR;simp only [jZ,if_false] at hR;simp only [go_sem,w2];exact ⟨i,by omega,a1,hl1,by omega,hR,rfl⟩
   ·rw [hb,if_pos rfl] at hR;simp only [go_sem];refine aO u.length (λj=>⟨0,[(1,OA up),(2,.ptr 0 0),(5,.own 1),(6,iv i),(7,iv j)],[some (.box g.A),some (.arr 1 (P0 ((u.take j).foldl (λb k=>b.set k true) a1)))]⟩) (λ_=>True) ?_ trivial ?_ ?_
    ·simp only [go_sem,mL,Ez]
    ·intro j hj _;have hk:=huk u[j] (jY hj);have gj:(u.map λn:Nat=>[iv (n:Int)])[j]?=some [iv (u[j]:Nat)]:=aP _ u j hj;have hl2:((u.take j).foldl (λb k=>b.set k true) a1).length=g.L.length:=by rw [vG,hl1]
     rw [HB u a1 j hj,←P1];generalize (u.take j).foldl (λb k=>b.set k true) a1=c at *
     generalize u[j]=q at *
     have g2:(P0 c)[q]?=some [AV.v (.bool (c.getD q false))]:=by rw [P0,eD,fG,fV (by omega)];rfl
     simp only [go_sem,aL,hU,hil,hul2,aT hj,hj,gj,hl2,hk,g2,aG (show j<9223372036854775807 by omega)]
    ·intro _;rw [kH];simp only [go_sem,aL,hU,hil,hul2,aX (cZ _),w2];exact ⟨i,by omega,_,by rw [vG,hl1],by omega,hR,rfl⟩
  ·have hai:a1=a:=by rw [ha1,if_neg (by rw [h];simp)]
   rw [←hai] at ha g0 ⊢;simp only [go_sem,aL,hl1,hil,g1];cases hb:a1.getD i false
   ·rw [hb] at hR;simp only [jZ,if_false] at hR;simp only [go_sem,w2];exact ⟨i,by omega,a1,hl1,by omega,hR,rfl⟩
   ·rw [hb,if_pos rfl] at hR;simp only [go_sem];refine aO u.length (λj=>⟨0,[(1,OA up),(2,.ptr 0 0),(5,.own 1),(6,iv i),(7,iv j)],[some (.box g.A),some (.arr 1 (P0 ((u.take j).foldl (λb k=>b.set k true) a1)))]⟩) (λ_=>True) ?_ trivial ?_ ?_
    ·simp only [go_sem,mL,Ez]
    ·intro j hj _;have hk:=huk u[j] (jY hj);have gj:(u.map λn:Nat=>[iv (n:Int)])[j]?=some [iv (u[j]:Nat)]:=aP _ u j hj;have hl2:((u.take j).foldl (λb k=>b.set k true) a1).length=g.L.length:=by rw [vG,hl1]
     rw [HB u a1 j hj,←P1];generalize (u.take j).foldl (λb k=>b.set k true) a1=c at *
     generalize u[j]=q at *
     have g2:(P0 c)[q]?=some [AV.v (.bool (c.getD q false))]:=by rw [P0,eD,fG,fV (by omega)];rfl
     simp only [go_sem,aL,hU,hil,hul2,aT hj,hj,gj,hl2,hk,g2,aG (show j<9223372036854775807 by omega)]
    ·intro _;rw [kH];simp only [go_sem,aL,hU,hil,hul2,aX (cZ _),w2];exact ⟨i,by omega,_,by rw [vG,hl1],by omega,hR,rfl⟩
end
end
section
section
variable {G:Nat→Option (List AV)}
set_option maxHeartbeats 4000000
def WC {α:Type} (p:α→Bool) (l:List α) (i:Nat) (h:i<l.length):(l.take (i+1)).any p=((l.take i).any p||p l[i]):=by
 rw [oT h,List.any_append];simp
def WD (g:GM) (o:OpM) (inn:List Bool) (hg:g.ok) (ho:o.ok) (hs:1≤o.Seq) (hi:inn.length=g.L.length):aC PQ G DA [.ag g.A,.ag o.A,Pf inn] [] λr T=>r=.v (.bool (Dk g.L o inn))∧T=[]:=by
 refine aF LR (by decide) ?_;have hn:=hg.n;have hseq:=ho.ints o.Seq (by simp);have w1:IntKind.i64.wrap (o.Seq-1)=o.Seq-1:=aJ (by have:=hseq.1;omega) (by have:=hseq.2;omega);obtain ⟨z,hz⟩:∃ z,z=g.L.zip inn:=⟨_,rfl⟩
 have hzl:z.length=g.L.length:=by rw [hz];simp [hi]
 have hR:Dk g.L o inn=(z.all (λe=>!(Fw o e)||decide (e.1.Seq<o.Seq))&&((o.Seq==1)||z.any λe=>Fw o e&&e.1.Seq==o.Seq-1)):=by rw [hz];rfl
 simp only [go_sem];refine aO g.L.length (λi=>⟨0,[(2,Pf inn),(3,.ptr 0 0),(4,.ptr 1 0),(7,.v (.bool ((z.take i).any λe=>Fw o e&&e.1.Seq==o.Seq-1))),(8,iv i)],[some (.box g.A),some (.box o.A)]⟩) (λi=>∀ j (hj:j<z.length),j<i→(!(Fw o z[j])||decide (z[j].1.Seq<o.Seq))=true) ?_ (by intro j hj h;omega) ?_ ?_
 ·simp only [go_sem,mL,List.any_nil]
 ·intro i hil hJ;have hiz:i<z.length:=by omega
  have g0:(g.L.map OpM.A)[i]?=some g.L[i].A:=aP _ g.L i hil;have g1:(inn.map λb=>[AV.v (.bool b)])[i]?=some [AV.v (.bool inn[i])]:=aP _ inn i (by omega);have hzi:z[i]=(g.L[i],inn[i]):=by subst hz;simp
  have ws:=aG (show i<9223372036854775807 by omega);have hii:i<inn.length:=by omega
  rw [WC _ z i hiz];have hlow:=hJ;have hsuc:(!(Fw o z[i])||decide (z[i].1.Seq<o.Seq))=true→∀ j (hj:j<z.length),j<i+1→(!(Fw o z[j])||decide (z[j].1.Seq<o.Seq))=true:=λh j hj hji=>by
   rcases bY j i with h1 | h1
   ·exact hJ j hj h1
   ·obtain rfl:j=i:=by omega
    exact h
  have hbad:(!(Fw o z[i])||decide (z[i].1.Seq<o.Seq))=false→Dk g.L o inn=false:=λh=>by
   rw [hR,yC (p:=λe=>!(Fw o e)||decide (e.1.Seq<o.Seq)) hiz h,nG]
  rw [hzi] at hsuc hbad ⊢;have hrel:Fw o (g.L[i],inn[i])=(inn[i]&&g.L[i].By==o.By):=rfl;rw [hrel] at hsuc hbad ⊢;clear hJ hlow hzi hrel;generalize ((z.take i).any λe=>Fw o e&&e.1.Seq==o.Seq-1)=one;generalize inn[i]=b at *
  generalize g.L[i]=x at *
  have hne:(x.By !=o.By)=!(x.By==o.By):=rfl;simp only [go_sem,aL,aT hil,hil,hii,g0,g1];cases b
  ·simp only [go_sem,undef,ws,nG,KU];exact hsuc rfl
  simp only [go_sem,aL,hil,hii,g0,g1,hne];cases hby:(x.By==o.By)
  ·simp only [go_sem,undef,ws,jG,nG,KU,hby];exact hsuc (by rw [hby];rfl)
  rw [hby] at hsuc hbad;simp only [go_sem,aL,hil,hii,g0,g1,ge_iff_le];have hd:decide (o.Seq≤x.Seq)=!decide (x.Seq<o.Seq):=by rw [oU];simp
  rw [hd];cases hlt:decide (x.Seq<o.Seq)
  ·rw [hlt] at hbad;simp only [go_sem,hbad rfl]
  rw [hlt] at hsuc;simp only [go_sem];cases one
  ·simp only [go_sem,undef,ws,aL,hil,g0,w1,jG,Ci];exact hsuc rfl
  ·simp only [go_sem,undef,ws,aL,hil,g0,w1,jG,E5];exact hsuc rfl
 intro hJ;have hall:=yD (p:=λe=>!(Fw o e)||decide (e.1.Seq<o.Seq)) λj hj _=>hJ j hj (by omega);rw [←hzl,kH];rw [hR,hall,jG];simp only [go_sem,aL,hzl,aX (cZ _)];cases h1:(o.Seq==1)
 ·simp only [go_sem,Ci,h1]
 ·simp only [go_sem,undef,E5,h1]
def rM (I:List Id) (x:Id):aR I x<I.length∧-1≤aR I x:=by
 unfold aR DK
 cases h:I.findIdx? (λy=>decide (y=x)) with
 | none=>simp;omega
 | some i =>
  obtain ⟨h1,_⟩:=WY.1 h;simp;omega
def yF (g:GM) (o:OpM) (up:List Nat):Int×List Nat:=if Fx g o up=false then (6,[]) else if Dk g.L o (nB g up)=false then (11,[]) else (0,up)
def AY (g:GM) (o:OpM):Int×List Nat:=match NK g.I o.Past with
 | none=>(10,[])
 | some up=>yF g o up
def Dv (g:GM) (o:OpM):Int×List Nat :=
 if 0≤aR g.I (Af o) then (5,[])
 else if 200≤g.L.length then (3,[])
 else if (jT g.Cards o.By).2=false then (17,[])
 else if CD (jT g.Cards o.By).1.Sign o.B o.SR o.SS=false then (12,[])
 else if (o.Kind==1&&decide (0<g.L.length))=true then (1,[])
 else AY g o
def eK (g:GM) (o:OpM):Int×List Nat:=if uD o≠0 then (uD o,[]) else Dv g o
def CF {o:OpM} (h:uD o=0):1≤o.Seq∧1≤o.By∧o.By≤12∧0≤o.At:=by
 unfold uD at h;split at h
 ·simp at h
 split at h
 ·simp at h
 split at h
 ·simp at h
 ·rename_i hn;have:oL o=true:=by cases e:oL o<;>simp_all
  unfold oL oG at this;simp only [eM,decide_eq_true_eq] at this;omega
def SI {cs:List CardM} {d:Int} (h:∀ c∈cs,c.ok):(jT cs d).1.Sign<18446744073709551616:=by
 unfold jT;split
 ·rename_i c e;exact (h c (NU e)).2.2.2.2
 ·decide
def aAB (g:GM) (o:OpM) (hg:g.ok) (ho:o.ok):aC PQ G yY [.ag g.A,.ag o.A] [] λr T=>r=.tup [iv (eK g o).1,.own 0]∧T=[some (.arr 1 ((eK g o).2.map λn:Nat=>[iv (n:Int)]))]:=by
 refine aF LO (by decide) ?_;have hn:=hg.n;have hpl:=ho.past.1;simp only [go_sem];refine aB (aA _) rfl (aCs o ho) rfl ?_;simp only [go_sem];refine aM (λh=>?_) (λh=>?_)
 ·simp only [bne_iff_ne,ne_eq] at h;simp only [go_sem,eK,h]
 simp only [bne_eq_false_iff_eq] at h;have k1:=h;have hW:eK g o=Dv g o:=by rw [eK,if_neg (by simp [k1])]
 unfold Dv at hW;clear h;simp only [go_sem];refine aB (aA _) rfl (SG o ho) rfl ?_;simp only [go_sem];refine aB (aA _) rfl (wR g (Af o) hg) rfl ?_;simp only [go_sem,ge_iff_le];refine aM (λh=>?_) (λh=>?_)<;>simp only [decide_eq_true_eq,decide_eq_false_iff_not] at h
 ·rw [hW,if_pos h];simp only [go_sem]
 rw [if_neg h] at hW;clear h;have d200:decide ((200:Int)≤(g.L.length:Int))=decide (200≤g.L.length):=by rw [oU];simp;omega
 simp only [go_sem,aL,ge_iff_le,d200];refine aM (λh=>?_) (λh=>?_)<;>simp only [decide_eq_true_eq,decide_eq_false_iff_not] at h
 ·rw [hW,if_pos h];simp only [go_sem]
 rw [if_neg h] at hW;clear h;simp only [go_sem];refine aB (aA _) rfl (aAz g o.By hg) rfl ?_;simp only [go_sem,CardM.A_def];cases hc:(jT g.Cards o.By).2
 ·rw [hW,if_pos hc];simp only [go_sem]
 rw [if_neg (by simp [hc])] at hW;have hcs:=SI (d:=o.By) hg.cs;generalize (jT g.Cards o.By).1=c at *
 simp only [go_sem];refine aS (aA _) rfl (IF o ho) ?_;simp only [go_sem];refine bS (aA _) rfl rfl (SH c.Sign o.B o.SR o.SS hcs (ho.nums o.SR (by simp)) (ho.nums o.SS (by simp)) (o.B_ok ho) (by have:=o.B_len ho;omega)) ?_;rintro r T' ⟨rfl,rfl⟩;refine ⟨by simp only [eY],by simp,?_⟩;simp only [go_sem];cases hsg:CD c.Sign o.B o.SR o.SS
 ·rw [hW,if_pos hsg];simp only [go_sem]
 rw [if_neg (by simp [hsg])] at hW;simp only [go_sem];have hpos:decide ((g.L.length:Int)>0)=decide (0<g.L.length):=by rw [oU];simp
 cases hK:(o.Kind==1);rotate_left
 ·simp only [go_sem,aL,hpos];cases h2:decide (0<g.L.length);rotate_left
  ·rw [hK,h2,if_pos (by simp)] at hW;rw [hW];simp only [go_sem]
  rw [hK,h2,if_neg (by simp)] at hW;clear hpos;have hpI:∀ x:Id,(aR g.I x).toNat<g.L.length∨aR g.I x<0:=λx=>by have:=rM g.I x;have:=hg.i;omega
  simp only [go_sem,undef];refine aO o.Past.length (λi=>⟨0,[(2,.ptr 0 0),(3,.ptr 1 0),(10,.own 2),(11,iv i)],[some (.box g.A),some (.box o.A),some (.arr 1 (((o.Past.take i).map λx=>(aR g.I x).toNat).map λn:Nat=>[iv (n:Int)]))]⟩) (λi=>∀ j (hj:j<o.Past.length),j<i→decide (0≤aR g.I o.Past[j])=true) ?_ (by intro j hj h;omega) ?_ ?_
  ·simp only [go_sem,mL]
  ·intro i hi hJ;have g0:(o.Past.map Id.A)[i]?=some o.Past[i].A:=aP _ o.Past i hi;have ws:=aG (show i<9223372036854775807 by omega);rw [oT hi,gQ,gQ];have ltk:((o.Past.take i).map λx=>(aR g.I x).toNat).length=i:=by rw [aL,hZ];omega
   simp only [go_sem,aL,aT hi,hi,g0];refine aB (aA _) rfl (wR g o.Past[i] hg) rfl ?_;simp only [go_sem];refine aM (λh3=>?_) (λh3=>?_)<;>simp only [decide_eq_true_eq,decide_eq_false_iff_not] at h3
   ·have hf:(o.Past.all λx=>decide (0≤aR g.I x))=false:=yC (p:=λx=>decide (0≤aR g.I x)) hi (decide_eq_false (by omega));rw [hW];simp only [go_sem,AY,NK,hf]
   ·have e1:AV.v (.int .i64 (aR g.I o.Past[i]))=iv (((aR g.I o.Past[i]).toNat:Nat):Int):=by rw [U5 (by omega)]
    have hsuc:=nU (p:=λx=>decide (0≤aR g.I x)) hi hJ (decide_eq_true (by omega));have hmin:min i o.Past.length=i:=KN (Ck hi);simp only [go_sem,aL,hZ,hmin,ws,e1,show i+1≤maxLen by unfold maxLen;omega,show (i+1)*8≤140737488355328 by omega];exact hsuc
  intro hJ;have hall:=yD (p:=λx=>decide (0≤aR g.I x)) hJ;rw [kH];have hW3:eK g o=yF g o (o.Past.map λx=>(aR g.I x).toNat):=by rw [hW,AY,NK,if_pos hall]
  have hub:∀ k∈o.Past.map (λx=>(aR g.I x).toNat),k<g.L.length:=λk hk=>by
   obtain ⟨x,hx,rfl⟩:=dE.1 hk;have:=kY.1 hall x hx;simp only [decide_eq_true_eq] at this;exact (hpI x).resolve_right (by omega)
  have hul:(o.Past.map λx=>(aR g.I x).toNat).length≤1000:=by rw [aL];omega
  generalize hupg:(o.Past.map λx=>(aR g.I x).toNat)=up at *
  clear hW hall hJ hpI;rw [←hupg] at hul;rw [aL] at hul;have hupl:up.length=o.Past.length:=by rw [←hupg,aL]
  simp only [go_sem,aL,aX (cZ _)];refine aO up.length (λi=>⟨0,[(2,.ptr 0 0),(3,.ptr 1 0),(10,.own 2),(13,iv i)],[some (.box g.A),some (.box o.A),some (.arr 1 (up.map λn:Nat=>[iv (n:Int)]))]⟩) (λi=>∀ j (hj:j<up.length),j<i→((up.all λk=>!((g.In.getD up[j] []).getD k false))&&!decide (o.At<(g.L.getD up[j] default).At))=true) ?_ (by intro j hj h;omega) ?_ ?_
  ·simp only [go_sem]
  ·intro i hi hJ;have hui:=hub _ (jY hi);have gi:(up.map λn:Nat=>[iv (n:Int)])[i]?=some [iv (up[i]:Nat)]:=aP _ up i hi;have hin:=hg.inn;have hrow:(g.In.map λl=>[Pf l])[up[i]]?=some [Pf (g.In.getD up[i] [])]:=by rw [eD,fG,fV (by omega)];rfl
   have hrl:(g.In.getD up[i] []).length=g.L.length:=by
    rw [fG,fV (by omega)];exact hg.ins _ (jY _)
   have bK:(g.L.map OpM.A)[up[i]]?=some (g.L.getD up[i] default).A:=by rw [eD,fG,fV hui];rfl
   have hsuc:=λh=>nU (p:=λi=>(up.all λk=>!((g.In.getD i []).getD k false))&&!decide (o.At<(g.L.getD i default).At)) hi hJ h;have hbad:=λh=>yC (p:=λi=>(up.all λk=>!((g.In.getD i []).getD k false))&&!decide (o.At<(g.L.getD i default).At)) hi h;have hbad2:((up.all λk=>!((g.In.getD up[i] []).getD k false))&&!decide (o.At<(g.L.getD up[i] default).At))=false→eK g o=(6,[]):=λh=>by
    rw [hW3,yF,if_pos (show Fx g o up=false from hbad h)]
   clear hbad hJ;generalize up[i]=q at *
   generalize g.In.getD q []=row at *
   generalize g.L.getD q default=oq at *
   simp only [go_sem,aL,aT hi,hi,gi];refine aO up.length (λk=>⟨0,[(2,.ptr 0 0),(3,.ptr 1 0),(10,.own 2),(13,iv i),(14,iv k)],[some (.box g.A),some (.box o.A),some (.arr 1 (up.map λn:Nat=>[iv (n:Int)]))]⟩) (λk=>∀ j (hj:j<up.length),j<k→(λk=>!(row.getD k false)) up[j]=true) ?_ (by intro j hj h;omega) ?_ ?_
   ·simp only [go_sem]
   ·intro k hk hJ2;have huk:=hub _ (jY hk);have gk:(up.map λn:Nat=>[iv (n:Int)])[k]?=some [iv (up[k]:Nat)]:=aP _ up k hk;have gr:(row.map λb=>[AV.v (.bool b)])[up[k]]?=some [AV.v (.bool (row.getD up[k] false))]:=by rw [eD,fG,fV (by omega)];rfl
    have hsuc2:=λh=>nU (p:=λk=>!(row.getD k false)) hk hJ2 h;have hbad3:=λh=>yC (p:=λk=>!(row.getD k false)) hk h;generalize up[k]=p at *
    simp only [go_sem,aL,aT hk,hk,hi,gi,gk,hin,hui,hrow,hrl,huk,gr];cases hb:row.getD p false
    ·rw [hb] at hsuc2;simp only [go_sem,aG (show k<9223372036854775807 by omega)];exact hsuc2 rfl
    ·rw [hb] at hbad3;rw [hbad3 rfl] at hbad2;simp only [go_sem,hbad2 rfl]
   intro hJ2;have hall2:=yD (p:=λk=>!(row.getD k false)) hJ2;rw [hall2] at hsuc hbad2;simp only [go_sem,aL,aX (cZ _),hi,gi,hui,bK];cases hlt:decide (o.At<oq.At)
   ·rw [hlt] at hsuc;simp only [go_sem,aG (show i<9223372036854775807 by omega)];exact hsuc rfl
   ·rw [hlt] at hbad2;simp only [go_sem,hbad2 rfl]
  intro hJ;have hord:Fx g o up=true:=yD (p:=λi=>(up.all λk=>!((g.In.getD i []).getD k false))&&!decide (o.At<(g.L.getD i default).At)) hJ;rw [yF,if_neg (by simp [hord])] at hW3;simp only [go_sem,aL,aX (cZ _)];refine bS (aA _) rfl rfl (UH g up hg (by omega)) ?_;rintro r T' ⟨rfl,rfl⟩;refine ⟨by simp only [eY],by simp only [gZ,tQ,forall_eq,P0,dE];rintro e ⟨b,_,rfl⟩ c hc;exact ⟨_,gZ.1 hc⟩,?_⟩;simp only [go_sem];refine bS (aA _) rfl rfl (WD g o (nB g up) hg ho (CF k1).1 (BP g up)) ?_;rintro r T' ⟨rfl,rfl⟩;refine ⟨by simp only [eY],by simp,?_⟩;simp only [go_sem];cases hr:Dk g.L o (nB g up)
  ·rw [if_pos hr] at hW3;rw [hW3];simp only [go_sem]
  ·rw [if_neg (by simp [hr])] at hW3;rw [hW3];simp only [go_sem]
 ·rw [hK,nG,if_neg (by simp)] at hW;clear hpos;have hpI:∀ x:Id,(aR g.I x).toNat<g.L.length∨aR g.I x<0:=λx=>by have:=rM g.I x;have:=hg.i;omega
  simp only [go_sem,undef];refine aO o.Past.length (λi=>⟨0,[(2,.ptr 0 0),(3,.ptr 1 0),(10,.own 2),(11,iv i)],[some (.box g.A),some (.box o.A),some (.arr 1 (((o.Past.take i).map λx=>(aR g.I x).toNat).map λn:Nat=>[iv (n:Int)]))]⟩) (λi=>∀ j (hj:j<o.Past.length),j<i→decide (0≤aR g.I o.Past[j])=true) ?_ (by intro j hj h;omega) ?_ ?_
  ·simp only [go_sem,mL]
  ·intro i hi hJ;have g0:(o.Past.map Id.A)[i]?=some o.Past[i].A:=aP _ o.Past i hi;have ws:=aG (show i<9223372036854775807 by omega);rw [oT hi,gQ,gQ];have ltk:((o.Past.take i).map λx=>(aR g.I x).toNat).length=i:=by rw [aL,hZ];omega
   simp only [go_sem,aL,aT hi,hi,g0];refine aB (aA _) rfl (wR g o.Past[i] hg) rfl ?_;simp only [go_sem];refine aM (λh3=>?_) (λh3=>?_)<;>simp only [decide_eq_true_eq,decide_eq_false_iff_not] at h3
   ·have hf:(o.Past.all λx=>decide (0≤aR g.I x))=false:=yC (p:=λx=>decide (0≤aR g.I x)) hi (decide_eq_false (by omega));rw [hW];simp only [go_sem,AY,NK,hf]
   ·have e1:AV.v (.int .i64 (aR g.I o.Past[i]))=iv (((aR g.I o.Past[i]).toNat:Nat):Int):=by rw [U5 (by omega)]
    have hsuc:=nU (p:=λx=>decide (0≤aR g.I x)) hi hJ (decide_eq_true (by omega));have hmin:min i o.Past.length=i:=KN (Ck hi);simp only [go_sem,aL,hZ,hmin,ws,e1,show i+1≤maxLen by unfold maxLen;omega,show (i+1)*8≤140737488355328 by omega];exact hsuc
  intro hJ;have hall:=yD (p:=λx=>decide (0≤aR g.I x)) hJ;rw [kH];have hW3:eK g o=yF g o (o.Past.map λx=>(aR g.I x).toNat):=by rw [hW,AY,NK,if_pos hall]
  have hub:∀ k∈o.Past.map (λx=>(aR g.I x).toNat),k<g.L.length:=λk hk=>by
   obtain ⟨x,hx,rfl⟩:=dE.1 hk;have:=kY.1 hall x hx;simp only [decide_eq_true_eq] at this;exact (hpI x).resolve_right (by omega)
  have hul:(o.Past.map λx=>(aR g.I x).toNat).length≤1000:=by rw [aL];omega
  generalize hupg:(o.Past.map λx=>(aR g.I x).toNat)=up at *
  clear hW hall hJ hpI;rw [←hupg] at hul;rw [aL] at hul;have hupl:up.length=o.Past.length:=by rw [←hupg,aL]
  simp only [go_sem,aL,aX (cZ _)];refine aO up.length (λi=>⟨0,[(2,.ptr 0 0),(3,.ptr 1 0),(10,.own 2),(13,iv i)],[some (.box g.A),some (.box o.A),some (.arr 1 (up.map λn:Nat=>[iv (n:Int)]))]⟩) (λi=>∀ j (hj:j<up.length),j<i→((up.all λk=>!((g.In.getD up[j] []).getD k false))&&!decide (o.At<(g.L.getD up[j] default).At))=true) ?_ (by intro j hj h;omega) ?_ ?_
  ·simp only [go_sem]
  ·intro i hi hJ;have hui:=hub _ (jY hi);have gi:(up.map λn:Nat=>[iv (n:Int)])[i]?=some [iv (up[i]:Nat)]:=aP _ up i hi;have hin:=hg.inn;have hrow:(g.In.map λl=>[Pf l])[up[i]]?=some [Pf (g.In.getD up[i] [])]:=by rw [eD,fG,fV (by omega)];rfl
   have hrl:(g.In.getD up[i] []).length=g.L.length:=by
    rw [fG,fV (by omega)];exact hg.ins _ (jY _)
   have bK:(g.L.map OpM.A)[up[i]]?=some (g.L.getD up[i] default).A:=by rw [eD,fG,fV hui];rfl
   have hsuc:=λh=>nU (p:=λi=>(up.all λk=>!((g.In.getD i []).getD k false))&&!decide (o.At<(g.L.getD i default).At)) hi hJ h;have hbad:=λh=>yC (p:=λi=>(up.all λk=>!((g.In.getD i []).getD k false))&&!decide (o.At<(g.L.getD i default).At)) hi h;have hbad2:((up.all λk=>!((g.In.getD up[i] []).getD k false))&&!decide (o.At<(g.L.getD up[i] default).At))=false→eK g o=(6,[]):=λh=>by
    rw [hW3,yF,if_pos (show Fx g o up=false from hbad h)]
   clear hbad hJ;generalize up[i]=q at *
   generalize g.In.getD q []=row at *
   generalize g.L.getD q default=oq at *
   simp only [go_sem,aL,aT hi,hi,gi];refine aO up.length (λk=>⟨0,[(2,.ptr 0 0),(3,.ptr 1 0),(10,.own 2),(13,iv i),(14,iv k)],[some (.box g.A),some (.box o.A),some (.arr 1 (up.map λn:Nat=>[iv (n:Int)]))]⟩) (λk=>∀ j (hj:j<up.length),j<k→(λk=>!(row.getD k false)) up[j]=true) ?_ (by intro j hj h;omega) ?_ ?_
   ·simp only [go_sem]
   ·intro k hk hJ2;have huk:=hub _ (jY hk);have gk:(up.map λn:Nat=>[iv (n:Int)])[k]?=some [iv (up[k]:Nat)]:=aP _ up k hk;have gr:(row.map λb=>[AV.v (.bool b)])[up[k]]?=some [AV.v (.bool (row.getD up[k] false))]:=by rw [eD,fG,fV (by omega)];rfl
    have hsuc2:=λh=>nU (p:=λk=>!(row.getD k false)) hk hJ2 h;have hbad3:=λh=>yC (p:=λk=>!(row.getD k false)) hk h;generalize up[k]=p at *
    simp only [go_sem,aL,aT hk,hk,hi,gi,gk,hin,hui,hrow,hrl,huk,gr];cases hb:row.getD p false
    ·rw [hb] at hsuc2;simp only [go_sem,aG (show k<9223372036854775807 by omega)];exact hsuc2 rfl
    ·rw [hb] at hbad3;rw [hbad3 rfl] at hbad2;simp only [go_sem,hbad2 rfl]
   intro hJ2;have hall2:=yD (p:=λk=>!(row.getD k false)) hJ2;rw [hall2] at hsuc hbad2;simp only [go_sem,aL,aX (cZ _),hi,gi,hui,bK];cases hlt:decide (o.At<oq.At)
   ·rw [hlt] at hsuc;simp only [go_sem,aG (show i<9223372036854775807 by omega)];exact hsuc rfl
   ·rw [hlt] at hbad2;simp only [go_sem,hbad2 rfl]
  intro hJ;have hord:Fx g o up=true:=yD (p:=λi=>(up.all λk=>!((g.In.getD i []).getD k false))&&!decide (o.At<(g.L.getD i default).At)) hJ;rw [yF,if_neg (by simp [hord])] at hW3;simp only [go_sem,aL,aX (cZ _)];refine bS (aA _) rfl rfl (UH g up hg (by omega)) ?_;rintro r T' ⟨rfl,rfl⟩;refine ⟨by simp only [eY],by simp only [gZ,tQ,forall_eq,P0,dE];rintro e ⟨b,_,rfl⟩ c hc;exact ⟨_,gZ.1 hc⟩,?_⟩;simp only [go_sem];refine bS (aA _) rfl rfl (WD g o (nB g up) hg ho (CF k1).1 (BP g up)) ?_;rintro r T' ⟨rfl,rfl⟩;refine ⟨by simp only [eY],by simp,?_⟩;simp only [go_sem];cases hr:Dk g.L o (nB g up)
  ·rw [if_pos hr] at hW3;rw [hW3];simp only [go_sem]
  ·rw [if_neg (by simp [hr])] at hW3;rw [hW3];simp only [go_sem]
end
end
section
def sZ (g:GM) (o:OpM):GM×Int :=
 if (eK g o).1≠0 then (g,(eK g o).1)
 else (⟨g.Cards,g.L++[o],g.I++[Af o],g.Up++[(eK g o).2],(g.In.map λr=>r++[false])++[nB g (eK g o).2++[false]]⟩,0)
def SJ (g:GM) (o:OpM):(eK g o).2=[]∨(eK g o).2=o.Past.map λx=>(aR g.I x).toNat:=by
 unfold eK Dv AY yF NK
 repeat' (first | split | (exact .inl rfl) | (exact .inr rfl))
 all_goals simp_all
def OM (g:GM) (o:OpM):(eK g o).2.length≤o.Past.length:=by
 rcases SJ g o with h | h<;>simp [h]
section
variable {G:Nat→Option (List AV)}
set_option maxHeartbeats 4000000
def aCK (g:GM) (o:OpM) (hg:g.ok) (ho:o.ok):aC PQ G yY [.ag g.A,.ag o.A] [] λr T=>r=.tup [iv (eK g o).1,OA (eK g o).2]∧T=[]:=by
 refine (aAB g o hg ho).fin [0] ?_;rintro r T' ⟨rfl,rfl⟩;simp only [go_sem,kI]
def aF2 (g:GM) (o:OpM) (hg:g.ok) (ho:o.ok):aC PQ G EH [.ag g.A,.ag o.A] [] λr T=>(r=.tup [.ag g.A,iv (sZ g o).2]∧T=[]∧sZ g o=(g,(sZ g o).2)) ∨
  (r=.tup [.ag [.ls 5 (g.Cards.map CardM.A),.own 0,.own 1,.own 2,.own 3],iv 0]∧T=[some (.arr 27 ((sZ g o).1.L.map OpM.A)),some (.arr 3 ((sZ g o).1.I.map Id.A)),some (.arr 1 ((sZ g o).1.Up.map λl=>[OA l])),some (.arr 1 ((sZ g o).1.In.map λl=>[Pf l]))]∧(sZ g o).1.Cards=g.Cards∧(sZ g o).2=0):=by
 refine aF O9 (by decide) ?_;have hn:=hg.n;have hwl:=OM g o;have hpl:=ho.past.1;simp only [go_sem];refine aB (aA _) rfl (aCK g o hg ho) rfl ?_;simp only [go_sem];refine aM (λh=>?_) (λh=>?_)<;>simp only [bne_iff_ne,ne_eq,bne_eq_false_iff_eq] at h
 ·have ha:sZ g o=(g,(eK g o).1):=by rw [sZ,if_pos h]
  simp only [go_sem];exact .inl ⟨by rw [ha],by rw [ha]⟩
 have ha:sZ g o=(⟨g.Cards,g.L++[o],g.I++[Af o],g.Up++[(eK g o).2],(g.In.map λr=>r++[false])++[nB g (eK g o).2++[false]]⟩,0):=by rw [sZ,if_neg (by simp [h])]
 rw [ha];generalize (eK g o).2=up at *
 simp only [go_sem];refine aS (aA _) rfl (UH g up hg (by omega)) ?_;have hpl2:=BP g up;generalize nB g up=p at *
 have m1:g.L.length*328≤140737488355328:=by omega
 have m2:g.L.length≤maxLen:=by unfold maxLen;omega
 have m3:(g.L.length+1)*328≤140737488355328:=nX (Mr 328 (show g.L.length+1≤1001 by omega)) (by decide);have m4:g.L.length+1≤maxLen:=by unfold maxLen;omega
 have m5:g.L.length*24≤140737488355328:=by omega
 have m6:(g.L.length+1)*24≤140737488355328:=by omega
 have m7:(g.L.length+1)*1≤140737488355328:=by omega
 have m8:g.L.length*1≤140737488355328:=by omega
 simp only [go_sem,aL,hg.i,hg.un,hg.inn,hpl2,m1,m2,m3,m4,m5,m6,m7,m8];refine and_self_iff.2 ?_;refine aB (aA _) rfl (SG o ho) rfl ?_;simp only [go_sem,aL,hg.i,hg.un,hg.inn,hpl2,m1,m2,m3,m4,m5,m6,m7,m8];refine aO g.In.length (λi=>⟨0,[(2,.ptr 0 0),(4,.ptr 1 0),(8,.own 2),(9,.ptr 3 0),(10,iv i)],[some (.box g.A),some (.box [.v (.slice none 0 0),.v (.slice none 0 0),.v (.slice none 0 0),.v (.slice none 0 0),.v (.slice none 0 0)]),some (.arr 1 (P0 p)),some (.box [.ls 5 (g.Cards.map CardM.A),.own 4,.own 5,.own 6,.own 7]),some (.arr 27 (g.L.map OpM.A++[o.A])),some (.arr 3 (g.I.map Id.A++[(Af o).A])),some (.arr 1 ((g.Up.map λl=>[OA l])++[[OA up]])),some (.arr 1 ((g.In.take i).map λr=>[Pf (r++[false])]))]⟩) (λ_=>True) ?_ trivial ?_ ?_
 ·simp only [go_sem]
 ·intro i hi _;have g0:(g.In.map λl=>[Pf l])[i]?=some [Pf g.In[i]]:=aP _ g.In i hi;have hrl:=hg.ins _ (jY hi);have ws:=aG (show i<9223372036854775807 by have:=hg.inn;omega);have hil:i<g.L.length:=by have:=hg.inn;omega
  have hmin:min i g.L.length=i:=by omega
  rw [oT hi,gQ];generalize g.In[i]=row at *
  simp only [go_sem,aL,hZ,hmin,aT hil,hg.inn,hil,g0,hrl,ws,m2,m4,m6,m7,m8,rW,show (i+1)*24≤140737488355328 by omega,show i+1≤maxLen by unfold maxLen;omega];simp only [Pf,gQ,cN,eQ]
 intro _;rw [kH];simp only [go_sem,aL,hg.inn,aX (cZ _),hpl2,m2,m4,m6,m7,m8];refine .inr ?_;rw [show ((λl:List Bool=>[Pf l])∘λr=>r++[false])=λr=>[Pf (r++[false])] from rfl];simp only [Pf,P0,gQ,cN,eQ]
def ET (g:GM) (o:OpM) (hg:g.ok) (ho:o.ok):aC PQ G EH [.ag g.A,.ag o.A] [] λr T=>r=.tup [.ag (sZ g o).1.A,iv (sZ g o).2]∧T=[]:=by
 refine (aF2 g o hg ho).fin [0,1,2,3] ?_;rintro r T' (⟨rfl,rfl,h⟩ | ⟨rfl,rfl,h1,h2⟩)
 ·simp only [go_sem,kI,List.getElem?_nil];rw [h]
 ·simp only [go_sem,kI,GM.A_def,h1,h2]
def aCL {g:GM} {o:OpM} (hg:g.ok) (ho:o.ok) (hn:g.L.length<1000) (hid:(Af o).ok):(sZ g o).1.ok:=by
 unfold sZ;split
 ·exact hg
 ·refine ⟨by simp;omega,hg.cn,hg.cs,?_,by simp [hg.i],?_,by simp [hg.un],?_,by simp [hg.inn],?_⟩
  ·intro x hx;rcases eO.1 hx with h | h
   ·exact hg.ops x h
   ·rw [gZ.1 h];exact ho
  ·intro x hx;rcases eO.1 hx with h | h
   ·exact hg.is x h
   ·rw [gZ.1 h];exact hid
  ·intro u hu;simp only [dU,kS,kI];rcases eO.1 hu with h | h
   ·exact ⟨(hg.up u h).1,λk hk=>by have:=(hg.up u h).2 k hk;omega⟩
   ·rw [gZ.1 h];refine ⟨nX (OM g o) ho.past.1,λk hk=>?_⟩;rcases SJ g o with e | e
    ·rw [e] at hk;simp at hk
    ·rw [e] at hk;obtain ⟨x,_,rfl⟩:=dE.1 hk;have:=rM g.I x;have:=hg.i;omega
  ·intro r hr;simp only [dU,kS,kI];rcases eO.1 hr with h | h
   ·obtain ⟨r',h1,rfl⟩:=dE.1 h;simp [hg.ins r' h1]
   ·rw [gZ.1 h];simp [BP]
def IH {o:OpM} (ho:o.ok):(Af o).ok:=by
 refine ⟨ho.ints o.By (by simp),ho.ints o.Seq (by simp),?_,?_⟩
 ·simp only [Af];omega
 ·simp only [Af];have:=BO (R6 lOp o.B);omega
end
end
section
def zZ (g:GM) (ids:List Id) (i:Nat):Bool:=ids.any λx=>decide (0≤aR g.I x)&&(g.In.getD (aR g.I x).toNat []).getD i false
def Jc (I:List Id) (p:Nat→Bool) (n:Nat):List Id:=((List.range n).filter p).map λi=>I.getD i default
def nV (g:GM) (ids:List Id):List Id:=iG (Jc g.I (zZ g ids) g.L.length)
def tB (I above out:List Id) (x:Id):List Id:=if (decide (0≤aR I x)&&(!decide (x∈above)&&!decide (x∈out))) then out++[x] else out
def F1 (g:GM) (ids:List Id):List Id:=iG (ids.foldl (tB g.I (nV g ids)) [])
def qZ (I out:List Id) (x:Id):List Id:=if (decide (0≤aR I x)&&!decide (x∈out)) then out++[x] else out
def Iv (g:GM) (ids:List Id):List Id:=iG (ids.foldl (qZ g.I) (nV g ids))
def tC (d:Int) (n:Int) (x:Id):Int:=if x.a=d then (if n<x.b then x.b else n) else n
def aAC (ids:List Id) (d:Int):Int:=ids.foldl (tC d) 0+1
def Dw (g:GM) (t:Int) (x:Id):Int:=if 0≤aR g.I x then (if t<(g.L.getD (aR g.I x).toNat default).At then (g.L.getD (aR g.I x).toNat default).At else t) else t
def WE (g:GM) (ids:List Id):Int:=ids.foldl (Dw g) 0
def aAD (I:List Id) (p:Nat→Bool) (n:Nat):Jc I p (n+1)=Jc I p n++(if p n then [I.getD n default] else []):=by
 unfold Jc;rw [Nc,VA,gQ];cases h:p n<;>simp [h]
def HE (I:List Id) (p:Nat→Bool) (n:Nat):(Jc I p n).length≤n:=by
 unfold Jc;rw [aL];exact nX (List.length_filter_le _ _) (by simp)
section
variable {G:Nat→Option (List AV)}
set_option maxHeartbeats 4000000
def SK (g:GM) (ids':List Id) (hg:g.ok) (hi:ids'.length≤100000):aC PQ G xK [.ag g.A,ids ids'] [] λr T=>r=.own 0∧T=[some (.arr 3 ((nV g ids').map Id.A))]:=by
 refine aF M4 (by decide) ?_;have hn:=hg.n;simp only [go_sem];refine aO g.L.length (λi=>⟨0,[(1,ids ids'),(2,.ptr 0 0),(5,.own 1),(6,iv i)],[some (.box g.A),some (.arr 3 ((Jc g.I (zZ g ids') i).map Id.A))]⟩) (λ_=>True) ?_ trivial ?_ ?_
 ·simp only [go_sem];rfl
 ·intro i hil _;have ws:=aG (show i<9223372036854775807 by omega);have gI:(g.I.map Id.A)[i]?=some (g.I.getD i default).A:=by rw [eD,fG,fV (by rw [hg.i];exact hil)];rfl
  have hIl:=hg.i;have hsl:=HE g.I (zZ g ids') i;rw [aAD];generalize Jc g.I (zZ g ids') i=X at *
  generalize g.I.getD i default=xi at *
  simp only [go_sem,aL,aT hil];refine aO ids'.length (λk=>⟨0,[(1,ids ids'),(2,.ptr 0 0),(5,.own 1),(6,iv i),(7,.v (.bool ((ids'.take k).any λx=>decide (0≤aR g.I x)&&(g.In.getD (aR g.I x).toNat []).getD i false))),(8,iv k)],[some (.box g.A),some (.arr 3 (X.map Id.A))]⟩) (λ_=>True) ?_ trivial ?_ ?_
  ·simp only [go_sem,mL,List.any_nil]
  ·intro k hk _;have g0:(ids'.map Id.A)[k]?=some ids'[k].A:=aP _ ids' k hk;have wk:=aG (show k<9223372036854775807 by omega);rw [WC _ ids' k hk];generalize ((ids'.take k).any λx=>decide (0≤aR g.I x)&&(g.In.getD (aR g.I x).toNat []).getD i false)=is;generalize ids'[k]=x at *
   simp only [go_sem,aL,aT hk,hk,g0];refine aB (aA _) rfl (wR g x hg) rfl ?_;have hpl:=rM g.I x;cases is
   ·simp only [go_sem,undef,ge_iff_le];cases hp:decide (0≤aR g.I x)
    ·simp only [go_sem,undef,wk,nG,KU]
    ·have hp2:0≤aR g.I x:=of_decide_eq_true hp;have hin:=hg.inn;have hpn:(aR g.I x).toNat<g.L.length:=by omega
     have hrow:(g.In.map λl=>[Pf l])[(aR g.I x).toNat]?=some [Pf (g.In.getD (aR g.I x).toNat [])]:=by rw [eD,fG,fV (by omega)];rfl
     have hrl:(g.In.getD (aR g.I x).toNat []).length=g.L.length:=by
      rw [fG,fV (by omega)];exact hg.ins _ (jY _)
     have gr:((g.In.getD (aR g.I x).toNat []).map λb=>[AV.v (.bool b)])[i]?=some [AV.v (.bool ((g.In.getD (aR g.I x).toNat []).getD i false))]:=by rw [eD,fG (l:=g.In.getD (aR g.I x).toNat []),fV (by omega)];rfl
     have hm:(if 0>aR g.I x then (0:Int) else aR g.I x)=aR g.I x:=if_neg (by omega);simp only [go_sem,undef,aL,hm,hp2,hin,hpn,hrow,hrl,hil,gr,wk,jG,Ci]
   ·simp only [go_sem,undef,wk,E5]
  intro _;rw [kH];have hP:(ids'.any λx=>decide (0≤aR g.I x)&&(g.In.getD (aR g.I x).toNat []).getD i false)=zZ g ids' i:=rfl;rw [hP];cases hp:zZ g ids' i
  ·simp only [go_sem,aL,aX (cZ _),ws]
  ·simp only [go_sem,aL,aX (cZ _),ws,gI,hIl,hil,gQ,show X.length+1≤maxLen by unfold maxLen;omega,show (X.length+1)*24≤140737488355328 by omega]
 intro _;have hsl:=HE g.I (zZ g ids') g.L.length;simp only [go_sem,aL,aX (cZ _)];refine bS (aA _) rfl rfl (wN _ (by omega)) ?_;rintro r T' ⟨rfl,rfl⟩;refine ⟨by simp only [eY],by simp only [gZ,tQ,forall_eq,dE];rintro e ⟨b,_,rfl⟩ c hc;simp only [Id.A,gK,pQ,or_false] at hc;rcases hc with rfl | rfl | rfl<;>exact ⟨_,rfl⟩,?_⟩;simp only [go_sem];rfl
def Xy (g:GM) (ids':List Id) (hg:g.ok) (hi:ids'.length≤100000):aC PQ G xK [.ag g.A,ids ids'] [] λr T=>r=ids (nV g ids')∧T=[]:=by
 refine (SK g ids' hg hi).fin [0] ?_;rintro r T' ⟨rfl,rfl⟩;simp only [go_sem,kI]
def J7 (l:List Id):∀ e∈l.map Id.A,∀ c∈e,∃ x,c=AV.v x:=by
 intro e he c hc;obtain ⟨b,_,rfl⟩:=dE.1 he;simp only [Id.A,gK,pQ,or_false] at hc;rcases hc with rfl | rfl | rfl<;>exact ⟨_,rfl⟩
def MQ (g:GM) (ids':List Id) (hg:g.ok):(nV g ids').length≤1000:=by
 unfold nV;rw [N3];have:=HE g.I (zZ g ids') g.L.length;have:=hg.n;omega
def EU (I a:List Id):∀ (l:List Id) (out:List Id),(l.foldl (tB I a) out).length≤out.length+l.length
 | [],out=>by simp
 | x::l,out=>by
  rw [HO];have:=EU I a l (tB I a out x);have h2:(tB I a out x).length≤out.length+1:=by unfold tB;split<;>simp
  simp only [kS];omega
def EV (I:List Id):∀ (l:List Id) (out:List Id),(l.foldl (qZ I) out).length≤out.length+l.length
 | [],out=>by simp
 | x::l,out=>by
  rw [HO];have:=EV I l (qZ I out x);have h2:(qZ I out x).length≤out.length+1:=by unfold qZ;split<;>simp
  simp only [kS];omega
def xA {α β:Type} (f:β→α→β) (b:β) (l:List α) (i:Nat) (h:i<l.length):(l.take (i+1)).foldl f b=f ((l.take i).foldl f b) l[i]:=by
 rw [oT h,VB];rfl
def aCM (g:GM) (ids':List Id) (hg:g.ok) (hi:ids'.length≤100000):aC PQ G yX [.ag g.A,ids ids'] [] λr T=>r=.own 0∧T=[some (.arr 3 ((F1 g ids').map Id.A))]:=by
 refine aF LM (by decide) ?_;have hal:=MQ g ids' hg;simp only [go_sem];refine aB (aA _) rfl (Xy g ids' hg hi) rfl ?_;unfold F1;generalize nV g ids'=ab at *
 simp only [go_sem];refine aO ids'.length (λi=>⟨0,[(1,ids ids'),(2,.ptr 0 0),(5,ids ab),(6,.own 1),(7,iv i)],[some (.box g.A),some (.arr 3 (((ids'.take i).foldl (tB g.I ab) []).map Id.A))]⟩) (λ_=>True) ?_ trivial ?_ ?_
 ·simp only [go_sem,mL,Ez]
 ·intro i hil _;have ws:=aG (show i<9223372036854775807 by omega);have g0:(ids'.map Id.A)[i]?=some ids'[i].A:=aP _ ids' i hil;have hol:=EU g.I ab (ids'.take i) [];rw [hZ] at hol;simp only [kI] at hol;rw [xA _ _ ids' i hil];generalize (ids'.take i).foldl (tB g.I ab) []=out at *
  generalize ids'[i]=x at *
  have m1:out.length+1≤maxLen:=by unfold maxLen;omega
  have m2:(out.length+1)*24≤140737488355328:=by omega
  simp only [go_sem,aL,aT hil,hil,g0];refine aB (aA _) rfl (wR g x hg) rfl ?_;simp only [go_sem,ge_iff_le];cases h1:decide (0≤aR g.I x)
  ·simp only [go_sem,undef,ws,tB,h1,nG,if_false,jZ]
  simp only [go_sem,aL,hil,g0];refine aB (aA _) rfl (zT ab x (by unfold maxLen;omega)) rfl ?_;cases h2:decide (x∈ab);rotate_left
  ·simp only [go_sem,undef,ws,tB,h1,h2,nH,nG,Ch,if_false,jZ]
  simp only [go_sem,aL,hil,g0];refine bS (aA _) rfl rfl (zT out x (by omega)) ?_;rintro r T' ⟨rfl,rfl⟩;refine ⟨by simp only [eY],by simp,?_⟩;cases h3:decide (x∈out)
  ·simp only [go_sem,undef,aL,hil,g0,m1,m2,ws,tB,h1,h2,h3,nW,jG,gQ]
  ·simp only [go_sem,undef,ws,tB,h1,h2,h3,nH,nW,jG,Ch,if_false,jZ]
 intro _;rw [kH];have hol:=EU g.I ab ids' [];simp only [kI] at hol;generalize ids'.foldl (tB g.I ab) []=out at *
 simp only [go_sem,aL,aX (cZ _)];refine bS (aA _) rfl rfl (wN out (by omega)) ?_;rintro r T' ⟨rfl,rfl⟩;refine ⟨by simp only [eY],by simp only [gZ,tQ,forall_eq];exact J7 _,?_⟩;simp only [go_sem]
def aF3 (g:GM) (ids':List Id) (hg:g.ok) (hi:ids'.length≤100000):aC PQ G Fh [.ag g.A,ids ids'] [] λr T=>r=.own 0∧T=[some (.arr 3 ((Iv g ids').map Id.A))]:=by
 refine aF M1 (by decide) ?_;have hal:=MQ g ids' hg;simp only [go_sem];refine aS (aA _) rfl (SK g ids' hg hi) ?_;unfold Iv;generalize nV g ids'=ab at *
 simp only [go_sem];refine aO ids'.length (λi=>⟨0,[(1,ids ids'),(2,.ptr 0 0),(5,.own 1),(6,iv i)],[some (.box g.A),some (.arr 3 (((ids'.take i).foldl (qZ g.I) ab).map Id.A))]⟩) (λ_=>True) ?_ trivial ?_ ?_
 ·simp only [go_sem,mL,Ez]
 ·intro i hil _;have ws:=aG (show i<9223372036854775807 by omega);have g0:(ids'.map Id.A)[i]?=some ids'[i].A:=aP _ ids' i hil;have hol:=EV g.I (ids'.take i) ab;rw [hZ] at hol;rw [xA _ _ ids' i hil];generalize (ids'.take i).foldl (qZ g.I) ab=out at *
  generalize ids'[i]=x at *
  have m1:out.length+1≤maxLen:=by unfold maxLen;omega
  have m2:(out.length+1)*24≤140737488355328:=by omega
  simp only [go_sem,aL,aT hil,hil,g0];refine aB (aA _) rfl (wR g x hg) rfl ?_;simp only [go_sem,ge_iff_le];cases h1:decide (0≤aR g.I x)
  ·simp only [go_sem,undef,ws,qZ,h1,nG,if_false,jZ]
  simp only [go_sem,aL,hil,g0];refine bS (aA _) rfl rfl (zT out x (by omega)) ?_;rintro r T' ⟨rfl,rfl⟩;refine ⟨by simp only [eY],by simp,?_⟩;cases h3:decide (x∈out)
  ·simp only [go_sem,undef,aL,hil,g0,m1,m2,ws,qZ,h1,h3,nW,jG,gQ]
  ·simp only [go_sem,undef,ws,qZ,h1,h3,nH,nW,jG,Ch,if_false,jZ]
 intro _;rw [kH];have hol:=EV g.I ids' ab;generalize ids'.foldl (qZ g.I) ab=out at *
 simp only [go_sem,aL,aX (cZ _)];refine bS (aA _) rfl rfl (wN out (by omega)) ?_;rintro r T' ⟨rfl,rfl⟩;refine ⟨by simp only [eY],by simp only [gZ,tQ,forall_eq];exact J7 _,?_⟩;simp only [go_sem]
def SL (g:GM) (ids':List Id) (hg:g.ok) (hi:ids'.length≤100000):aC PQ G yX [.ag g.A,ids ids'] [] λr T=>r=ids (F1 g ids')∧T=[]:=by
 refine (aCM g ids' hg hi).fin [0] ?_;rintro r T' ⟨rfl,rfl⟩;simp only [go_sem,kI]
def P2 (g:GM) (hg:g.ok):aC PQ G EI [.ag g.A] [] λr T=>r=ids (iG g.I)∧T=[]:=by
 refine aC.fin (p:=λr T=>r=.own 0∧T=[some (.arr 3 ((iG g.I).map Id.A))]) (aF PA (by decide) ?_) [0] ?_
 ·have hn:=hg.n;have hi:=hg.i;simp only [go_sem];refine aS (aA _) rfl (wN g.I (by omega)) ?_;simp only [go_sem]
 ·rintro r T' ⟨rfl,rfl⟩;simp only [go_sem,kI]
def UI (d:Int):∀ (l:List Id) (n:Int),n≤l.foldl (tC d) n
 | [],n=>IZ _
 | x::l,n=>VO (by unfold tC;split<;>(try split)<;>omega) (UI d l (tC d n x))
def UJ (d B:Int):∀ (l:List Id) (n:Int),n≤B→(∀ x∈l,x.b≤B)→l.foldl (tC d) n≤B
 | [],n,h,_=>h
 | x::l,n,h,hb=>UJ d B l _ (by have:=hb x FO;unfold tC;split<;>(try split)<;>omega) λy hy=>hb y (FL _ hy)
def aDU (g:GM) (ids':List Id) (d:Int) (hi:ids'.length≤100000) (hb:∀ x∈ids',x.b≤9223372036854775806):aC PQ G Hp [.ag g.A,ids ids',iv d] [] λr T=>r=iv (aAC ids' d)∧T=[]:=by
 refine aF PB (by decide) ?_;simp only [go_sem];refine aO ids'.length (λi=>⟨0,[(1,ids ids'),(2,iv d),(7,iv ((ids'.take i).foldl (tC d) 0)),(8,iv i)],[]⟩) (λ_=>True) ?_ trivial ?_ ?_
 ·simp only [go_sem,mL,Ez]
 ·intro i hil _;have ws:=aG (show i<9223372036854775807 by omega);have g0:(ids'.map Id.A)[i]?=some [.v (.int .i64 ids'[i].a),.v (.int .i64 ids'[i].b),.v (.int .u64 ids'[i].c)]:=aP _ ids' i hil;rw [xA _ _ ids' i hil];generalize (ids'.take i).foldl (tC d) 0=n at *
  generalize ids'[i]=x at *
  simp only [go_sem,aL,aT hil,hil,g0];refine aM (λh=>?_) (λh=>?_)<;>simp only [beq_iff_eq,beq_eq_false_iff_ne,ne_eq] at h
  ·simp only [go_sem,aL,hil,g0,ws,tC,h,gt_iff_lt]
  ·simp only [go_sem,ws,tC,h]
 intro _;rw [kH];have h1:=UI d ids' 0;have h2:=UJ d 9223372036854775806 ids' 0 (by omega) hb;have w1:IntKind.i64.wrap (ids'.foldl (tC d) 0+1)=aAC ids' d:=aJ (by omega) (by omega);simp only [go_sem,aL,aX (cZ _),w1]
def aAE (g:GM) (ids':List Id) (hg:g.ok) (hi:ids'.length≤100000):aC PQ G Fi [.ag g.A,ids ids'] [] λr T=>r=iv (WE g ids')∧T=[]:=by
 refine aF M2 (by decide) ?_;have hn:=hg.n;simp only [go_sem];refine aO ids'.length (λi=>⟨0,[(1,ids ids'),(2,.ptr 0 0),(5,iv ((ids'.take i).foldl (Dw g) 0)),(6,iv i)],[some (.box g.A)]⟩) (λ_=>True) ?_ trivial ?_ ?_
 ·simp only [go_sem,mL,Ez]
 ·intro i hil _;have ws:=aG (show i<9223372036854775807 by omega);have g0:(ids'.map Id.A)[i]?=some ids'[i].A:=aP _ ids' i hil;rw [xA _ _ ids' i hil];generalize (ids'.take i).foldl (Dw g) 0=n at *
  generalize ids'[i]=x at *
  simp only [go_sem,aL,aT hil,hil,g0];refine aB (aA _) rfl (wR g x hg) rfl ?_;have hpl:=rM g.I x;simp only [go_sem,ge_iff_le];refine aM (λh=>?_) (λh=>?_)<;>simp only [decide_eq_true_eq,decide_eq_false_iff_not] at h
  ·have hpn:(aR g.I x).toNat<g.L.length:=by have:=hg.i;omega
   have bK:(g.L.map OpM.A)[(aR g.I x).toNat]?=some (g.L.getD (aR g.I x).toNat default).A:=by rw [eD,fG,fV hpn];rfl
   simp only [go_sem,aL,h,hpn,bK,ws,Dw,gt_iff_lt]
  ·simp only [go_sem,ws,Dw,h]
 intro _;rw [kH];simp only [go_sem,aL,aX (cZ _),WE]
end
end
section
abbrev mK (W:List Nat):List AV:=W.map λw=>uv w
def Iw (W V:List Nat):List Nat:=List.zipWith (λa b=>a ||| b) W V
def NR (W:List Nat) (n:Nat):List Nat:=W.set (n/64) (W.getD (n/64) 0 ||| 2^(n%64))
def qJ (W:List Nat) (n:Nat):Bool:=(W.getD (n/64) 0).testBit (n%64)
def HF (W:List Nat):Prop:=W.length=4∧∀ w∈W,w<18446744073709551616
def SM (a b:Nat) (ha:a<18446744073709551616) (hb:b<18446744073709551616):aZ .or (.int .u64 (a:Int)) (.int .u64 (b:Int))=some (.int .u64 ((a ||| b:Nat):Int)):=by
 have hc:a ||| b<18446744073709551616:=Qi (n:=64) ha hb;have h1:(BitVec.ofInt IntKind.u64.bits (a:Int) ||| BitVec.ofInt IntKind.u64.bits (b:Int)).toNat=a ||| b:=by
  have ea:(BitVec.ofInt 64 (a:Int)).toNat=a:=by simp [Cf];omega
  have eb:(BitVec.ofInt 64 (b:Int)).toNat=b:=by simp [Cf];omega
  show (BitVec.ofInt 64 (a:Int) ||| BitVec.ofInt 64 (b:Int)).toNat=a ||| b;rw [VG,ea,eb]
 simp only [aZ,if_true,h1];rw [bG _ (by omega)]
def ON (a b:Nat) (ha:a<18446744073709551616) (hb:b<18446744073709551616):aZ .and (.int .u64 (a:Int)) (.int .u64 (b:Int))=some (.int .u64 ((a &&& b:Nat):Int)):=by
 have hc:a &&& b≤a:=Y8;have h1:(BitVec.ofInt IntKind.u64.bits (a:Int) &&& BitVec.ofInt IntKind.u64.bits (b:Int)).toNat=a &&& b:=by
  have ea:(BitVec.ofInt 64 (a:Int)).toNat=a:=by simp [Cf];omega
  have eb:(BitVec.ofInt 64 (b:Int)).toNat=b:=by simp [Cf];omega
  show (BitVec.ofInt 64 (a:Int) &&& BitVec.ofInt 64 (b:Int)).toNat=a &&& b;rw [KR,ea,eb]
 simp only [aZ,if_true,h1];rw [bG _ (by omega)]
def OO (x m:Nat) (h:m≠0) (hx:x≤9223372036854775807):aZ .quo (.int .i64 (x:Int)) (.int .i64 (m:Int))=some (.int .i64 ((x/m:Nat):Int)):=by
 have h0:¬((m:Int)=0):=by omega
 have e:(x:Int).tdiv (m:Int)=((x/m:Nat):Int):=rfl;have:x/m≤x:=Qm x m;have h3:((x/m:Nat):Int)≤9223372036854775807:=by omega
 have h4:(-9223372036854775808:Int)≤((x/m:Nat):Int):=by have:=Y0 (x/m);omega
 simp only [aZ,if_true,h0,if_false,e];rw [aJ h4 h3]
def OP (x m:Nat) (h:m≠0):aZ .rem (.int .i64 (x:Int)) (.int .i64 (m:Int))=some (.int .i64 ((x%m:Nat):Int)):=by
 have h0:¬((m:Int)=0):=by omega
 have e:(x:Int).tmod (m:Int)=((x%m:Nat):Int):=rfl;simp only [aZ,if_true,h0,if_false,e]
def UK (k:Nat) (h:k<64):aZ .shl (.int .u64 1) (.int .i64 (k:Int))=some (.int .u64 ((2^k:Nat):Int)):=by
 have h0:¬((k:Int)<0):=by omega
 have hm:min k 64=k:=by omega
 have h2:(2:Nat)^k<18446744073709551616:=CU (Yp (by decide) h) (by decide);have e:(1:Int)*2^(min (k:Int).toNat IntKind.u64.bits)=((2^k:Nat):Int):=by
  rw [KK,show IntKind.u64.bits=64 from rfl,hm,Int.one_mul];exact (ZA 2 k).symm
 simp only [aZ,h0,if_false,e];rw [bG _ (by omega)]
def Xz (x k:Nat) (h:k<64) (hx:x<18446744073709551616):aZ .shr (.int .u64 (x:Int)) (.int .i64 (k:Int))=some (.int .u64 ((x/2^k:Nat):Int)):=by
 have h0:¬((k:Int)<0):=by omega
 have hm:min k 64=k:=by omega
 have e:(x:Int).fdiv (2^(min (k:Int).toNat IntKind.u64.bits))=((x/2^k:Nat):Int):=by
  rw [KK,show IntKind.u64.bits=64 from rfl,hm,show ((2:Int)^k)=((2^k:Nat):Int) from (ZA 2 k).symm,Ut _ (Y0 _)];rfl
 simp only [aZ,h0,if_false,e]
def aAF (W V:List Nat) (hl:V.length=W.length) (i:Nat) (h:i<W.length):(Iw W V).take (i+1)++W.drop (i+1)=((Iw W V).take i++W.drop i).set i (W.getD i 0 ||| V.getD i 0):=by
 have hol:(Iw W V).length=W.length:=by unfold Iw;rw [Qg];omega
 have hlt:((Iw W V).take i).length=i:=by rw [hZ];omega
 have e:(Iw W V)[i]'(by omega)=W.getD i 0 ||| V.getD i 0:=by
  unfold Iw;rw [Yq,fG,fG,fV h,fV (by omega)];rfl
 rw [oT (by omega),eE,e,QZ h,Yj _ _ (by omega),hlt,Nh];rfl
def P3 {W V:List Nat} (hW:HF W) (hV:HF V):HF (Iw W V):=by
 refine ⟨by unfold Iw;rw [Qg,hW.1,hV.1];rfl,λw hw=>?_⟩;unfold Iw at hw;obtain ⟨i,hi,rfl⟩:=AH hw;rw [Yq];exact Qi (n:=64) (hW.2 _ (jY _)) (hV.2 _ (jY _))
def AA {W:List Nat} (hW:HF W) (i:Nat):W.getD i 0<18446744073709551616:=by
 rw [fG];rcases bY i W.length with h | h
 ·rw [fV h];exact hW.2 _ (jY h)
 ·rw [gV h];decide
def WF {W:List Nat} (hW:HF W) (n:Nat):HF (NR W n):=by
 refine ⟨by unfold NR;rw [mA,hW.1],λw hw=>?_⟩;unfold NR at hw;rcases aDt hw with h | h
 ·exact hW.2 w h
 ·rw [h];exact Qi (n:=64) (AA hW _) (Yp (by decide) (Aj _ (by decide)))
def SN (x k:Nat):((((x/2^k &&& 1:Nat):Int))==1)=x.testBit k:=by
 rw [Nat.testBit,aDu,Nat.and_one_is_mod,Nat.and_comm,Nat.and_one_is_mod];rcases aDq (x/2^k) with h | h<;>rw [h]<;>rfl
section
variable {G:Nat→Option (List AV)}
set_option maxHeartbeats 4000000
def EW (W:List Nat) (i:Nat) (h:i<W.length):(mK W)[i]?=some (uv (W.getD i 0)):=by
 rw [mK,eD,fG,fV h];rfl
def X0 (W:List Nat) (n:Nat) (hW:HF W) (hn:n<256):aC PQ G vK [.ptr 0 0,iv n] [some (.box (mK W))] λr T=>T=[some (.box (mK (NR W n)))]:=by
 refine aF Fn (by decide) ?_;have q1:aZ .quo (.int .i64 (n:Int)) (.int .i64 64)=some (.int .i64 ((n/64:Nat):Int)):=OO n 64 (by decide) (by omega);have q2:aZ .rem (.int .i64 (n:Int)) (.int .i64 64)=some (.int .i64 ((n%64:Nat):Int)):=OP n 64 (by decide);have hm:n%64<64:=Aj _ (by decide);have hd:n/64<4:=by omega
 have s1:=UK (n%64) hm;have h2:(2:Nat)^(n%64)<18446744073709551616:=CU (Yp (by decide) hm) (by decide);have o1:=SM (W.getD (n/64) 0) (2^(n%64)) (AA hW _) h2;have g0:=EW W (n/64) (by rw [hW.1];exact hd);have hl:=hW.1;have p1:(0:Int)≤((n/64:Nat):Int):=by omega
 have p2:((n/64:Nat):Int)<4:=by omega
 have es:(mK W).take (n/64)++[uv (W.getD (n/64) 0 ||| 2^(n%64))]++(mK W).drop (n/64+1)=mK (NR W n):=by
  show _=(W.set (n/64) (W.getD (n/64) 0 ||| 2^(n%64))).map λw=>uv w;rw [GI,YY,if_pos (by rw [aL,hW.1];exact hd),eE];rfl
 generalize n/64=a at *
 generalize n%64=b at *
 simp only [go_sem,↓q1,↓q2,↓s1,aL,hl,p1,p2,hd,show a≤3 by omega,g0,↓o1,CL,rW,es]
def aCN {α:Type} (pre m post:List α) (i:Nat) (x:α) (h:i<m.length):(pre++(m++post)).take (pre.length+i)++[x]++(pre++(m++post)).drop (pre.length+i+1)=pre++(m.set i x++post):=by
 rw [Yb,show pre.length+i+1=pre.length+(i+1) from rfl,Sw,QY (by omega),Ya (by omega),YY,if_pos h];simp only [eE,Ag,FQ]
def WG {α:Type} (pre m post:List α) (i:Nat) (h:i<m.length):(pre++(m++post))[pre.length+i]?=m[i]?:=by
 rw [KG (by omega),Nat.add_sub_cancel_left,Eb h]
def Ix (pre post:List AV) (p:Nat) (hp:pre.length=p) (W V:List Nat) (hW:HF W) (hV:HF V) (h1:iI pre=[]) (h2:iI post=[]):aC PQ G lP [.ptr 0 p,.ag (mK V)] [some (.box (pre++(mK W++post)))] λr T=>T=[some (.box (pre++(mK (Iw W V)++post)))]:=by
 refine aF En (by decide) ?_;have hl:=hW.1;have hvl:=hV.1;have hone:(mK V).all jU=true:=by simp [mK,jU]
 have hids:∀ X:List Nat,iI (mK X)=[]:=λX=>Ny _ X;have hrn:∀ (L:List Nat) (X:List Nat),Al L (pre++(mK X++post))=pre++(mK X++post):=λL X=>AL (by simp only [Gl,h1,h2,hids,kT]);have hid2:∀ X:List Nat,iI (pre++(mK X++post))=[]:=λX=>by simp only [Gl,h1,h2,hids,kT]
 have hrV:∀ (L:List Nat),Al L (mK V)=mK V:=λL=>AL (hids V);have hol:(Iw W V).length=4:=by unfold Iw;rw [Qg];omega
 simp only [go_sem,hone];refine aO 4 (λi=>⟨1,[(0,.ptr 0 p),(3,.ptr 1 0),(5,iv i)],[some (.box (pre++(mK ((Iw W V).take i++W.drop i)++post))),some (.box (mK V))]⟩) (λ_=>True) ?_ trivial ?_ ?_
 ·simp only [go_sem,↓hid2,↓hids,↓hrn,↓hrV,mL]
 ·intro i hi _;have ws:=aG (show i<9223372036854775807 by omega);have hX:((Iw W V).take i++W.drop i).length=4:=by rw [dU,hZ,tT,hol,hl];omega
  have gX:((Iw W V).take i++W.drop i).getD i 0=W.getD i 0:=by
   rw [fG,KG (by rw [hZ];omega),hZ,hol,show min i 4=i by omega,Nh,FN,yN,←fG]
  rw [aAF W V (by omega) i (by omega)];have o1:=SM (W.getD i 0) (V.getD i 0) (AA hW _) (AA hV _);have gv:=EW V i (by omega);generalize (Iw W V).take i++W.drop i=X at *
  have gx:=EW X i (by omega);rw [gX] at gx;have g0:=WG pre (mK X) post i (by rw [aL];omega);rw [gx,hp] at g0;have es:=aCN pre (mK X) post i (uv (W.getD i 0 ||| V.getD i 0)) (by rw [aL];omega);rw [hp] at es;have e2:(mK X).set i (uv (W.getD i 0 ||| V.getD i 0))=mK (X.set i (W.getD i 0 ||| V.getD i 0)):=by
   show _=(X.set i (W.getD i 0 ||| V.getD i 0)).map λw=>uv w;rw [GI]
  rw [e2] at es;have d1:decide ((i:Int)<4)=true:=decide_eq_true (by omega);have i1:(i:Int)<4:=by omega
  have hlen:p+i+1≤pre.length+(X.length+post.length):=by omega
  simp only [go_sem,d1,i1,CL,rW,g0,gv,↓o1,hlen,es,ws,↓hid2,↓hids,↓hrn,↓hrV]
 ·intro _;rw [pY (by omega),Og (by omega),kT];simp only [go_sem,↓hid2,↓hids,↓hrn,↓hrV]
def UL (W V:List Nat) (hW:HF W) (hV:HF V):aC PQ G lP [.ptr 0 0,.ag (mK V)] [some (.box (mK W))] λr T=>T=[some (.box (mK (Iw W V)))]:=by
 have:=Ix (G:=G) [] [] 0 rfl W V hW hV rfl rfl;simpa using this
def X1 (pre post:List AV) (p:Nat) (hp:pre.length=p) (W:List Nat) (n:Nat) (hW:HF W) (hn:n<256) (h1:iI pre=[]) (h2:iI post=[]):aC PQ G vL [.ptr 0 p,iv n] [some (.box (pre++(mK W++post)))] λr T=>r=.v (.bool (qJ W n))∧T=[some (.box (pre++(mK W++post)))]:=by
 refine aF Fo (by decide) ?_;have q1:aZ .quo (.int .i64 (n:Int)) (.int .i64 64)=some (.int .i64 ((n/64:Nat):Int)):=OO n 64 (by decide) (by omega);have q2:aZ .rem (.int .i64 (n:Int)) (.int .i64 64)=some (.int .i64 ((n%64:Nat):Int)):=OP n 64 (by decide);have hm:n%64<64:=Aj _ (by decide);have hd:n/64<4:=by omega
 have hx:=AA hW (n/64);have s1:=Xz (W.getD (n/64) 0) (n%64) hm hx;have a1:aZ .and (.int .u64 ((W.getD (n/64) 0/2^(n%64):Nat):Int)) (.int .u64 1)=some (.int .u64 ((W.getD (n/64) 0/2^(n%64) &&& 1:Nat):Int)):=ON _ 1 (Qh (Qm _ _) hx) (by decide);have t1:=SN (W.getD (n/64) 0) (n%64);have g0:=WG pre (mK W) post (n/64) (by rw [aL,hW.1];exact hd);rw [EW W (n/64) (by rw [hW.1];exact hd),hp] at g0;have p1:(0:Int)≤((n/64:Nat):Int):=by omega
 have p2:((n/64:Nat):Int)<4:=by omega
 have hids:∀ X:List Nat,iI (mK X)=[]:=λX=>Ny _ X;have hrn:∀ (L:List Nat) (X:List Nat),Al L (pre++(mK X++post))=pre++(mK X++post):=λL X=>AL (by simp only [Gl,h1,h2,hids,kT]);have hid2:∀ X:List Nat,iI (pre++(mK X++post))=[]:=λX=>by simp only [Gl,h1,h2,hids,kT]
 have hr:qJ W n=(W.getD (n/64) 0).testBit (n%64):=rfl;rw [hr,←t1];clear t1 hr;generalize n/64=a at *
 generalize n%64=b at *
 simp only [go_sem,↓q1,↓q2,↓s1,↓a1,p1,p2,g0,CL,rW,↓hid2,↓hids,↓hrn]
end
end
end Hud
