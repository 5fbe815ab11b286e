import Derived.Test.YthlndebkfkanbaaGreatDoorLib32
set_option linter.all false
namespace Hud
open Go
section

end
section

end
section
section
variable {G:Nat→Option (List AV)}
end
end
section
def pN (l:List Fq) (i:Nat) (h:i<l.length):(fl l)[i]?=some [.v (fu (l.getD i 0))]:=by
 rw [IC l i h,fG,fV h];rfl
def I7 (c x:Fq):∀ (b:List Fq) (k:Nat) (a:List Fq),cV c (b++[x]) k a=(cV c b k a).set (k+b.length) ((cV c b k a).getD (k+b.length) 0-c*x)
 | [],k,a=>rfl
 | y::b,k,a=>by
  simp only [Ag,cV,I7 c x b,kS];rw [show k+1+b.length=k+(b.length+1) by omega]
def D2 (c:Fq) (b:List Fq) (k:Nat) (a:List Fq) (j:Nat) (h:j<b.length):cV c (b.take (j+1)) k a=(cV c (b.take j) k a).set (k+j) ((cV c (b.take j) k a).getD (k+j) 0-c*b.getD j 0):=by
 rw [oT h,I7,hZ,KN (by omega)];rw [fG (l:=b),fV h];rfl
def AG (a b z:List Fq):Nat→List Fq
 | 0=>z
 | i+1=>cV (0-a.getD i 0) b i (AG a b z i)
def xB (a b z:List Fq):∀ i,(AG a b z i).length=z.length
 | 0=>rfl
 | i+1=>by rw [AG,lD,xB a b z i]
def Sq (a b z:List Fq) (hz:∀ t,ev z t=0) (t:Fq):∀ i,i≤a.length→a.length+b.length≤z.length+1→ev (AG a b z i) t=ev (a.take i) t*ev b t
 | 0,_,_=>by simp only [AG,hz,mL,ev,aCk]
 | i+1,h,h2=>by
  have h3:=oT (l:=a) (i:=i) (by omega);rw [AG,H6 _ _ _ _ _ (by rw [xB];omega),Sq a b z hz t i (by omega) h2,h3,PT,hZ,KN (by omega)];have h4:a.getD i 0=a[i]:=by rw [fG,fV (by omega)];rfl
  rw [h4];generalize a[i]=x;generalize ev (a.take i) t=y;generalize ev b t=w;generalize t^i=u;grind
def aBD (a b:List Fq) (ha:a≠[]) (hb:b≠[]) (hl:a.length+b.length≤PP):AG a b (List.replicate (a.length+b.length-1) 0) a.length=pm a b:=by
 have hz:∀ t,ev (List.replicate (a.length+b.length-1) (0:Fq)) t=0:=λt=>aDF (λc hc=>Qc hc) t;have h1:=H7 b hb a ha;have hp:0<a.length:=CT.2 ha;have hp2:0<b.length:=CT.2 hb;refine Tn ?_ ?_ λt=>?_
 ·rw [xB,KI];omega
 ·rw [xB,KI];omega
 ·rw [Sq a b _ hz t a.length (fW _) (by rw [KI];omega),kH,aDJ]
section
variable {G:Nat→Option (List AV)}
def aDf (a x y:Fq):a+x*y=a-(0-x)*y:=by grind
set_option maxHeartbeats 1000000
def aFo (a b:List Fq) (ha:a.length≤100000000) (hb:b.length≤100000000):aC PQ G tU [.ls 1 (fl a),.ls 1 (fl b)] [] λr T'=>∃ s,BE a b=aN s∧r=BM (aN s).length s.length∧T'=[some (.arr 1 (fl s))]:=by
 refine aF FH (by decide) ?_;unfold Fy;have la:=gP a;have lb:=gP b;simp only [go_sem];refine aB (aA _) rfl (J2 a (by omega)) rfl ?_;simp only [go_sem];refine aB (aA _) rfl (J2 b (by omega)) rfl ?_;by_cases h1:aN a=[]
 ·simp only [go_sem,h1,fl];refine ⟨[],?_,?_⟩
  ·rw [BE,if_pos (.inl h1)];rfl
  ·simp [BM,aN]
 ·have e1:(((aN a).length:Int)==0)=false:=by have:=CT.2 h1;simp;omega
  by_cases h2:aN b=[]
  ·simp only [go_sem,aL,e1,h2,fl];refine ⟨[],?_,?_⟩
   ·rw [BE,if_pos (.inr h2)];rfl
   ·simp [BM,aN]
  ·have e2:(((aN b).length:Int)==0)=false:=by have:=CT.2 h2;simp;omega
   have hp1:=CT.2 h1;have hp2:=CT.2 h2;have hm:BE a b=aN (pm (aN a) (aN b)):=by rw [BE,if_neg (by simp [h1,h2])]
   have hPP:(200000000:Nat)≤PP:=by decide
   have hpm:=aBD (aN a) (aN b) h1 h2 (by omega);rw [hm];generalize aN a=a at *
   generalize aN b=b at *
   have w1:IntKind.i64.wrap ((a.length:Int)+(b.length:Int))=((a.length+b.length:Nat):Int):=by rw [aJ (by omega) (by omega)];omega
   have w2:IntKind.i64.wrap (((a.length+b.length:Nat):Int)-1)=((a.length+b.length-1:Nat):Int):=by rw [aJ (by omega) (by omega)];omega
   simp only [go_sem,aL,e1,e2,w1,w2,Pj,IZ,show ((a.length+b.length-1:Nat):Int)*8≤140737488355328 by omega,show ((a.length+b.length-1:Nat):Int)≤(maxLen:Int) by unfold maxLen;omega];generalize hz:List.replicate (a.length+b.length-1) (0:Fq)=z at hpm;have hzl:z.length=a.length+b.length-1:=by rw [←hz,KI]
   refine aO a.length (λi=>⟨0,[(1,.ls 1 (fl b)),(5,.own 0),(29,.ls 1 (fl a)),(30,.v (.int .i64 a.length)),(31,.v (.int .i64 i))],[some (.arr 1 (fl (AG a b z i)))]⟩) (λ_=>True) ?_ trivial ?_ ?_
   ·simp only [go_sem,AG]
   ·intro i hi _;have g1:=pN a i hi;simp only [go_sem,aL,aT hi,g1]
    refine aO b.length (λj=>⟨0,[(1,.ls 1 (fl b)),(5,.own 0),(6,.v (.int .i64 i)),(7,.v (fu (a.getD i 0))),(29,.ls 1 (fl a)),(30,.v (.int .i64 a.length)),(31,.v (.int .i64 i)),(36,.ls 1 (fl b)),(37,.v (.int .i64 b.length)),(38,.v (.int .i64 j))],
     [some (.arr 1 (fl (cV (0-a.getD i 0) (b.take j) i (AG a b z i))))]⟩) (λ_=>True) ?_ trivial ?_ ?_
    ·simp only [go_sem,mL,cV]
    ·intro j hj _;have g2:=pN b j hj;have hlen:(cV (0-a.getD i 0) (b.take j) i (AG a b z i)).length=z.length:=by rw [lD,xB]
     have rT:=D2 (0-a.getD i 0) b i (AG a b z i) j hj;generalize cV (0-a.getD i 0) (b.take j) i (AG a b z i)=o at hlen rT;have g3:=pN o (i+j) (by omega);have w3:IntKind.i64.wrap ((i:Int)+(j:Int))=((i+j:Nat):Int):=by rw [aJ (by omega) (by omega)];omega
     simp only [go_sem,aL,aT hj,g2,w3,hlen,hzl,show i+j<a.length+b.length-1 by omega,g3];refine aB (aA _) rfl (CP _ _) rfl ?_;simp only [go_sem,aL,w3,hlen,hzl,show i+j<a.length+b.length-1 by omega,g3];refine aB (aA _) rfl (aAa _ _) rfl ?_;simp only [go_sem,aL,w3,hlen,hzl,show i+j<a.length+b.length-1 by omega,g3,aDf,aG (show j<9223372036854775807 by omega),rT,L7]
    ·intro _;simp only [go_sem,aL,aX (cZ _),kH,aG (show i<9223372036854775807 by omega),AG]
   ·intro _;simp only [go_sem,aL,aX (cZ _),hpm];refine aI [0] (aA _) (by decide) (by simp) rfl rfl (Pm (pm a b) (by rw [←hpm,xB];omega)) ?_;rintro r T' ⟨rfl,rfl⟩;refine (?_:_);by_cases hh:(aN (pm a b)).length=(pm a b).length
    ·simp only [go_sem,BM,if_pos hh];exact ⟨pm a b,rfl,by rw [if_pos hh],rfl⟩
    ·simp only [go_sem,BM,if_neg hh];exact ⟨pm a b,rfl,by rw [if_neg hh],rfl⟩
def Um (a b:List Fq) (ha:a.length≤100000000) (hb:b.length≤100000000):aC PQ G tU [.ls 1 (fl a),.ls 1 (fl b)] [] λr T'=>r=.ls 1 (fl (BE a b))∧T'=[]:=by
 intro h φ w vals h1 h2 h3;have hc:=aFo (G:=G) a b ha hb;refine (hc.fin [0] (q:=λr T'=>r=.ls 1 (fl (BE a b))∧T'=[]) ?_) h φ w vals h1 h2 h3;rintro r T' ⟨s,e,rfl,rfl⟩;have h1:=J1 s;have h2:=gP s;rw [e];simp only [BM];split
 ·rename_i h;rw [h,pY (by simp)] at h1;simp only [go_sem,h1]
 ·simp only [go_sem,rW,aL,h2,h1]
end
end
section
def nD (l:List Fq):∀ k,aN (l++List.replicate k 0)=aN l
 | 0=>by simp
 | k+1=>by rw [List.replicate_succ',←eE,uF,if_pos rfl,nD l k]
def Mp (x z:List Fq) (i:Nat) (h:i<x.length):(x++z).getD i 0=x.getD i 0:=by
 rw [fG,Eb h,←fG]
def F8 (c:Fq) (z:List Fq):∀ (b:List Fq) (k:Nat) (x:List Fq),k+b.length≤x.length→cV c b k (x++z)=cV c b k x++z
 | [],_,_,_=>rfl
 | y::b,k,x,h=>by
  simp only [kS] at h;rw [cV,cV,Mp x z k (by omega),List.set_append_left _ _ (by omega),F8 c z b (k+1) _ (by rw [mA];omega)]
def QV (i n N:Nat):AV:=if n=N then .own i else .vw i 1 0 n
def aFp (a b:List Fq) (r:AV) (T':aQ):Prop:=∃ Q R:List Fq,(dm a b).1=aN Q∧(dm a b).2=aN R∧r=.tup [QV 0 (aN Q).length Q.length,QV 1 (aN R).length R.length]∧T'=[some (.arr 1 (fl Q)),some (.arr 1 (fl R))]
section
variable {G:Nat→Option (List AV)}
set_option maxHeartbeats 2000000
def YV (a b:List Fq) (ha:a.length≤100000000) (hb:b.length≤100000000):aC PQ G fX [.ls 1 (fl a),.ls 1 (fl b)] [] (aFp a b):=by
 refine aF BK (by decide) ?_;unfold AU;have la:=gP a;have lb:=gP b;obtain ⟨z,hz,hzr⟩:∃ z,a=aN a++z∧∃ k,z=List.replicate k 0:=by obtain ⟨k,hk⟩:=sW a;exact ⟨_,hk,k,rfl⟩
 simp only [go_sem];refine aS (aA _) rfl (aAe a (by omega)) ?_;have hV:(BM (aN a).length a.length=.own 0∧z=[])∨(BM (aN a).length a.length=.vw 0 1 0 (aN a).length∧(aN a).length≠a.length):=by
  unfold BM;split
  ·rename_i h;refine .inl ⟨rfl,?_⟩;have:=congrArg List.length hz;rw [dU] at this;exact CR (by omega)
  ·rename_i h;exact .inr ⟨rfl,h⟩
 rcases hV with ⟨hv,rfl⟩ | ⟨hv,hne⟩
 ·rw [hv];simp only [go_sem];refine aB (aA _) rfl (J2 b (by omega)) rfl ?_;by_cases h1:aN b=[]
  ·simp only [go_sem,h1,fl];refine ⟨[],[],?_,?_,by simp [QV,aN],rfl⟩<;>(rw [dm,if_pos h1];rfl)
  ·have hp1:=CT.2 h1;have e1:(((aN b).length:Int)==0)=false:=by simp;omega
   by_cases h2:(aN a).length<(aN b).length
   ·simp only [go_sem,aL,e1,show a.length=(aN a).length by rw [kT] at hz;rw [←hz],aT h2];refine ⟨[],a,?_,?_,?_,rfl⟩
    ·rw [dm,if_neg h1,if_pos h2];rfl
    ·rw [dm,if_neg h1,if_pos h2]
    ·simp only [QV,N0,kI,if_true,if_pos (show (aN a).length=a.length by rw [kT] at hz;rw [←hz])]
   ·have hdm:dm a b=(let s:=lE (aN b) (inv ((aN b).getD ((aN b).length-1) 0)) ((aN a).length-(aN b).length+1) (List.replicate ((aN a).length-(aN b).length+1) 0,aN a);(aN s.1,aN s.2)):=by rw [dm,if_neg h1,if_neg h2]
    have hza:(fl a)=fl (aN a++[]):=by rw [←hz]
    simp only [go_sem,aL,e1,show a.length=(aN a).length by rw [kT] at hz;rw [←hz],aX h2];rw [hza];have hNz:(aN a).length+([]:List Fq).length=a.length:=by rw [←dU,←hz]
    clear hza;revert hdm;skip;generalize aN b=tb at *
    generalize hta:aN a=ta at *
    generalize hF:lE tb (inv (tb.getD (tb.length-1) 0)) (ta.length-tb.length+1) (List.replicate (ta.length-tb.length+1) 0,ta)=F;intro hdm;have w1:IntKind.i64.wrap ((ta.length:Int)-(tb.length:Int))=((ta.length-tb.length:Nat):Int):=by rw [aJ (by omega) (by omega)];omega
    have w2:IntKind.i64.wrap (((ta.length-tb.length:Nat):Int)+1)=((ta.length-tb.length+1:Nat):Int):=aG (by omega);generalize hK:ta.length-tb.length+1=K at *
    have w3:IntKind.i64.wrap ((tb.length:Int)-1)=((tb.length-1:Nat):Int):=by rw [aJ (by omega) (by omega)];omega
    have w4:IntKind.i64.wrap ((K:Int)-1)=(K:Int)-1:=aJ (by omega) (by omega);have g1:=pN tb (tb.length-1) (by omega);simp only [go_sem,aL,w1,w2,w3,g1,Pj,IZ,show ((K:Nat):Int)*8≤140737488355328 by omega,show ((K:Nat):Int)≤(maxLen:Int) by unfold maxLen;omega];refine aB (aA _) rfl (aDP _) rfl ?_;generalize inv (tb.getD (tb.length-1) 0)=v at *
    simp only [go_sem,aL,KI,w4];refine bU (λk s=>∃ q x y:List Fq,y=x++[]∧lE tb v k (q,x)=F∧q.length=K∧x.length=ta.length∧k≤K∧s=⟨0,[(0,.own 0),(1,.ls 1 (fl tb)),(4,.own 1),(6,.v (fu v)),(7,.v (.int .i64 ((k:Int)-1)))],[some (.arr 1 (fl y)),some (.arr 1 (fl q))]⟩) K ⟨_,_,_,rfl,hF,by simp,rfl,fW _,?_⟩ ?_
    ·simp only [go_sem]
    rintro k s ⟨q,x,y,hy,hd,hq,hx,hk,rfl⟩
    cases k with
    | zero =>
     simp only [go_sem,show decide (((0:Nat):Int)-1≥0)=false by decide,show decide ((-1:Int)≥0)=false by decide];refine aI [1] (aA _) (by decide) (by simp) rfl rfl (Pm q (by omega)) ?_;rintro r T' ⟨rfl,rfl⟩;have hyl:y.length=a.length:=by rw [hy,dU,hx];exact hNz
     have hyt:y.take ta.length=x:=by rw [hy,Ey hx]
     have hv2:(.own 0:AV)=BM ta.length y.length:=by rw [hyl,hv]
     have hft:=Pk (G:=G) y ta.length (by rw [hyl];omega) (by omega);rw [hyt,←hv2] at hft;have hfin:(dm a b).1=aN q∧(dm a b).2=aN y:=by
      have hF2:(q,x)=F:=hd;rw [hdm,←hF2];refine ⟨rfl,?_⟩;obtain ⟨kz,hzr⟩:=hzr;rw [hy,hzr,nD]
     have hxy:aN x=aN y:=by
      obtain ⟨kz,hzr⟩:=hzr;rw [hy,hzr,nD]
     rw [hxy] at hft;by_cases hh:(aN q).length=q.length
     ·simp only [go_sem,BM,if_pos hh];refine aI [0] (aA _) (by decide) (by simp) rfl rfl hft ?_;rintro r T' ⟨rfl,rfl⟩;by_cases hh2:(aN y).length=y.length
      ·simp only [go_sem,BM,if_pos hh2];exact ⟨q,y,hfin.1,hfin.2,by simp only [QV,if_pos hh,if_pos hh2],rfl⟩
      ·simp only [go_sem,BM,if_neg hh2];exact ⟨q,y,hfin.1,hfin.2,by simp only [QV,if_pos hh,if_neg hh2],rfl⟩
     ·simp only [go_sem,BM,if_neg hh];refine aI [0] (aA _) (by decide) (by simp) rfl rfl hft ?_;rintro r T' ⟨rfl,rfl⟩;by_cases hh2:(aN y).length=y.length
      ·simp only [go_sem,BM,if_pos hh2];exact ⟨q,y,hfin.1,hfin.2,by simp only [QV,if_neg hh,if_pos hh2],rfl⟩
      ·simp only [go_sem,BM,if_neg hh2];exact ⟨q,y,hfin.1,hfin.2,by simp only [QV,if_neg hh,if_neg hh2],rfl⟩
    | succ k =>
     have hk1:((k+1:Nat):Int)-1=(k:Int):=by omega
     have w5:IntKind.i64.wrap ((k:Int)+(tb.length:Int))=((k+tb.length:Nat):Int):=by rw [aJ (by omega) (by omega)];omega
     have w6:IntKind.i64.wrap (((k+tb.length:Nat):Int)-1)=((k+tb.length-1:Nat):Int):=by rw [aJ (by omega) (by omega)];omega
     have hlt:k+tb.length-1<ta.length:=by omega
     have hyl:y.length=a.length:=by rw [hy,dU,hx];exact hNz
     have g2:(fl y)[k+tb.length-1]?=some [.v (fu (x.getD (k+tb.length-1) 0))]:=by
      rw [hy,pN _ _ (by rw [dU];omega),Mp x [] _ (by omega)]
     have g3:=pN q k (by omega);simp only [go_sem,hk1,show decide ((k:Int)≥0)=true by simp,aL,w5,w6,hx,hyl,hlt,show k+tb.length-1<a.length by omega,g2];refine aB (aA _) rfl (CP _ _) rfl ?_;simp only [go_sem,aL,hq,show k<K by omega,g3,L7];have hd2:lE tb v k (q.set k (x.getD (k+tb.length-1) 0*v),cV (x.getD (k+tb.length-1) 0*v) tb k x)=F:=hd;generalize x.getD (k+tb.length-1) 0*v=c at hd2;have hq2:(q.set k c).length=K:=by rw [mA,hq]
     have g4:(fl (q.set k c))[k]?=some [.v (fu c)]:=by
      rw [IC _ _ (by omega),Yk]
     generalize q.set k c=q2 at *
     refine aO tb.length (λi=>⟨0,[(0,.own 0),(1,.ls 1 (fl tb)),(4,.own 1),(6,.v (fu v)),(7,.v (.int .i64 (k:Int))),(57,.ls 1 (fl tb)),(58,.v (.int .i64 tb.length)),(59,.v (.int .i64 i))],
      [some (.arr 1 (fl (cV c (tb.take i) k y))),some (.arr 1 (fl q2))]⟩) (λ_=>True) ?_ trivial ?_ ?_
     ·simp only [go_sem,mL,cV]
     ·intro i hi _;have g5:=pN tb i hi;have hlen:(cV c (tb.take i) k y).length=y.length:=lD _ _ _ _;have rT:=D2 c tb k y i hi;generalize cV c (tb.take i) k y=o at hlen rT;have g6:=pN o (k+i) (by omega);have w7:IntKind.i64.wrap ((k:Int)+(i:Int))=((k+i:Nat):Int):=by rw [aJ (by omega) (by omega)];omega
      have hl1:k+i<a.length:=by omega
      have hl2:k+i<ta.length:=by omega
      simp only [go_sem,aL,aT hi,g4,g5,w7,hlen,hyl,hl1,hl2,g6,hq2,show k<K by omega];refine aB (aA _) rfl (CP _ _) rfl ?_;simp only [go_sem,aL,w7,hlen,hyl,hl1,hl2,g6];refine aB (aA _) rfl (aDM _ _) rfl ?_;simp only [go_sem,aL,w7,hlen,hyl,hl1,hl2,g6,aG (show i<9223372036854775807 by omega),rT,L7]
     ·intro _;have w8:IntKind.i64.wrap ((k:Int)-1)=(k:Int)-1:=aJ (by omega) (by omega);simp only [go_sem,aL,aX (cZ _),kH,w8];refine ⟨k,by omega,q2,cV c tb k x,cV c tb k y,?_,hd2,hq2,by rw [lD,hx],by omega,rfl⟩;rw [hy,F8 c [] tb k x (by omega)]
      try rw [kT]
      try rw [kT]
 ·rw [hv];simp only [go_sem];refine aB (aA _) rfl (J2 b (by omega)) rfl ?_;by_cases h1:aN b=[]
  ·simp only [go_sem,h1,fl];refine ⟨[],[],?_,?_,by simp [QV,aN],rfl⟩<;>(rw [dm,if_pos h1];rfl)
  ·have hp1:=CT.2 h1;have e1:(((aN b).length:Int)==0)=false:=by simp;omega
   by_cases h2:(aN a).length<(aN b).length
   ·simp only [go_sem,aL,e1,aT h2];refine ⟨[],a,?_,?_,?_,rfl⟩
    ·rw [dm,if_neg h1,if_pos h2];rfl
    ·rw [dm,if_neg h1,if_pos h2]
    ·simp only [QV,N0,kI,if_true,if_neg hne]
   ·have hdm:dm a b=(let s:=lE (aN b) (inv ((aN b).getD ((aN b).length-1) 0)) ((aN a).length-(aN b).length+1) (List.replicate ((aN a).length-(aN b).length+1) 0,aN a);(aN s.1,aN s.2)):=by rw [dm,if_neg h1,if_neg h2]
    have hza:(fl a)=fl (aN a++z):=by rw [←hz]
    simp only [go_sem,aL,e1,aX h2];rw [hza];have hNz:(aN a).length+(z:List Fq).length=a.length:=by rw [←dU,←hz]
    clear hza;revert hdm;skip;generalize aN b=tb at *
    generalize hta:aN a=ta at *
    generalize hF:lE tb (inv (tb.getD (tb.length-1) 0)) (ta.length-tb.length+1) (List.replicate (ta.length-tb.length+1) 0,ta)=F;intro hdm;have w1:IntKind.i64.wrap ((ta.length:Int)-(tb.length:Int))=((ta.length-tb.length:Nat):Int):=by rw [aJ (by omega) (by omega)];omega
    have w2:IntKind.i64.wrap (((ta.length-tb.length:Nat):Int)+1)=((ta.length-tb.length+1:Nat):Int):=aG (by omega);generalize hK:ta.length-tb.length+1=K at *
    have w3:IntKind.i64.wrap ((tb.length:Int)-1)=((tb.length-1:Nat):Int):=by rw [aJ (by omega) (by omega)];omega
    have w4:IntKind.i64.wrap ((K:Int)-1)=(K:Int)-1:=aJ (by omega) (by omega);have g1:=pN tb (tb.length-1) (by omega);simp only [go_sem,aL,w1,w2,w3,g1,Pj,IZ,show ((K:Nat):Int)*8≤140737488355328 by omega,show ((K:Nat):Int)≤(maxLen:Int) by unfold maxLen;omega];refine aB (aA _) rfl (aDP _) rfl ?_;generalize inv (tb.getD (tb.length-1) 0)=v at *
    simp only [go_sem,aL,KI,w4];refine bU (λk s=>∃ q x y:List Fq,y=x++z∧lE tb v k (q,x)=F∧q.length=K∧x.length=ta.length∧k≤K∧s=⟨0,[(0,.vw 0 1 0 ta.length),(1,.ls 1 (fl tb)),(4,.own 1),(6,.v (fu v)),(7,.v (.int .i64 ((k:Int)-1)))],[some (.arr 1 (fl y)),some (.arr 1 (fl q))]⟩) K ⟨_,_,_,rfl,hF,by simp,rfl,fW _,?_⟩ ?_
    ·simp only [go_sem]
    rintro k s ⟨q,x,y,hy,hd,hq,hx,hk,rfl⟩
    cases k with
    | zero =>
     simp only [go_sem,show decide (((0:Nat):Int)-1≥0)=false by decide,show decide ((-1:Int)≥0)=false by decide];refine aI [1] (aA _) (by decide) (by simp) rfl rfl (Pm q (by omega)) ?_;rintro r T' ⟨rfl,rfl⟩;have hyl:y.length=a.length:=by rw [hy,dU,hx];exact hNz
     have hyt:y.take ta.length=x:=by rw [hy,Ey hx]
     have hv2:(.vw 0 1 0 ta.length:AV)=BM ta.length y.length:=by rw [hyl,hv]
     have hft:=Pk (G:=G) y ta.length (by rw [hyl];omega) (by omega);rw [hyt,←hv2] at hft;have hfin:(dm a b).1=aN q∧(dm a b).2=aN y:=by
      have hF2:(q,x)=F:=hd;rw [hdm,←hF2];refine ⟨rfl,?_⟩;obtain ⟨kz,hzr⟩:=hzr;rw [hy,hzr,nD]
     have hxy:aN x=aN y:=by
      obtain ⟨kz,hzr⟩:=hzr;rw [hy,hzr,nD]
     rw [hxy] at hft;by_cases hh:(aN q).length=q.length
     ·simp only [go_sem,BM,if_pos hh];refine aI [0] (aA _) (by decide) (by simp) rfl rfl hft ?_;rintro r T' ⟨rfl,rfl⟩;by_cases hh2:(aN y).length=y.length
      ·simp only [go_sem,BM,if_pos hh2];exact ⟨q,y,hfin.1,hfin.2,by simp only [QV,if_pos hh,if_pos hh2],rfl⟩
      ·simp only [go_sem,BM,if_neg hh2];exact ⟨q,y,hfin.1,hfin.2,by simp only [QV,if_pos hh,if_neg hh2],rfl⟩
     ·simp only [go_sem,BM,if_neg hh];refine aI [0] (aA _) (by decide) (by simp) rfl rfl hft ?_;rintro r T' ⟨rfl,rfl⟩;by_cases hh2:(aN y).length=y.length
      ·simp only [go_sem,BM,if_pos hh2];exact ⟨q,y,hfin.1,hfin.2,by simp only [QV,if_neg hh,if_pos hh2],rfl⟩
      ·simp only [go_sem,BM,if_neg hh2];exact ⟨q,y,hfin.1,hfin.2,by simp only [QV,if_neg hh,if_neg hh2],rfl⟩
    | succ k =>
     have hk1:((k+1:Nat):Int)-1=(k:Int):=by omega
     have w5:IntKind.i64.wrap ((k:Int)+(tb.length:Int))=((k+tb.length:Nat):Int):=by rw [aJ (by omega) (by omega)];omega
     have w6:IntKind.i64.wrap (((k+tb.length:Nat):Int)-1)=((k+tb.length-1:Nat):Int):=by rw [aJ (by omega) (by omega)];omega
     have hlt:k+tb.length-1<ta.length:=by omega
     have hyl:y.length=a.length:=by rw [hy,dU,hx];exact hNz
     have g2:(fl y)[k+tb.length-1]?=some [.v (fu (x.getD (k+tb.length-1) 0))]:=by
      rw [hy,pN _ _ (by rw [dU];omega),Mp x z _ (by omega)]
     have g3:=pN q k (by omega);simp only [go_sem,hk1,show decide ((k:Int)≥0)=true by simp,aL,w5,w6,hx,hyl,hlt,show k+tb.length-1<a.length by omega,g2];refine aB (aA _) rfl (CP _ _) rfl ?_;simp only [go_sem,aL,hq,show k<K by omega,g3,L7];have hd2:lE tb v k (q.set k (x.getD (k+tb.length-1) 0*v),cV (x.getD (k+tb.length-1) 0*v) tb k x)=F:=hd;generalize x.getD (k+tb.length-1) 0*v=c at hd2;have hq2:(q.set k c).length=K:=by rw [mA,hq]
     have g4:(fl (q.set k c))[k]?=some [.v (fu c)]:=by
      rw [IC _ _ (by omega),Yk]
     generalize q.set k c=q2 at *
     refine aO tb.length (λi=>⟨0,[(0,.vw 0 1 0 ta.length),(1,.ls 1 (fl tb)),(4,.own 1),(6,.v (fu v)),(7,.v (.int .i64 (k:Int))),(57,.ls 1 (fl tb)),(58,.v (.int .i64 tb.length)),(59,.v (.int .i64 i))],
      [some (.arr 1 (fl (cV c (tb.take i) k y))),some (.arr 1 (fl q2))]⟩) (λ_=>True) ?_ trivial ?_ ?_
     ·simp only [go_sem,mL,cV]
     ·intro i hi _;have g5:=pN tb i hi;have hlen:(cV c (tb.take i) k y).length=y.length:=lD _ _ _ _;have rT:=D2 c tb k y i hi;generalize cV c (tb.take i) k y=o at hlen rT;have g6:=pN o (k+i) (by omega);have w7:IntKind.i64.wrap ((k:Int)+(i:Int))=((k+i:Nat):Int):=by rw [aJ (by omega) (by omega)];omega
      have hl1:k+i<a.length:=by omega
      have hl2:k+i<ta.length:=by omega
      simp only [go_sem,aL,aT hi,g4,g5,w7,hlen,hyl,hl1,hl2,g6,hq2,show k<K by omega];refine aB (aA _) rfl (CP _ _) rfl ?_;simp only [go_sem,aL,w7,hlen,hyl,hl1,hl2,g6];refine aB (aA _) rfl (aDM _ _) rfl ?_;simp only [go_sem,aL,w7,hlen,hyl,hl1,hl2,g6,aG (show i<9223372036854775807 by omega),rT,L7]
     ·intro _;have w8:IntKind.i64.wrap ((k:Int)-1)=(k:Int)-1:=aJ (by omega) (by omega);simp only [go_sem,aL,aX (cZ _),kH,w8];refine ⟨k,by omega,q2,cV c tb k x,cV c tb k y,?_,hd2,hq2,by rw [lD,hx],by omega,rfl⟩;rw [hy,F8 c z tb k x (by omega)]
      try rw [kT]
      try rw [kT]
end
end
end Hud
