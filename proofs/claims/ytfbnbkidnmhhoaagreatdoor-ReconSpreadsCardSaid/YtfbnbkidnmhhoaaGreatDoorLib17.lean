import Derived.Test.YtfbnbkidnmhhoaaGreatDoorLib16
set_option linter.all false
set_option maxHeartbeats 40000000
namespace Hud
open Go
variable{G:L_}
def aNy(o:OpM)(X:O0):(o.A++X).take 27=o.A:=TY (OpM.len o)
def aNz(o:OpM)(a b c:AV)(X:O0):(o.A++(a::b::c::X)).drop 30=X:=K_
def aNA(o:OpM)(i:Id)(a b c d e:AV):(o.A++i.A++[a,b,c,d,e]).take 34=o.A++(i.A++[a,b,c,d]):=K_
def aNB(o:OpM)(i:Id)(a b c d e:AV):(o.A++i.A++[a,b,c,d,e]).drop 35=[]:=K_
def aFO(o:OpM)(X:O0):(o.A++X).drop 27=X:=List.drop_left' (OpM.len o)
def tk3(i:Id)(X:O0):(i.A++X).take 3=i.A:=TY rfl
def TL(g:PGM)(o:OpM)(i:Nat):aK:=TA g o++[TN o z4 (Fa g (o.Past.take i)),some (.box (oC (Hg g (o.Past.take i)))),some (.box (oC (Hh g (o.Past.take i))))]
def mx(a b:Int):(if b>a then b else a)=max a b:=o_
def aNC(o:OpM)(i:Id)(X:O0):(o.A++(i.A++X)).take 30=o.A++i.A:=K_
def aAW{o:OpM}(h:vF o=0):1<=o.Seq:=(Dv (by rw[<-Aq];exact h)).1
def aKi(o:OpM)(i:Id)(W:O3)(a:AV)(h:W.length=4):(o.A++(i.A++(oC W++[a]))).take 35=o.A++(i.A++(oC W++[a])):=
 sG (by simp only[dZ,aP,h,OpM.len];exact cN _)
def aKj(o:OpM)(i:Id)(W:O3)(a:Int):(o.A++(i.A++(oC W++[iv a]))).all gS=true:=by simp only[YK,OpM.one,mF];simp[Id.A,oC,gS]
def ZJ(o:OpM)(i:Id)(W:O3)(a:Int):(o.A++(i.A++(oC W++[iv a]))).all aX=true:=by simp only[YK,OpM.closed,mF];simp[Id.A,oC,aX]
def TH(g:PGM):aK:=[some (.box [.ls 5 (g.cards.map CardM.A),.mp 1,.own 3]),some (MG g.I),none,some (.arr 35 (g.nodes.map ND.A))]
def aDL(g:PGM)(n:ND):TH ⟨g.cards,g.nodes++[n]⟩=[some (.box [.ls 5 (g.cards.map CardM.A),.mp 1,.own 3]),some (.map true (g.I.map Id.K++[n.id.K]) ((List.range g.I.length).map (λx:Nat=>AV.v (Value.int IntKind.i64 (x:Int)))++[AV.v (Value.int IntKind.i64 (g.nodes.length:Int))]) (List.range g.I.length++[g.I.length]) (g.I.length+1)),none,some (.arr 35 (g.nodes.map ND.A++[n.A]))]:=by
 have hI:PGM.I ⟨g.cards,g.nodes++[n]⟩=g.I++[n.id]:=by simp[PGM.I]
 have a:g.I.length=g.nodes.length:=by simp[PGM.I]
 simp only[TH,MG,hI,dZ,GT,bZ,QH,fG,uP,a]
def aIe(V:GK G)(g:PGM)(o:OpM)(O:g.ok)(N:o.ok):aA PQ G uW [.ptr 0 0,.ag o.A] (TG 0 g) λr T=>r=iv (sR g o).2/\((T=TG 0 (sR g o).1/\(sR g o).1=g)\/T=TH (sR g o).1):=by
 apply aC FL;have hn:=O.n;have ax:=N.past.1;simp only[go_sem,TG,MG];apply cX (Wp V o N);simp only[go_sem];refine aL (λh=>?_) (λh=>?_);simp only[bne_iff_ne,ne_eq]at h;simp only[go_sem,sR,h,true_or];simp only[bne_eq_false_iff_eq]at h;have k1:=h;have e:sR g o=Oa g o:=by grind[sR]
 unfold Oa at e;clear h;apply Xs (λs=>s=⟨3,[(3,.ptr 3 0),(0,.ptr 0 0)],TA g o⟩) (by simp only[go_sem,TA]);rintro s rfl;rw[bC];refine Xs (λs=>s=⟨3,[(0,.ptr 0 0),(3,.ptr 3 0),(6,.ptr 4 0)],TA g o++[TN o z4 1]⟩) ?_ ?_
 ·simp only[go_sem,TA];refine And.intro ?_ ?_
  all_goals refine cX (ZH o N) ?_
  all_goals simp only[go_sem]
  all_goals try with_reducible refine And.intro ?_ ?_
  all_goals refine cX (aFD o N) ?_
  all_goals simp only[go_sem,aNy,aNz,aNA,aNB,TN,jO,YK,aBY,gS]
  all_goals rfl
 rintro s rfl;have l:z4.length=4:=rfl;have t:30<=27+(3+(4+1)):=s_;have hk:=AL (C7 o);have H:=qH (C7 o) g.I 0;by_cases hx:C7 o∈g.I;rw[e,if_pos hx];obtain⟨j,q,h2,_⟩:=dG hx;rw[q]at H;have gv:=yC g.I.length j h2;simp only[iX,mG]at H;simp only[go_sem,TA,TN,aFO,tk3,l,t,H,gv,true_or];rw[aOH hx]at H;rw[if_neg hx]at e;simp only[xD]at H;rw[bC];refine Xs (λs=>s=⟨3,[(0,.ptr 0 0),(3,.ptr 3 0),(6,.ptr 4 0)],TA g o++[TN o z4 1]⟩) ?_ ?_;simp only[go_sem,TA,TN,aFO,tk3,l,t,H];rintro s rfl;have J:decide ((200:Int)<=(g.nodes.length:Int))=decide (200<=g.nodes.length):=m_;simp only[go_sem,TA,TN,aP,ge_iff_le,J];refine aL (λh=>?_) (λh=>?_)<;>simp only[decide_eq_true_eq,decide_eq_false_iff_not]at h;rw[e,if_pos h];simp only[go_sem,true_or];rw[if_neg h]at e;have av:=h;clear h J;simp only[go_sem];apply aG [0,1,2] (aB _) s_ k_ rfl u_ (ZI g o.By O.cn);rintro r T' ⟨rfl,rfl⟩;simp only[go_sem,TG,MG,CardM.A_def];cases hc:(gM g.cards o.By).2;rw[e,if_pos hc];simp only[go_sem,true_or];rw[if_neg (by simp[hc])]at e;have ar:=Uw (d:=o.By) O.cs;generalize(gM g.cards o.By).1=c at *
 simp only[go_sem];apply cX (aDq c o N ar);simp only[go_sem];cases ab:((o.By==c.Device)&&BW c.Sign o.B o.SR o.SS);rw[e,if_pos ab];simp only[go_sem,true_or];rw[if_neg (by simp[ab])]at e;have F:decide ((g.nodes.length:Int)>0)=decide (0<g.nodes.length):=k_;refine Xs (λs=>s=⟨3,[(0,.ptr 0 0),(3,.ptr 3 0),(6,.ptr 4 0)],TA g o++[TN o z4 1,some (.box [iv c.Device,iv c.Member,uv c.Lead,uv c.Keep,uv c.Sign])]⟩) ?_ ?_;rfl;rintro s rfl;rw[bC];refine Xs (λs=>s=⟨3,[(0,.ptr 0 0),(3,.ptr 3 0),(6,.ptr 4 0)],TA g o++[TN o z4 1,some (.box [iv c.Device,iv c.Member,uv c.Lead,uv c.Keep,uv c.Sign])]⟩/\((o.Kind==1)&&decide (0<g.nodes.length))=false) ?_ ?_;cases V:(o.Kind==1);simp only[go_sem,TA,TN,V,undef];cases h2:decide (0<g.nodes.length);simp only[go_sem,TA,TN,aP,F,V,h2];rw[e,if_pos (by rw[V,h2];rfl)];simp only[go_sem,TA,TN,aP,F,V,h2,true_or];rintro s ⟨rfl,aq⟩;rw[if_neg (by simp[aq])]at e;simp only[go_sem,TA,TN];apply aG [0,1,2] (aB _) s_ k_ rfl u_ (aFN g o N);rintro r T' ⟨rfl,rfl⟩;have dl:decide (((CQ g o).length:Int)>0)=decide (0<(CQ g o).length):=k_;simp only[go_sem,TG,MG,aP,dl];refine aL (λh=>?_) (λh=>?_)<;>simp only[decide_eq_true_eq,decide_eq_false_iff_not]at h;rw[e,if_pos h];simp only[go_sem,true_or];rw[if_neg h]at e;have ap:∀x∈o.Past,x∈g.I:=by intro x am;have h0:CQ g o=[]:=Ae o_;have:=List.filter_eq_nil_iff.1 h0 x am;simpa using this
 clear h dl;simp only[go_sem];refine aQ o.Past.length (λi=>⟨3,[(0,.ptr 0 0),(3,.ptr 3 0),(6,.ptr 4 0),(11,.ptr 5 0),(12,.ptr 6 0),(13,iv (G0 g (o.Past.take i))),(80,ids o.Past),(81,iv o.Past.length),(82,iv i)],TL g o i⟩) (λ_=>True) ?_ trivial ?_ ?_;simp only[go_sem,TA,TN,TL,uQ,Hg,Hh,G0,Fa,Kk,z4];rfl;intro i p _;have D:=fQ i o_;have g0:(o.Past.map Id.A)[i]?=some o.Past[i].A:=aO _ o.Past i p;have an:=ap _ (eQ p);obtain⟨j,f1,f2,_⟩:=dG an;have ft:=lq8 p;have ay:=AL o.Past[i];have P:=qH o.Past[i] g.I 0;rw[f1]at P;simp only[iX,mG]at P;have gv:=yC g.I.length j f2;have y:j<g.nodes.length:=by grind[PGM.I]
 have ad:g.at o.Past[i]=j:=by grind[PGM.at]
 have ac:g.nd o.Past[i]=g.nodes[j]:=by grind[PGM.nd]
 have R:(g.nodes.map ND.A)[j]?=some (g.nodes[j].o.A++(g.nodes[j].id.A++(oC g.nodes[j].W++[iv g.nodes[j].lv]))):=aO _ g.nodes j y;have aw:=O.lv _ (eQ y);have aa:=O.ws _ (eQ y);have eP:=aDH g (o.Past.take i) o.Past[i];have eA:=aDI g (o.Past.take i) o.Past[i];have eL:=aAU g (o.Past.take i) o.Past[i];have eV:=aDJ g (o.Past.take i) o.Past[i];rw[<-ft,ad]at eP;rw[<-ft,ac]at eA eL eV;have K:=JB g (o.Past.take i);have L:=JC O (o.Past.take i);simp only[TL];generalize Hg g (o.Past.take i)=f at *
 generalize Hh g (o.Past.take i)=k at *
 generalize G0 g (o.Past.take i)=la at *
 generalize Fa g (o.Past.take i)=u at *
 clear ad ac;generalize g.nodes[j]=x at *
 have w1:IntKind.i64.wrap (x.lv+1)=x.lv+1:=aJ o_ o_;have M:=aa.1;simp only[go_sem,TA,TN,aP,aT p,g0,P,gv,y];apply aG (T2:=[some (.box (oC f))]) [5] (aB _) s_ k_ rfl a_ (aAP f j K o_);rintro r T' rfl;have al:34<=27+(3+(4+1)):=s_;simp only[go_sem,aP,R,aKf,tk4 _ M,M,al];apply aG (T2:=[some (.box (oC k))]) (args2:=[.ptr 0 0,.ag (oC x.W)]) [6] (aB _) s_ k_ a_ a_ (W8 k x.W L aa);rintro r T' rfl;simp only[go_sem,TA,TN,l,TL,aP,R,aDK,aH6 _ _ _ _ M,aH6 _ _ _ _ l,aKh _ _ _ _ l,aKg _ _ _ _ l,w1,D,eP,eA,eL,eV,mx,lq2];intro _;rw[dE];have K:=JB g o.Past;have L:=JC O o.Past;unfold Q8 MQ BF at e;have ae:TL g o o.Past.length=TA g o++[TN o z4 (Fa g o.Past),some (.box (oC (Hg g o.Past))),some (.box (oC (Hh g o.Past)))]:=by rw[TL,dE]
 rw[ae];clear ae;generalize Hg g o.Past=f at *
 generalize Hh g o.Past=k at *
 generalize Fa g o.Past=u at *
 generalize G0 g o.Past=la at *
 have Q:=K.1;have ai:=L.1;have tP:(oC f).take 4=oC f:=sG (by rw[aP,Q];decide);have tA:(oC k).take 4=oC k:=sG (by rw[aP,ai];decide);have aj:(oC f).all gS=true:=by simp[oC,gS]
 simp only[go_sem,TA,TN,aP,aS (bP _),Q,tP,aj];have ao:=U3 K L;refine aQ 4 (λi=>⟨3,[(0,.ptr 0 0),(3,.ptr 3 0),(6,.ptr 4 0),(11,.ptr 5 0),(12,.ptr 6 0),(13,iv la),(17,.ptr 7 0),(127,iv i)],TA g o++[TN o z4 u,some (.box (oC f)),some (.box (oC k)),some (.box (oC ((Cu f k).take i++f.drop i)))]⟩) (λ_=>True) ?_ trivial ?_ ?_;simp only[go_sem,TA,TN,uQ,TZ,dM];intro i p _;have D:=fQ i o_;have hX:((Cu f k).take i++f.drop i).length=4:=c_;have gX:((Cu f k).take i++f.drop i).getD i 0=f.getD i 0:=m_;have eX:=aAV f k o_ i o_;have a1:=J5 (f.getD i 0) (k.getD i 0) (AJ K _) (AJ L _);have gv:=Dw k i o_;generalize ba:(Cu f k).take i++f.drop i=X at *
 have gx:=Dw X i o_;rw[gX]at gx;have es:(oC X).take i++[uv (f.getD i 0 &&& k.getD i 0)]++(oC X).drop (i+1)=oC (X.set i (f.getD i 0 &&& k.getD i 0)):=by show _=(X.set i (f.getD i 0 &&& k.getD i 0)).map λw=>uv w;rw[Ba,aGB,if_pos (by rw[aP,hX];exact p),lq2];rfl
 have d1:decide ((i:Int)<4)=true:=decide_eq_true o_;have i1:(i:Int)<4:=o_;simp only[go_sem,TA,TN,aP,i1,hX,gx,gv,↓a1,es,D,eX,Bb,pQ,(o_:i<=3)];intro _;rw[sG o_,LB o_,jO];obtain⟨b0,b1,b2,Y,hb⟩:∃a b c d:Nat,Cu f k=[a,b,c,d]:=by
  match h:Cu f k,ao with
  |[a,b,c,d],_=>exact⟨a,b,c,d,rfl⟩
 rw[hb]at e⊢;have e4:((b0:Int)==0&&((b1:Int)==0&&((b2:Int)==0&&(Y:Int)==0)))=([b0,b1,b2,Y]==z4):=by rw[aO8];simp[z4]
 cases U:([b0,b1,b2,Y]==z4);rw[e,if_pos (by rw[U];rfl)];simp only[go_sem,TA,TN,e4,U,undef,true_or];cases hl:decide (o.At<la);rotate_left;rw[e,if_pos (by rw[U,hl];rfl)];simp only[go_sem,TA,TN,e4,U,hl,true_or];rw[if_neg (by rw[U,hl];decide)]at e;have ak:(oC k).all gS=true:=by simp[oC,gS]
 simp only[go_sem,TA,TN,l,e4,U,hl,ai,tA,aId _ _ _ _ l,aNC,ak,Q,tP];apply aG (T2:=[some (.box ((o.A++(C7 o).A)++(oC k++[iv u])))]) (args2:=[.ptr 0 30,.ag (oC f)]) [4] (aB _) s_ k_ a_ (by simp only[go_sem,lq2]) (K1 (o.A++(C7 o).A) [iv u] 30 (by rw[dZ,OpM.len];rfl) k f L K a_ rfl);rintro r T' rfl;have af:=aRL L K;generalize Kz k f=m at *
 simp only[go_sem,lq2];have C:=af.1;have w2:IntKind.i64.wrap (o.Seq-1)=o.Seq-1:=aJ (by have:=aAW k1;omega) (by have:=(N.ints o.Seq k_).2;omega);refine aQ g.nodes.length (λi=>⟨3,[(0,.ptr 0 0),(3,.ptr 3 0),(6,.ptr 4 0),(19,iv (BY g.nodes o m i).1),(20,.v (.bool (BY g.nodes o m i).2)),(157,iv g.nodes.length),(158,iv i)],TA g o++[TN o m u]⟩) (λ_=>True) ?_ trivial ?_ ?_;simp only[go_sem,TA,TN,BY];intro i p _;have D:=fQ i o_;have R:(g.nodes.map ND.A)[i]?=some (g.nodes[i].o.A++(g.nodes[i].id.A++(oC g.nodes[i].W++[iv g.nodes[i].lv]))):=aO _ g.nodes i p;have gd:g.nodes.getD i XD=g.nodes[i]:=by rw[rH,jN p];rfl
 have E:BY g.nodes o m (i+1)=if((g.nodes[i].o.By==o.By)&&qK m i) then(max (BY g.nodes o m i).1 g.nodes[i].o.Seq,(BY g.nodes o m i).2||(g.nodes[i].o.Seq==o.Seq-1)) else BY g.nodes o m i:=by rw[BY,gd]
 generalize BY g.nodes o m (i+1)=S1 at *
 generalize BY g.nodes o m i=S at *
 obtain⟨Z,ah⟩:=S;clear gd;generalize g.nodes[i]=x at *
 cases z:(x.o.By==o.By);rw[z,lR,if_neg s_]at E;simp only[go_sem,TA,TN,aP,aT p,p,R,aDK,z,undef,D,E];rw[z,mF]at E;simp only[go_sem,TA,TN,aP,aT p,p,R,aDK,z];apply aG (T2:=[some (.box ((o.A++(C7 o).A)++(oC m++[iv u])))]) (args2:=[.ptr 0 30,iv i]) [4] (aB _) s_ k_ a_ (by simp only[go_sem,lq2]) (aAQ (o.A++(C7 o).A) [iv u] 30 (by rw[dZ,OpM.len];rfl) m i af o_ a_ rfl);rintro r T' ⟨rfl,rfl⟩;cases hh:qK m i;rw[hh,if_neg s_]at E;simp only[go_sem,TA,TN,lq2,D,E];rw[hh,if_pos rfl]at E;cases ah;simp only[go_sem,TA,TN,lq2,R,aDK,D,E,w2,mx];simp only[go_sem,TA,TN,lq2,R,aDK,D,E,mx,undef];intro _;generalize BY g.nodes o m g.nodes.length=S at *
 obtain⟨Z,ah⟩:=S;have az:(g.nodes.map ND.A).length=g.nodes.length:=aP _;cases q:decide (o.Seq<=Z);rotate_left;rw[if_pos (by simp[q])]at e;rw[e];simp only[go_sem,TA,TN,aS (bP _),ge_iff_le,q,undef,true_or];have au:∀Y:Bool,decide (1<o.Seq)=Y->(Y=true->ah=false)->True:=λ_ _ _=>trivial;clear au;cases h2:decide (1<o.Seq);rw[if_neg (by simp[q,h2])]at e;rw[e];simp only[go_sem,TA,TN,aFO,tk3,t,aP,aS (bP _),ge_iff_le,gt_iff_lt,q,h2,undef,C,H,aKi _ _ _ _ C,aKj,ZJ,(g_:g.nodes.length+1<=maxLen),(o_:(g.nodes.length+1)*392<=140737488355328)];exact .inr (aDL g ⟨o,C7 o,m,u⟩).symm;cases ah;rw[if_pos (by simp[q,h2])]at e;rw[e];simp only[go_sem,TA,TN,aS (bP _),ge_iff_le,gt_iff_lt,q,h2,true_or];rw[if_neg (by simp[q,h2])]at e;rw[e];simp only[go_sem,TA,TN,aFO,tk3,t,aP,aS (bP _),ge_iff_le,gt_iff_lt,q,h2,undef,C,H,aKi _ _ _ _ C,aKj,ZJ,(g_:g.nodes.length+1<=maxLen),(o_:(g.nodes.length+1)*392<=140737488355328)];exact .inr (aDL g ⟨o,C7 o,m,u⟩).symm
def aU7(x y:Id):aA PQ G aE2 [.ag x.A,.ag y.A] [] λr T=>r=iv (Wi x y)/\T=[]:=by refine aC aOh ?_;simp only[go_sem,Id.A_def];apply cX (Cm x y);simp only[go_sem];refine aL (λh=>?_) (λh=>?_);simp only[go_sem,Wi,h];simp only[go_sem];apply cX (Cm y x);simp only[go_sem];refine aL (λh2=>?_) (λh2=>?_)<;>simp only[go_sem,Wi,h,h2]
def aGn(l:O6)(h:l.length<2^62):aA PQ G bK [.own 0,.cl aE2 []] [some (.arr 3 (l.map Id.A))] λr T=>r=.tup []/\T=[some (.arr 3 ((sQ l).map Id.A))]:=by
 have a:∀x y:Id,Go.Proofs.ltOf Wi x y=x.lt y:=by grind[Go.Proofs.ltOf,Wi]
 have:=SW (k:=3) (enc:=Id.K) Go.Proofs.Tryz.laysSort Go.Proofs.Tryz.isAgg71 Go.Proofs.Tryz.sizeOf71 (λ_=>rfl) (λx v d=>by simp[Id.K]at d;rcases d with rfl|rfl|rfl<;>rfl)
  (λx c f=>by simp[cellsOf,Id.K]at f;rcases f with rfl|rfl|rfl<;>rfl) (cf:=Wi)
  ⟨λx=>by rw[a,Id.lt_irrefl],λx y z b h2=>by rw[a]at *;exact Id.lt_trans b h2,λx y z b h2=>by rw[a]at *;exact Id.nlt_trans b h2⟩
  (λx y b h2=>by rw[a]at *;exact Id.lt_total b h2) (g:=aE2) (Go.Proofs.enters_of Go.Proofs.Tryz.func168 r_ rfl) (Go.Proofs.enters_of Go.Proofs.Tryz.func144 r_ rfl) (G:=G) aU7 l h
 have e:(λx y:Id=>!(Go.Proofs.ltOf Wi y x))=λx y=>!(y.lt x):=by funext x y;rw[a]
 rw[e]at this;exact this
def aWf(i:Int):aA PQ G aET [iv i] [] λr T=>r=.v (.bool true)/\T=[]:=by refine aC aOB ?_;simp only[go_sem]
def aPn (g:PGM) (d:g.ok):aA PQ G VM [.ptr 0 0] (TG 0 g) λr T=>r=ids (sQ g.I)/\T=TG 0 g:=by
 have u:=d.n;have b:aA PQ G aLL [.ptr 0 0,.cl aET []] (TG 0 g) λr T=>r=.own 3/\T=TG 0 g++[some (.arr 3 ((sQ g.I).map Id.A))]:=by
  apply aC aOA;simp only[go_sem,TG,MG];refine aQ g.nodes.length (λi=>⟨3,[(1,.cl aET []),(5,.own 3),(11,.own 2),(12,iv g.nodes.length),(13,iv i)],TG 0 g++[some (.arr 3 ((g.I.take i).map Id.A))]⟩) (λ_=>True) ?_ trivial ?_ ?_;simp only[go_sem,TG,MG,aP,uQ,uP];intro i a _;have l:=fQ i o_;have s:(g.nodes.map ND.A)[i]?=some g.nodes[i].A:=aO _ g.nodes i a;have t:g.I.take (i+1)=g.I.take i++[g.nodes[i].id]:=by unfold PGM.I;rw[<-QN,<-QN,lq8 a,bZ];rfl
  have q:min i g.I.length=i:=by unfold PGM.I;simp;omega
  have o:i+1<=maxLen:=g_;have m:(i+1)*24<=140737488355328:=o_;have c:g.nodes[i].A.length=35:=ND.Alen _ (d.ws _ (eQ a)).1;have j:g.nodes[i].A.take 35=g.nodes[i].A:=sG o_;have h:(g.nodes[i].A.drop 27).take 3=g.nodes[i].id.A:=by unfold ND.A;rw[List.drop_left' (OpM.len _)];rfl
  have k:g.nodes[i].A.all gS=true:=aKj _ _ _ _;rw[t];generalize g.nodes[i].A=Z at *
  simp only[go_sem,TG,MG,aP,aT a,a,s,c,j,k];apply cX (aWf i);simp only[go_sem,TG,MG,l,c,h,q,o,m];intro _;simp only[go_sem,TG,MG,aP,aS (bP _)];apply aG [3] (aB _) s_ k_ rfl rfl (aGn _ (by simp[PGM.I];omega));rintro r f ⟨rfl,rfl⟩;have e:g.I.take g.nodes.length=g.I:=sG (by simp[PGM.I]);simp only[go_sem,TG,MG,e]
 refine aA.fin (p:=λr T=>r=.own 3/\T=TG 0 g++[some (.arr 3 ((sQ g.I).map Id.A))]) (aC aOR ?_) [3] ?_;rotate_left;rintro r f ⟨rfl,rfl⟩;simp only[go_sem,TG,MG];simp only[go_sem,TG,MG];apply aG [0,1,2] (aB _) s_ k_ a_ u_ b;rintro r f ⟨rfl,rfl⟩;simp only[go_sem,TG,MG]
def B3(g:GM)(ids:O6)(i:Nat):Bool:=ids.any λx=>decide (0<=aW g.I x)&&(g.In.getD (aW g.I x).toNat []).getD i false
def Le(I:O6)(p:Nat->Bool)(n:Nat):O6:=((List.range n).filter p).map λi=>I.getD i default
def rV(g:GM)(ids:O6):O6:=jI (Le g.I (B3 g ids) g.L.length)
def uD(I a out:O6)(x:Id):O6:=if(decide (0<=aW I x)&&(!decide (x∈a)&&!decide (x∈out))) then out++[x] else out
def yV(g:GM)(ids:O6):O6:=jI (ids.foldl (uD g.I (rV g ids)) [])
def vL(I out:O6)(x:Id):O6:=if(decide (0<=aW I x)&&!decide (x∈out)) then out++[x] else out
def Fd(g:GM)(ids:O6):O6:=jI (ids.foldl (vL g.I) (rV g ids))
def vM(d:Int)(n:Int)(x:Id):Int:=if x.a=d then(if n<x.b then x.b else n) else n
def Sx(ids:O6)(d:Int):Int:=ids.foldl (vM d) 0+1
def vN(g:GM)(t:Int)(x:Id):Int:=if 0<=aW g.I x then(if t<(g.L.getD (aW g.I x).toNat default).At then(g.L.getD (aW g.I x).toNat default).At else t) else t
def Fe(g:GM)(ids:O6):Int:=ids.foldl (vN g) 0
def aDS(I:O6)(p:Nat->Bool)(n:Nat):Le I p (n+1)=Le I p n++(if p n then [I.getD n default] else []):=by grind[Le,List.range_succ]
def JF(I:O6)(p:Nat->Bool)(n:Nat):(Le I p n).length<=n:=by grind[Le,List.length_map]
def U7 (g:GM) (a:O6) (d:g.ok) (M:a.length<=100000):aA PQ G An [.ag g.A,ids a] [] λr T=>r=.own 0/\T=[some (.arr 3 ((rV g a).map Id.A))]:=by
 apply aC Pb;have K:=d.n;simp only[go_sem];refine aQ g.L.length (λi=>⟨0,[(1,ids a),(2,.ptr 0 0),(5,.own 1),(6,iv i)],[some (.box g.A),some (.arr 3 ((Le g.I (B3 g a) i).map Id.A))]⟩) (λ_=>True) ?_ trivial ?_ ?_;rfl;intro i h _;have q:=fQ i o_;have F:(g.I.map Id.A)[i]?=some (g.I.getD i default).A:=by rw[gE,rH,jN (by rw[d.i];exact h)];rfl
 have D:=d.i;have m:=JF g.I (B3 g a) i;rw[aDS];generalize Le g.I (B3 g a) i=X at *
 generalize g.I.getD i default=J at *
 simp only[go_sem,aP,aT h];refine aQ a.length (λk=>⟨0,[(1,ids a),(2,.ptr 0 0),(5,.own 1),(6,iv i),(7,.v (.bool ((a.take k).any λx=>decide (0<=aW g.I x)&&(g.In.getD (aW g.I x).toNat []).getD i false))),(8,iv k)],[some (.box g.A),some (.arr 3 (X.map Id.A))]⟩) (λ_=>True) ?_ trivial ?_ ?_;simp only[go_sem,uQ,List.any_nil];intro k p _;have H:(a.map Id.A)[k]?=some a[k].A:=aO _ a k p;have j:=fQ k o_;rw[ZE _ a k p];generalize((a.take k).any λx=>decide (0<=aW g.I x)&&(g.In.getD (aW g.I x).toNat []).getD i false)=is;generalize a[k]=x at *
 simp only[go_sem,aP,aT p,H];apply cX (Dt g x d);have y:=AZ g.I x;cases is;simp only[go_sem,ge_iff_le];cases s:decide (0<=aW g.I x);simp only[go_sem,undef,j,lR,EB];have o:0<=aW g.I x:=of_decide_eq_true s;have B:=d.inn;have w:(aW g.I x).toNat<g.L.length:=o_;have f:(g.In.map λl=>[wI l])[(aW g.I x).toNat]?=some [wI (g.In.getD (aW g.I x).toNat [])]:=e_;have u:(g.In.getD (aW g.I x).toNat []).length=g.L.length:=by rw[rH,jN o_];exact d.ins _ (eQ _)
 have E:((g.In.getD (aW g.I x).toNat []).map λb=>[AV.v (.bool b)])[i]?=some [AV.v (.bool ((g.In.getD (aW g.I x).toNat []).getD i false))]:=e_;have z:(if 0>aW g.I x then(0:Int) else aW g.I x)=aW g.I x:=if_neg o_;simp only[go_sem,z,o,f,E,j,mF,EH];simp only[go_sem,undef,j,EI];intro _;rw[dE];have C:(a.any λx=>decide (0<=aW g.I x)&&(g.In.getD (aW g.I x).toNat []).getD i false)=B3 g a i:=rfl;rw[C];cases s:B3 g a i;simp only[go_sem,aP,aS (bP _),q];simp only[go_sem,aP,aS (bP _),q,F,bZ,(g_:X.length+1<=maxLen),(o_:(X.length+1)*24<=140737488355328)];intro _;have m:=JF g.I (B3 g a) g.L.length;simp only[go_sem,aP,aS (bP _)];apply cH (aB _) rfl rfl (AD _ o_);rintro r N ⟨rfl,rfl⟩;refine⟨w_,by simp only[aE5,xH,forall_eq,dF];rintro e ⟨b,_,rfl⟩ c t;simp only[Id.A,cS,pP,or_false]at t;rcases t with rfl|rfl|rfl<;>exact⟨_,rfl⟩,?_⟩;simp only[go_sem];rfl
def aB0(g:GM)(a:O6)(c:g.ok)(b:a.length<=100000):aA PQ G An [.ag g.A,ids a] [] λr T=>r=ids (rV g a)/\T=[]:=by refine(U7 g a c b).fin [0] ?_;rintro r d ⟨rfl,rfl⟩;simp only[go_sem,gQ]
def MR(l:O6):∀e∈l.map Id.A,∀c∈e,∃x,c=AV.v x:=by grind[Id.A]
def Oi(g:GM)(a:O6)(b:g.ok):(rV g a).length<=1000:=by unfold rV;rw[Qn];have:=JF g.I (B3 g a) g.L.length;have:=b.n;omega
def KE(I a:O6):∀(l:O6)(out:O6),(l.foldl (uD I a) out).length<=out.length+l.length|[],out=>by simp|x::l,out=>by rw[CW];have:=KE I a l (uD I a out x);grind[uD,List.length_cons]
def GN(I:O6):∀(l:O6)(out:O6),(l.foldl (vL I) out).length<=out.length+l.length|[],out=>by simp|x::l,out=>by rw[CW];have:=GN I l (vL I out x);grind[vL,List.length_cons]
def GO{α a:Type}(f:a->α->a)(b:a)(l:List α)(i:Nat)(h:i<l.length):(l.take (i+1)).foldl f b=f ((l.take i).foldl f b) l[i]:=by rw[lq8 h,Hy];rfl
def aFT(g:GM)(a:O6)(j:g.ok)(n:a.length<=100000):aA PQ G xR [.ag g.A,ids a] [] λr T=>r=.own 0/\T=[some (.arr 3 ((yV g a).map Id.A))]:=by
 apply aC Nb;have o:=Oi g a j;simp only[go_sem];apply cX (aB0 g a j n);unfold yV;generalize rV g a=c at *
 simp only[go_sem];refine aQ a.length (λi=>⟨0,[(1,ids a),(2,.ptr 0 0),(5,ids c),(6,.own 1),(7,iv i)],[some (.box g.A),some (.arr 3 (((a.take i).foldl (uD g.I c) []).map Id.A))]⟩) (λ_=>True) ?_ trivial ?_ ?_;simp only[go_sem,uQ,Kk]
 ·intro i d _;have e:=fQ i o_;have h:(a.map Id.A)[i]?=some a[i].A:=aO _ a i d;have b:=KE g.I c (a.take i) [];rw[eC]at b;simp only[gQ]at b;rw[GO _ _ a i d];generalize(a.take i).foldl (uD g.I c) []=out at *
  generalize a[i]=x at *
  have m:out.length+1<=maxLen:=g_;have l:(out.length+1)*24<=140737488355328:=o_;simp only[go_sem,aP,aT d,h];apply cX (Dt g x j);simp only[go_sem,ge_iff_le];cases f:decide (0<=aW g.I x);simp only[go_sem,undef,e,uD,f,lR,jJ];simp only[go_sem,h];apply cX (uJ c x g_);cases h2:decide (x∈c);rotate_left;simp only[go_sem,undef,e,uD,f,h2,lI,lR,Ea,jJ];simp only[go_sem,h];apply cH (aB _) rfl rfl (uJ out x o_);rintro r p ⟨rfl,rfl⟩;refine⟨w_,k_,?_⟩;cases k:decide (x∈out);simp only[go_sem,aP,h,m,l,e,uD,f,h2,k,sF,mF,bZ];simp only[go_sem,e,uD,f,h2,k,lI,sF,Ea,jJ]
 intro _;rw[dE];have b:=KE g.I c a [];simp only[gQ]at b;generalize a.foldl (uD g.I c) []=out at *
 simp only[go_sem,aP,aS (bP _)];apply cH (aB _) rfl rfl (AD out o_);rintro r p ⟨rfl,rfl⟩;refine⟨w_,by simp only[aE5,xH,forall_eq];exact MR _,?_⟩;simp only[go_sem]
def XG(g:GM)(a:O6)(f:g.ok)(n:a.length<=100000):aA PQ G qR [.ag g.A,ids a] [] λr T=>r=.own 0/\T=[some (.arr 3 ((Fd g a).map Id.A))]:=by
 apply aC PX;have o:=Oi g a f;simp only[go_sem];apply aBF (U7 g a f n);unfold Fd;generalize rV g a=d at *
 simp only[go_sem];refine aQ a.length (λi=>⟨0,[(1,ids a),(2,.ptr 0 0),(5,.own 1),(6,iv i)],[some (.box g.A),some (.arr 3 (((a.take i).foldl (vL g.I) d).map Id.A))]⟩) (λ_=>True) ?_ trivial ?_ ?_;rfl;intro i b _;have e:=fQ i o_;have j:(a.map Id.A)[i]?=some a[i].A:=aO _ a i b;have c:=GN g.I (a.take i) d;rw[eC]at c;rw[GO _ _ a i b];generalize(a.take i).foldl (vL g.I) d=out at *
 generalize a[i]=x at *
 have m:out.length+1<=maxLen:=g_;have l:(out.length+1)*24<=140737488355328:=o_;simp only[go_sem,aP,aT b,j];apply cX (Dt g x f);simp only[go_sem,ge_iff_le];cases h:decide (0<=aW g.I x);simp only[go_sem,undef,e,vL,h,lR,jJ];simp only[go_sem,j];apply cH (aB _) rfl rfl (uJ out x o_);rintro r p ⟨rfl,rfl⟩;refine⟨w_,k_,?_⟩;cases k:decide (x∈out);simp only[go_sem,aP,j,m,l,e,vL,h,k,sF,mF,bZ];simp only[go_sem,e,vL,h,k,lI,Ea,jJ];intro _;rw[dE];have c:=GN g.I a d;generalize a.foldl (vL g.I) d=out at *
 simp only[go_sem,aP,aS (bP _)];apply cH (aB _) rfl rfl (AD out o_);rintro r p ⟨rfl,rfl⟩;refine⟨w_,by simp only[aE5,xH,forall_eq];exact MR _,?_⟩;simp only[go_sem]
def U9(g:GM)(a:O6)(c:g.ok)(b:a.length<=100000):aA PQ G xR [.ag g.A,ids a] [] λr T=>r=ids (yV g a)/\T=[]:=by refine(aFT g a c b).fin [0] ?_;rintro r d ⟨rfl,rfl⟩;simp only[go_sem,gQ]
def JG(g:GM)(a:g.ok):aA PQ G AU [.ag g.A] [] λr T=>r=ids (jI g.I)/\T=[]:=by refine aA.fin (p:=λr T=>r=.own 0/\T=[some (.arr 3 ((jI g.I).map Id.A))]) (aC SB ?_) [0] ?_;have b:=a.n;have c:=a.i;simp only[go_sem];apply aBF (AD g.I o_);simp only[go_sem];rintro r d ⟨rfl,rfl⟩;simp only[go_sem,gQ]
def XH(d:Int):∀(l:O6)(n:Int),n<=l.foldl (vM d) n|[],n=>Int.le_refl _|x::l,n=>Int.le_trans (by unfold vM;split<;>(try split)<;>omega) (XH d l (vM d n x))
def XI(d B:Int):∀(l:O6)(n:Int),n<=B->(∀x∈l,x.b<=B)->l.foldl (vM d) n<=B|[],n,h,_=>h|x::l,n,h,a=>XI d B l _ (by have:=a x EV;unfold vM;split<;>(try split)<;>omega) λy c=>a y (GU _ c)
def aH7(g:GM)(e:O6)(d:Int)(o:e.length<=100000)(m:∀x∈e,x.b<=9223372036854775806):aA PQ G F8 [.ag g.A,ids e,iv d] [] λr T=>r=iv (Sx e d)/\T=[]:=by
 apply aC SC;simp only[go_sem];refine aQ e.length (λi=>⟨0,[(1,ids e),(2,iv d),(7,iv ((e.take i).foldl (vM d) 0)),(8,iv i)],[]⟩) (λ_=>True) ?_ trivial ?_ ?_;rfl;intro i f _;have j:=fQ i o_;have k:(e.map Id.A)[i]?=some [.v (.int .i64 e[i].a),.v (.int .i64 e[i].b),.v (.int .u64 e[i].c)]:=aO _ e i f;rw[GO _ _ e i f];generalize(e.take i).foldl (vM d) 0=n at *
 generalize e[i]=x at *
 simp only[go_sem,aP,aT f,k];refine aL (λh=>?_) (λh=>?_)<;>simp only[beq_iff_eq,beq_eq_false_iff_ne,ne_eq]at h;simp only[go_sem,k,j,vM,h,gt_iff_lt];simp only[go_sem,j,vM,h];intro _;rw[dE];have p:=XH d e 0;have h2:=XI d 9223372036854775806 e 0 o_ m;have l:IntKind.i64.wrap (e.foldl (vM d) 0+1)=Sx e d:=aJ o_ o_;simp only[go_sem,aP,aS (bP _),l]
def aDT(g:GM)(a:O6)(c:g.ok)(l:a.length<=100000):aA PQ G DP [.ag g.A,ids a] [] λr T=>r=iv (Fe g a)/\T=[]:=by
 apply aC PY;have k:=c.n;simp only[go_sem];refine aQ a.length (λi=>⟨0,[(1,ids a),(2,.ptr 0 0),(5,iv ((a.take i).foldl (vN g) 0)),(6,iv i)],[some (.box g.A)]⟩) (λ_=>True) ?_ trivial ?_ ?_;rfl;intro i b _;have d:=fQ i o_;have j:(a.map Id.A)[i]?=some a[i].A:=aO _ a i b;rw[GO _ _ a i b];generalize(a.take i).foldl (vN g) 0=n at *
 generalize a[i]=x at *
 simp only[go_sem,aP,aT b,j];apply cX (Dt g x c);have f:=AZ g.I x;simp only[go_sem,ge_iff_le];refine aL (λh=>?_) (λh=>?_)<;>simp only[decide_eq_true_eq,decide_eq_false_iff_not]at h;have e:(aW g.I x).toNat<g.L.length:=by have:=c.i;omega
 have cE:(g.L.map OpM.A)[(aW g.I x).toNat]?=some (g.L.getD (aW g.I x).toNat default).A:=e_;simp only[go_sem,h,cE,d,vN,gt_iff_lt];simp only[go_sem,d,vN,h];intro _;rw[dE];simp only[go_sem,aP,aS (bP _),Fe]
def CardM.K(c:CardM):O5:=[.int .i64 c.Device,.int .i64 c.Member,.int .u64 c.Lead,.int .u64 c.Keep,.int .u64 c.Sign]
def aIf(x y:CardM):Int:=x.Device-y.Device
def uE(l:List CardM):List CardM:=l.mergeSort λx y=>decide (x.Device<=y.Device)
structure cardsOk(l:List CardM):Prop where
 n:l.length<=1000
 ne:l≠[]
 cs:∀c∈l,c.ok
 dv:∀c∈l,0<=c.Device/\c.Device<=1000
 un:∀c∈l,∀d∈l,c.Device=d.Device->c=d
def BI{l:List CardM}{c:CardM}:c∈uE l↔c∈l:=(H4 l _).mem_iff
def XJ(l:List CardM):(uE l).length=l.length:=(H4 l _).length_eq
def VA{l:List CardM}(h:∀c∈l,∀d∈l,c.Device=d.Device->c=d)(x:Int)(c:CardM):l.find? (λc=>c.Device==x)=some c↔(c∈l/\c.Device=x):=by
 constructor;grind;rintro⟨a,b⟩
 cases e:l.find? (λc=>c.Device==x) with
 |none=>exact absurd (Eb.1 e c a) dS|some d=>
  grind
def XK{l:List CardM}(h:cardsOk l)(d:Int):gM (uE l) d=gM l d:=by
 have:(uE l).find? (λc=>c.Device==d)=l.find? (λc=>c.Device==d):=by
  cases e:l.find? (λc=>c.Device==d) with
  |none=>
   rw[Eb]at e⊢;intro c a;exact e c (BI.1 a)
  |some c=>
   rw[VA h.un]at e;rw[VA (λc a d b=>h.un c (BI.1 a) d (BI.1 b))];exact⟨BI.2 e.1,e.2⟩
 grind[gM]
def aFU(x y:CardM)(b:0<=x.Device/\x.Device<=1000)(a:0<=y.Device/\y.Device<=1000):aA PQ G tG [.ag x.A,.ag y.A] [] λr T=>r=iv (aIf x y)/\T=[]:=by refine aC Jv ?_;have w:IntKind.i64.wrap (x.Device-y.Device)=x.Device-y.Device:=aJ o_ o_;simp only[go_sem,CardM.A_def,w,aIf]
def aFV(l:List CardM)(e:cardsOk l):aA PQ G kK [.own 0,.cl tG []] [some (.arr 5 (l.map CardM.A))] λr T=>r=.tup []/\T=[some (.arr 5 ((uE l).map CardM.A))]:=by
 let α:={c:CardM // c∈l}
 have:Inhabited α:=⟨⟨l.head e.ne,List.head_mem e.ne⟩⟩
 let cf:α->α->Int:=λx y=>aIf x.1 y.1;have d:∀x y:α,Go.Proofs.ltOf cf x y=decide (x.1.Device<y.1.Device):=by intro x y;unfold Go.Proofs.ltOf;show decide (x.1.Device-y.1.Device<0)=_;simp_all;omega
 have f:=SW (α:=α) (k:=5) (enc:=λc=>c.1.K) Go.Proofs.Tryz.laysSortC Go.Proofs.Tryz.isAgg107 Go.Proofs.Tryz.sizeOf107 (λ_=>rfl) (λx v i=>by simp[CardM.K]at i;rcases i with rfl|rfl|rfl|rfl|rfl<;>rfl)
  (λx c j=>by simp[cellsOf,CardM.K]at j;rcases j with rfl|rfl|rfl|rfl|rfl<;>rfl) (cf:=cf)
  ⟨λx=>by rw[d];simp,λx y z h h2=>by rw[d]at *;simp at *;omega,λx y z h h2=>by rw[d]at *;simp at *;omega⟩
  (λx y h h2=>by rw[d]at *;simp at h h2;exact Subtype.ext (e.un _ x.2 _ y.2 o_)) (g:=tG) (Go.Proofs.enters_of Go.Proofs.Tryz.func133 r_ rfl) (Go.Proofs.enters_of Go.Proofs.Tryz.func132 r_ rfl) (G:=G) (λx y=>aFU x.1 y.1 (e.dv _ x.2) (e.dv _ y.2)) l.attach (by rw[List.length_attach];have:=e.n;omega)
 have p:l.attach.map (cellsOf λc:α=>c.1.K)=l.map CardM.A:=by rw[show(cellsOf λc:α=>c.1.K)=CardM.A∘Subtype.val from rfl,<-rI,X4]
 have o:(l.attach.mergeSort λx y=>!(Go.Proofs.ltOf cf y x)).map (cellsOf λc:α=>c.1.K)=(uE l).map CardM.A:=by
  rw[show(cellsOf λc:α=>c.1.K)=CardM.A∘Subtype.val from rfl,<-rI];congr 1;have m:(λx y:α=>!(Go.Proofs.ltOf cf y x))=λx y:α=>decide (x.1.Device<=y.1.Device):=m_;rw[m,List.map_mergeSort (s:=λx y:CardM=>decide (x.Device<=y.Device)) (λa _ b _=>rfl),X4];rfl
 rw[p,o]at f;exact f
def aIg(l:List CardM)(a:cardsOk l):aA PQ G Bi [.ls 5 (l.map CardM.A)] [] λr T=>r=.ptr 0 0/\T=[some (.box [.own 1,.mp 2,.v (.slice none 0 0)]),some (.arr 5 ((uE l).map CardM.A)),some (MG [])]:=by refine aC Ny ?_;have b:=a.n;simp only[go_sem];apply aBF (rE (l.map CardM.A) X_);simp only[go_sem];apply aG (T2:=[some (.arr 5 (l.map CardM.A))]) [0] (aB _) s_ k_ rfl a_ (aFV l a);rintro r c ⟨rfl,rfl⟩;simp only[go_sem,MG,uP,Mk,gQ]
def aKl(l:List CardM)(a:cardsOk l):aA PQ G Bi [.ls 5 (l.map CardM.A)] [] λr T=>r=.ptr 0 0/\T=[some (.box [.ls 5 ((uE l).map CardM.A),.mp 1,.v (.slice none 0 0)]),some (MG [])]:=by refine(aIg l a).fin [1] ?_;rintro r b ⟨rfl,rfl⟩;simp only[go_sem,MG,uP,Mk]
def aFW {g:PGM} (d:g.ok) (l:O6):0<=Fa g l/\Fa g l<=g.nodes.length+1:=by
 have a:∀(l:O6)(m:Int),0<=m->m<=g.nodes.length+1->0<=l.foldl (λm x=>max m ((g.nd x).lv+1)) m/\l.foldl (λm x=>max m ((g.nd x).lv+1)) m<=g.nodes.length+1:=by
  intro l
  induction l with
  |nil=>exact λm c b=>⟨c,b⟩| cons x l ih=>
   intro m c b;have e:0<=(g.nd x).lv/\(g.nd x).lv<=g.nodes.length:=by unfold PGM.nd;rw[rH];rcases eD (g.at x) g.nodes.length with h|h;rw[jN h];exact d.lv _ (eQ h);grind[XD]
   grind
 exact a l 1 o_ o_
def aDU{g:PGM}(a:g.ok)(o:OpM):Hu (BF g o):=aRL (JC a _) (JB _ _)
def XL(g:PGM)(o:OpM):(sR g o).1=g\/(sR g o).1=⟨g.cards,g.nodes++[⟨o,C7 o,BF g o,Fa g o.Past⟩]⟩/\g.nodes.length<200:=by grind[sR,Oa,Q8]
def aFX{g:PGM}{o:OpM}(a:g.ok)(d:o.ok)(c:(C7 o).ok):(sR g o).1.ok:=by rcases XL g o with h|⟨h,f⟩<;>rw[h];exact a;have e:=aFW a o.Past;refine⟨f_,a.cn,a.cs,?_,?_,?_,?_⟩<;>intro x b<;>simp only[cG,aE5]at b<;>rcases b with b|rfl;exact a.ops x b;exact d;exact a.ids x b;exact c;exact a.ws x b;exact aDU a o;have:=a.lv x b;simp_all;omega;simp_all
def AM(cs:List CardM)(l:List OpM):PGM:=l.foldl (λp o=>(sR p o).1) ⟨uE cs,[]⟩
theorem MS(cs:List CardM)(l:List OpM)(o:OpM):AM cs (l++[o])=(sR (AM cs l) o).1:=by simp[AM]
def XM{cs:List CardM}(d:cardsOk cs):∀(l:List OpM),(∀o∈l,o.ok/\(C7 o).ok)->(AM cs l).ok:=by
 have f:(⟨uE cs,[]⟩:PGM).ok:=⟨k_,by show(uE cs).length<=1000;rw[XJ];exact d.n,λc h=>d.cs c (BI.1 h),k_,k_,k_,k_⟩
 have b:∀(l:List OpM)(p:PGM),p.ok->(∀o∈l,o.ok/\(C7 o).ok)->(l.foldl (λp o=>(sR p o).1) p).ok:=by
  intro l
  induction l with
  |nil=>exact λp h _=>h|cons o l ih=>exact λp h a=>ih _ (aFX h (a o k_).1 (a o k_).2) (λx e=>a x (by simp[e]))
 exact λl a=>b l _ f a
inductive RU(Up:List (List Nat))(up:List Nat):Nat->Prop
 |base {k:Nat}:k∈up->RU Up up k|step {j k:Nat}:RU Up up j->k∈Up.getD j []->RU Up up k
theorem RU.tail{c:List O3}{a:O3}{k:Nat}:RU c a k↔k∈a\/∃j,RU c a j/\k∈c.getD j []:=by
 constructor;intro h
 cases h with
 |base h=>exact .inl h|step b h2=>exact .inr ⟨_,b,h2⟩
 rintro(h|⟨j,b,h2⟩);exact .base h;exact .step b h2
def RU.head{c:List O3}{a:O3}{k:Nat}:RU c a k↔k∈a\/∃i∈a,RU c (c.getD i []) k:=by
 constructor;intro h
 induction h with
 |base h=>exact .inl h|step d h2 ih=>
  rcases ih with ih|⟨i,b,ih⟩
  exact .inr ⟨_,ih,.base h2⟩;exact .inr ⟨i,b,.step ih h2⟩
 rintro(h|⟨i,b,h⟩);exact .base h
 induction h with
 |base h=>exact .step (.base b) h|step d h2 ih=>exact .step ih h2
def RU.lt{b:List O3}{a:O3}{n:Nat}(c:∀k∈a,k<n)(d:∀i,∀k∈b.getD i [],k<i){k:Nat}(h:RU b a k):k<n:=by
 induction h with
 |base h=>exact c _ h|step e h2 ih=>have:=d _ _ h2;omega
def aB1(u:O3)(a:List Bool)(h:∀k∈u,k<a.length)(k:Nat):(u.foldl (λb k=>b.set k true) a).getD k false=(decide (k∈u)||a.getD k false):=by
 induction u generalizing a with
 |nil=>simp|cons x u ih=>
  grind
def XN(d:List O3)(c:O3)(a:List Bool)(i:Nat)(l:i<a.length)(j:∀k∈d.getD i [],k<i)(k:Nat):
 ((OG d c a i).getD k false=true)↔(a.getD k false=true\/(k=i/\i∈c)\/((a.getD i false=true\/i∈c)/\k∈d.getD i [])):=by
 have e:∀k,((if decide (i∈c) then a.set i true else a).getD k false=true)↔(a.getD k false=true\/(k=i/\i∈c)):=m_;have f:(if decide (i∈c) then a.set i true else a).length=a.length:=by split<;>simp
 unfold OG;generalize(if decide (i∈c) then a.set i true else a)=b at *
 by_cases h:b.getD i false=true;rw[if_pos h,aB1 _ _ (λk g=>by rw[f];have:=j k g;omega),Ec,e,decide_eq_true_eq];grind;grind
def Oj (c:List O3) (b:O3) (n:Nat) (o:∀k∈b,k<n) (l:∀i,∀k∈c.getD i [],k<i):∀(i:Nat)(a:List Bool),a.length=n->i<=n ->
 (∀k,i<=k->((a.getD k false=true)↔RU c b k))->(∀k,k<i->((a.getD k false=true)↔∃j,i<=j/\RU c b j/\k∈c.getD j []))->∀k,((Kx c b i a).getD k false=true)↔RU c b k
 |0,a,_,_,m,_=>λk=>m k o_| i+1,a,q,s,m,h2=>by
  have p:=XN c b a i o_ (l i);have g:(a.getD i false=true\/i∈b)↔RU c b i:=by grind[RU.tail]
  refine Oj c b n o l i (OG c b a i) (by rw[Q1];exact q) o_ ?_ ?_;grind;intro k r;rw[p,h2 k o_,g];constructor;rintro(⟨j,d,f,e⟩|d|d);exact⟨j,o_,f,e⟩;omega;exact⟨i,cN _,d.1,d.2⟩;rintro⟨j,d,f,e⟩;rcases eD i j with h|h;exact .inl ⟨j,h,f,e⟩;obtain rfl:j=i:=o_;exact .inr (.inr ⟨f,e⟩)
def Ok(g:GM)(a:O3)(b:∀k∈a,k<g.L.length)(c:∀i,∀k∈g.Up.getD i [],k<i)(k:Nat):((oL g a).getD k false=true)↔RU g.Up a k:=by refine Oj g.Up a g.L.length b c _ _ k_ (cN _) ?_ ?_ k;intro k d;constructor;intro h;rw[rH,sX f_]at h;exact absurd h s_;intro h;have:=h.lt b c;omega;intro k d;constructor;intro h;rw[rH,List.getElem?_replicate,if_pos d]at h;exact absurd h s_;rintro⟨j,e,h2,_⟩;have:=h2.lt b c;omega
def RU.more{a:List O3}{u b:O3}{k:Nat}(c:∀k∈b,k<a.length)(e:∀i,∀k∈a.getD i [],k<i):RU (a++[u]) b k↔RU a b k:=by
 have d:∀j,j<a.length->(a++[u]).getD j []=a.getD j []:=λj g=>m_;constructor;intro h
 induction h with
 |base h=>exact .base h|step f h2 ih=>exact .step ih (by rwa[d _ (ih.lt c e)]at h2)
 intro h
 induction h with
 |base h=>exact .base h|step f h2 ih=>exact .step ih (by rwa[d _ (f.lt c e)])
def aDV(W V:O3)(h:W.length=V.length)(i:Nat):(Kz W V).getD i 0=W.getD i 0 ||| V.getD i 0:=by grind[Kz]
def aB2(W V:O3)(h:W.length=V.length)(i:Nat):(Cu W V).getD i 0=W.getD i 0 &&& V.getD i 0:=by grind[Cu]
def ZM{W V:O3}(a:Hu W)(b:Hu V)(k:Nat):qK (Kz W V) k=(qK W k||qK V k):=by unfold qK;rw[aDV W V (by rw[a.1,b.1]),YP]
def ZN(k:Nat):qK z4 k=false:=by grind[qK,z4]
def aDW{W:O3}(a:Hu W)(n k:Nat)(b:n<256):qK (Py W n) k=(decide (k=n)||qK W k):=by
 unfold qK Py;have c:n/64<W.length:=by rw[a.1];omega
 grind
def aB3{W V:O3}(c:Hu W)(f:Hu V)(h:∀k,k<256->qK W k=true->qK V k=false):Cu W V=z4:=by
 have j:=U3 c f;refine Ki (by rw[j];rfl) λi l _=>?_;have a:i<4:=o_;have g:z4[i]'(by simpa[z4]using a)=0:=by grind[z4]
 rw[g];have e:=aB2 W V (by rw[c.1,f.1]) i;rw[rH,jN l,Mi]at e;rw[e];refine Nat.eq_of_testBit_eq λb=>?_;rw[Nat.testBit_and,aBK];rcases eD b 64 with d|d;have m:(64*i+b)/64=i:=o_;have h2:(64*i+b)%64=b:=o_;have:=h (64*i+b) o_;grind[qK];rw[Nat.testBit_lt_two_pow (CV (AJ c i) (show 18446744073709551616<=2^b from Gl (n:=2) (i:=64) o_ d))];rfl
def aDX(g:PGM)(f:g.nodes.length<=200)(l:O6)(e:∀x∈l,g.at x<256)(k:Nat):(qK (Hg g l) k=true)↔∃x∈l,g.at x=k:=by
 have a:∀(l:O6)(W:O3),Hu W->(∀x∈l,g.at x<256)->((qK (l.foldl (λW x=>Py W (g.at x)) W) k=true)↔(qK W k=true\/∃x∈l,g.at x=k)):=by
  intro l
  induction l with
  |nil=>intro W _ _;simp|cons x l ih=>
   intro W c b;rw[CW,ih _ (ZG c _) (λy d=>b y (by simp[d])),aDW c _ _ (b x k_),Ec,decide_eq_true_eq];grind
 unfold Hg;rw[a l z4 Ob e,ZN];simp
def aDY{g:PGM}(b:g.ok)(l:O6)(k:Nat):(qK (Hh g l) k=true)↔∃x∈l,qK (g.nd x).W k=true:=by
 have a:∀(l:O6)(W:O3),Hu W->((qK (l.foldl (λW x=>Kz W (g.nd x).W) W) k=true)↔(qK W k=true\/∃x∈l,qK (g.nd x).W k=true)):=by
  intro l
  induction l with
  |nil=>intro W _;simp|cons x l ih=>
   intro W c;rw[CW,ih _ (aRL c (Q9 b x)),ZM c (Q9 b x),Ec];grind
 unfold Hh;rw[a l z4 Ob,ZN];simp
def aDZ(g:PGM)(x:Id):g.at x=(aW g.I x).toNat:=by grind[PGM.at,aW,qX]
def Cz(I:O6)(x:Id):0<=aW I x↔x∈I:=by have:=mN (λy=>decide (y=x)) I;grind[aW]
def aFY(g:PGM)(a:Int)(l:O6)(h0:0<=a)(h:∀x∈l,(g.nd x).o.At<=a):G0 g l<=a:=by
 have b:∀(l:O6)(m:Int),m<=a->(∀x∈l,(g.nd x).o.At<=a)->l.foldl (λm x=>max m (g.nd x).o.At) m<=a:=by
  intro l
  induction l with
  |nil=>exact λm h _=>h|cons x l ih=>
   grind
 exact b l 0 h0 h
def yW(g:GM)(o:OpM):O3:=o.Past.map λx=>(aW g.I x).toNat
structure Acc(g:GM)(o:OpM):Prop where
 check:jB o=0
 twice:¬0<=aW g.I (C7 o)
 full:g.L.length<200
 card:(gM g.Cards o.By).2=true
 sig:BW (gM g.Cards o.By).1.Sign o.B o.SR o.SS=true
 kind:((o.Kind==1)&&decide (0<g.L.length))=false
 there:∀x∈o.Past,0<=aW g.I x
 up:(dV g o).2=yW g o
 order:J0 g o (yW g o)=true
 right:FT g.L o (oL g (yW g o))=true
def Ff{g:GM}{o:OpM}(h:(dV g o).1=0):Acc g o:=by
 have p:=h;unfold dV at h;split at h;omega;rename_i b;simp only[ne_eq,Decidable.not_not]at b;have n:dV g o=Du g o:=by grind[dV]
 unfold Du at h;split at h;simp at h;rename_i j;split at h;simp at h;rename_i h2;split at h;simp at h;rename_i i;split at h;simp at h;rename_i f;split at h;simp at h;rename_i e;have m:Du g o=BA g o:=by rw[Du,if_neg j,if_neg h2,if_neg i,if_neg f,if_neg e]
 unfold BA at h;by_cases a:(o.Past.all λx=>decide (0<=aW g.I x))=true;rotate_left;have:Pu g.I o.Past=none:=by rw[Pu,if_neg a]
 rw[this]at h;simp at h;have k:Pu g.I o.Past=some (yW g o):=by rw[Pu,if_pos a];rfl
 have l:BA g o=CN g o (yW g o):=by rw[BA,k]
 rw[k]at h;simp only at h;unfold CN at h;split at h;simp at h;rename_i d;split at h;simp at h;rename_i c;exact⟨b,j,o_,by simpa using i,de,E_,oe,by rw[n,m,l,CN,if_neg d,if_neg c],d8,oW⟩
def yE{g:GM}{o:OpM}(a:Acc g o)(h:(dV g o).1=0):(aMC g o).1=⟨g.Cards,g.L++[o],g.I++[C7 o],g.Up++[yW g o],(g.In.map λr=>r++[false])++[oL g (yW g o)++[false]]⟩:=by rw[aMC,if_neg (by simp[h]),a.up]
structure GM.wf(g:GM):Prop where
 un:g.Up.length=g.L.length
 inn:g.In.length=g.L.length
 i:g.I.length=g.L.length
 up:∀i,∀k∈g.Up.getD i [],k<i
 past:∀i,i<g.L.length->∀k,((g.In.getD i []).getD k false=true)↔RU g.Up (g.Up.getD i []) k
def aIh(cs:List CardM):(⟨cs,[],[],[],[]⟩:GM).wf:=⟨rfl,rfl,rfl,k_,k_⟩
def aE0{g:GM}{o:OpM}(w:g.wf)(a:Acc g o):∀k∈yW g o,k<g.L.length:=by intro k c;obtain⟨x,b,rfl⟩:=dF.1 c;have d:=AZ g.I x;have h2:=a.there x b;have:=w.i;omega
def RC(l:List Bool)(k:Nat):(l++[false]).getD k false=l.getD k false:=m_
def Ol{α:Type}(l:List α)(x d:α)(k:Nat)(h:k<l.length):(l++[x]).getD k d=l.getD k d:=m_
def D2{α:Type}(l:List α)(x d:α):(l++[x]).getD l.length d=x:=k_
def XO{α:Type}(l:List α)(x d:α)(k:Nat)(h:l.length<k):(l++[x]).getD k d=d:=m_
def aE1{g:GM}(w:g.wf)(p:List Bool)(i:Nat)(h:i<g.L.length)(k:Nat):((((g.In.map λr=>r++[false])++[p]).getD i []).getD k false)=(g.In.getD i []).getD k false:=by
 have a:i<g.In.length:=by rw[w.inn];exact h
 grind
def aIi {g:GM} {o:OpM} (w:g.wf) (h:(dV g o).1=0):(aMC g o).1.wf:=by
 have a:=Ff h;have d:=aE0 w a;rw[yE a h];have j:∀i,i<g.L.length->(g.Up++[yW g o]).getD i []=g.Up.getD i []:=λi e=>Ol _ _ _ _ (by rw[w.un];exact e);have f:(g.Up++[yW g o]).getD g.L.length []=yW g o:=by rw[<-w.un];exact D2 _ _ _
 refine⟨by simp[w.un],by simp[w.inn],by simp[w.i],?_,?_⟩;intro i k c;rcases aGJ i g.L.length with b|b|b;rw[j i b]at c;exact w.up i k c;rw[b,f]at c;rw[b];exact d k c;rw[XO _ _ _ _ (by rw[w.un];exact b)]at c;simp at c;intro i e k;simp only[dZ,GT]at e;rcases eD i g.L.length with b|b;rw[j i b,aE1 w _ i b k,RU.more (λk c=>by rw[w.un];have:=w.up i k c;omega) w.up];exact w.past i b k;obtain rfl:i=g.L.length:=o_;rw[f,RU.more (λk c=>by rw[w.un];exact d k c) w.up,<-Ok g _ d w.up];have:((g.In.map λr=>r++[false])++[oL g (yW g o)++[false]]).getD g.L.length []=oL g (yW g o)++[false]:=by
  have h2:g.L.length=(g.In.map λr=>r++[false]).length:=by simp[w.inn]
  rw[h2];exact D2 _ _ _
 rw[this,RC]
structure Sim(p:PGM)(g:GM):Prop where
 c:∀d,gM p.cards d=gM g.Cards d
 l:p.nodes.map (·.o)=g.L
 i:p.I=g.I
 w:∀i,i<g.L.length->∀k,k<256->qK (p.nodes.getD i XD).W k=(g.In.getD i []).getD k false
def aFZ{cs:List CardM}(a:cardsOk cs):Sim ⟨uE cs,[]⟩ ⟨cs,[],[],[],[]⟩:=⟨λd=>XK a d,rfl,rfl,k_⟩
end Hud
