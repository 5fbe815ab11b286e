import Derived.Test.YtfbnbkidnmhhoaaGreatDoorLib15
set_option linter.all false
set_option maxHeartbeats 40000000
namespace Hud
open Go
variable{G:L_}
def aMC(g:GM)(o:OpM):GM×Int :=
 if(dV g o).1≠0 then(g,(dV g o).1)
 else(⟨g.Cards,g.L++[o],g.I++[C7 o],g.Up++[(dV g o).2],(g.In.map λr=>r++[false])++[oL g (dV g o).2++[false]]⟩,0)
def Ux(g:GM)(o:OpM):(dV g o).2=[]\/(dV g o).2=o.Past.map λx=>(aW g.I x).toNat:=by grind[dV,Du,BA,CN,Pu]
def Q3(g:GM)(o:OpM):(dV g o).2.length<=o.Past.length:=by rcases Ux g o with h|h<;>simp[h]
def aFH(g:GM)(o:OpM)(b:g.ok)(a:o.ok):aA PQ G Bk [.ag g.A,.ag o.A] [] λr T=>r=.tup [iv (dV g o).1,Sa (dV g o).2]/\T=[]:=by refine(aDs g o b a).fin [0] ?_;rintro r c ⟨rfl,rfl⟩;simp only[go_sem,gQ]
def aI9(g:GM)(o:OpM)(a:g.ok)(k:o.ok):aA PQ G aPa [.ag g.A,.ag o.A] [] λr T=>(r=.tup [.ag g.A,iv (aMC g o).2]/\T=[]/\aMC g o=(g,(aMC g o).2)) \/
 (r=.tup [.ag [.ls 5 (g.Cards.map CardM.A),.own 0,.own 1,.own 2,.own 3],iv 0]/\T=[some (.arr 27 ((aMC g o).1.L.map OpM.A)),some (.arr 3 ((aMC g o).1.I.map Id.A)),some (.arr 1 ((aMC g o).1.Up.map λl=>[Sa l])),some (.arr 1 ((aMC g o).1.In.map λl=>[wI l]))]/\(aMC g o).1.Cards=g.Cards/\(aMC g o).2=0):=by
 apply aC SA;have H:=a.n;have D:=Q3 g o;have E:=k.past.1;simp only[go_sem];apply cX (aFH g o a k);simp only[go_sem];refine aL (λh=>?_) (λh=>?_)<;>simp only[bne_iff_ne,ne_eq,bne_eq_false_iff_eq]at h;have w:aMC g o=(g,(dV g o).1):=by rw[aMC,if_pos h]
 simp only[go_sem];simp_all;have w:aMC g o=(⟨g.Cards,g.L++[o],g.I++[C7 o],g.Up++[(dV g o).2],(g.In.map λr=>r++[false])++[oL g (dV g o).2++[false]]⟩,0):=by grind[aMC]
 rw[w];generalize(dV g o).2=d at *
 simp only[go_sem];apply aBF (W5 g d a o_);have b:=Cs g d;generalize oL g d=p at *
 have C:g.L.length*328<=140737488355328:=o_;have f:g.L.length<=maxLen:=g_;have B:(g.L.length+1)*328<=140737488355328:=uR (aOo 328 (o_:g.L.length+1<=1001)) s_;have e:g.L.length+1<=maxLen:=g_;have u:g.L.length*24<=140737488355328:=o_;have t:(g.L.length+1)*24<=140737488355328:=o_;have s:(g.L.length+1)*1<=140737488355328:=o_;have z:g.L.length*1<=140737488355328:=o_;simp only[go_sem,aP,a.i,C,f,B,e,u];apply and_self_iff.2;apply cX (Ut o k);simp only[go_sem,aP,a.i,a.un,f,e,u,t];refine aQ g.In.length (λi=>⟨0,[(2,.ptr 0 0),(4,.ptr 1 0),(8,.own 2),(9,.ptr 3 0),(10,iv i)],[some (.box g.A),some (.box [.v (.slice none 0 0),.v (.slice none 0 0),.v (.slice none 0 0),.v (.slice none 0 0),.v (.slice none 0 0)]),some (.arr 1 (VR p)),some (.box [.ls 5 (g.Cards.map CardM.A),.own 4,.own 5,.own 6,.own 7]),some (.arr 27 (g.L.map OpM.A++[o.A])),some (.arr 3 (g.I.map Id.A++[(C7 o).A])),some (.arr 1 ((g.Up.map λl=>[Sa l])++[[Sa d]])),some (.arr 1 ((g.In.take i).map λr=>[wI (r++[false])]))]⟩) (λ_=>True) ?_ trivial ?_ ?_;simp only[go_sem];intro i q _;have F:(g.In.map λl=>[wI l])[i]?=some [wI g.In[i]]:=aO _ g.In i q;have j:=a.ins _ (eQ q);have x:=pC (show i<(2^63-1) by have:=a.inn;omega);have m:i<g.L.length:=by have:=a.inn;omega
 have c:min i g.L.length=i:=o_;rw[lq8 q,bZ];generalize g.In[i]=y at *
 simp only[go_sem,aP,eC,c,aT m,a.inn,F,j,x,f,e,s,z,pQ,(o_:(i+1)*24<=140737488355328),(g_:i+1<=maxLen)];simp;intro _;rw[dE];simp only[go_sem,aP,a.inn,aS (bP _),b,e,t,s];simp
def So(g:GM)(o:OpM)(b:g.ok)(a:o.ok):aA PQ G aPa [.ag g.A,.ag o.A] [] λr T=>r=.tup [.ag (aMC g o).1.A,iv (aMC g o).2]/\T=[]:=by refine(aI9 g o b a).fin [0,1,2,3] ?_;rintro r d (⟨rfl,rfl,h⟩|⟨rfl,rfl,c,h2⟩);simp only[go_sem,gQ,List.getElem?_nil];rw[h];simp only[go_sem,gQ,GM.A_def,c,h2]
def aFI {g:GM} {o:OpM} (a:g.ok) (l:o.ok) (p:g.L.length<1000) (m:(C7 o).ok):(aMC g o).1.ok:=by unfold aMC;split;exact a;refine⟨f_,a.cn,a.cs,?_,by simp[a.i],?_,by simp[a.un],?_,by simp[a.inn],?_⟩;intro x c;rcases cG.1 c with h|h;exact a.ops x h;simp_all;intro x c;rcases cG.1 c with h|h;exact a.is x h;simp_all;intro u f;simp only[dZ,sE,gQ];rcases cG.1 f with h|h;exact⟨(a.up u h).1,λk b=>by have:=(a.up u h).2 k b;omega⟩;rw[aE5.1 h];refine⟨uR (Q3 g o) l.past.1,λk b=>?_⟩;rcases Ux g o with e|e;simp_all;rw[e]at b;obtain⟨x,_,rfl⟩:=dF.1 b;have:=AZ g.I x;have:=a.i;omega;intro r j;simp only[dZ,sE,gQ];rcases cG.1 j with h|h;obtain⟨d,n,rfl⟩:=dF.1 h;simp[a.ins d n];grind[Cs]
def W6{o:OpM}(a:o.ok):(C7 o).ok:=by refine⟨a.ints o.By k_,a.ints o.Seq k_,?_,?_⟩;grind[C7];simp only[C7];have:=Cr (Uj lOp o.B);omega
abbrev oC(W:List Nat):List AV:=W.map λw=>uv w
def Kz(W V:O3):O3:=List.zipWith (λa b=>a ||| b) W V
def Py(W:O3)(n:Nat):O3:=W.set (n/64) (W.getD (n/64) 0 ||| 2^(n%64))
def qK(W:O3)(n:Nat):Bool:=(W.getD (n/64) 0).testBit (n%64)
def Hu(W:O3):Prop:=W.length=4/\∀w∈W,w<2^64
def Uy(a b:Nat)(d:a<2^64)(c:b<2^64):bV .or (.int .u64 (a:Int)) (.int .u64 (b:Int))=some (.int .u64 ((a ||| b:Nat):Int)):=by
 have f:a ||| b<2^64:=TX (n:=64) d c;have e:(BitVec.ofInt IntKind.u64.bits (a:Int) ||| BitVec.ofInt IntKind.u64.bits (b:Int)).toNat=a ||| b:=by
  have h:(BitVec.ofInt 64 (a:Int)).toNat=a:=e_;have g:(BitVec.ofInt 64 (b:Int)).toNat=b:=e_;show(BitVec.ofInt 64 (a:Int) ||| BitVec.ofInt 64 (b:Int)).toNat=a ||| b;grind
 simp only[bV,if_true,e];rw[bS _ o_]
def J5(a b:Nat)(f:a<2^64)(e:b<2^64):bV .and (.int .u64 (a:Int)) (.int .u64 (b:Int))=some (.int .u64 ((a &&& b:Nat):Int)):=by
 have d:a &&& b<=a:=aBW;have c:(BitVec.ofInt IntKind.u64.bits (a:Int) &&& BitVec.ofInt IntKind.u64.bits (b:Int)).toNat=a &&& b:=by
  have h:(BitVec.ofInt 64 (a:Int)).toNat=a:=e_;have g:(BitVec.ofInt 64 (b:Int)).toNat=b:=e_;show(BitVec.ofInt 64 (a:Int) &&& BitVec.ofInt 64 (b:Int)).toNat=a &&& b;grind
 simp only[bV,if_true,c];rw[bS _ o_]
def J6(x m:Nat)(h:m≠0)(d:x<=2^63-1):bV .quo (.int .i64 (x:Int)) (.int .i64 (m:Int))=some (.int .i64 ((x/m:Nat):Int)):=by
 have c:¬((m:Int)=0):=o_;have e:(x:Int).tdiv (m:Int)=((x/m:Nat):Int):=rfl;have:x/m<=x:=Ml x m;have b:((x/m:Nat):Int)<=(2^63-1):=o_;have a:(-9223372036854775808:Int)<=((x/m:Nat):Int):=m_;simp only[bV,if_true,c,if_false,e];rw[aJ a b]
def J7(x m:Nat)(h:m≠0):bV .rem (.int .i64 (x:Int)) (.int .i64 (m:Int))=some (.int .i64 ((x%m:Nat):Int)):=by grind[bV]
def W7(k:Nat)(h:k<64):bV .shl (.int .u64 1) (.int .i64 (k:Int))=some (.int .u64 ((2^k:Nat):Int)):=by
 have b:¬((k:Int)<0):=o_;have a:min k 64=k:=o_;have h2:(2:Nat)^k<2^64:=CV (aBN s_ h) s_;have e:(1:Int)*2^(min (k:Int).toNat IntKind.u64.bits)=((2^k:Nat):Int):=by rw[nI,show IntKind.u64.bits=64 from rfl,a,Int.one_mul];exact(Int.natCast_pow 2 k).symm
 simp only[bV,b,if_false,e];rw[bS _ o_]
def Q4(x k:Nat)(h:k<64)(b:x<2^64):bV .shr (.int .u64 (x:Int)) (.int .i64 (k:Int))=some (.int .u64 ((x/2^k:Nat):Int)):=by
 have c:¬((k:Int)<0):=o_;have a:min k 64=k:=o_;have e:(x:Int).fdiv (2^(min (k:Int).toNat IntKind.u64.bits))=((x/2^k:Nat):Int):=by rw[nI,show IntKind.u64.bits=64 from rfl,a,show((2:Int)^k)=((2^k:Nat):Int) from(Int.natCast_pow 2 k).symm,Int.fdiv_eq_ediv_of_nonneg _ (Int.natCast_nonneg _)];rfl
 grind[bV]
def aDt(W V:O3)(c:V.length=W.length)(i:Nat)(h:i<W.length):(Kz W V).take (i+1)++W.drop (i+1)=((Kz W V).take i++W.drop i).set i (W.getD i 0 ||| V.getD i 0):=by
 have b:(Kz W V).length=W.length:=by grind[Kz,List.length_zipWith]
 have a:((Kz W V).take i).length=i:=c_;have e:(Kz W V)[i]'o_=W.getD i 0 ||| V.getD i 0:=by grind[Kz]
 rw[lq8 o_,lq2,e,Kc h,aBL _ _ o_,a,YN];rfl
def aRL{W V:O3}(b:Hu W)(c:Hu V):Hu (Kz W V):=by refine⟨by unfold Kz;rw[aGC,b.1,c.1];rfl,λw a=>?_⟩;unfold Kz at a;obtain⟨i,d,rfl⟩:=CU a;rw[aJg];exact TX (n:=64) (b.2 _ (eQ _)) (c.2 _ (eQ _))
def AJ{W:O3}(a:Hu W)(i:Nat):W.getD i 0<2^64:=by rw[rH];rcases eD i W.length with h|h;rw[jN h];exact a.2 _ (eQ h);simp_all
def ZG{W:O3}(a:Hu W)(n:Nat):Hu (Py W n):=by refine⟨by unfold Py;rw[cL,a.1],λw b=>?_⟩;unfold Py at b;rcases aGK b with h|h;exact a.2 w h;rw[h];exact TX (n:=64) (AJ a _) (aBN s_ (zM _ s_))
def K0(x k:Nat):((((x/2^k &&& 1:Nat):Int))==1)=x.testBit k:=m_
def Dw(W:O3)(i:Nat)(h:i<W.length):(oC W)[i]?=some (uv (W.getD i 0)):=e_
def aAP(W:O3)(n:Nat)(c:Hu W)(p:n<256):aA PQ G yN [.ptr 0 0,iv n] [some (.box (oC W))] λr T=>T=[some (.box (oC (Py W n)))]:=by
 apply aC HV;have g:bV .quo (.int .i64 (n:Int)) (.int .i64 64)=some (.int .i64 ((n/64:Nat):Int)):=J6 n 64 s_ o_;have f:bV .rem (.int .i64 (n:Int)) (.int .i64 64)=some (.int .i64 ((n%64:Nat):Int)):=J7 n 64 s_;have d:n%64<64:=zM _ s_;have l:n/64<4:=o_;have e:=W7 (n%64) d;have h2:(2:Nat)^(n%64)<2^64:=CV (aBN s_ d) s_;have j:=Uy (W.getD (n/64) 0) (2^(n%64)) (AJ c _) h2;have m:=Dw W (n/64) (by rw[c.1];exact l);have k:=c.1;have i:(0:Int)<=((n/64:Nat):Int):=o_;have h:((n/64:Nat):Int)<4:=o_;have o:(oC W).take (n/64)++[uv (W.getD (n/64) 0 ||| 2^(n%64))]++(oC W).drop (n/64+1)=oC (Py W n):=by show _=(W.set (n/64) (W.getD (n/64) 0 ||| 2^(n%64))).map λw=>uv w;grind[List.map_set,List.set_eq_take_append_cons_drop,List.append_assoc]
 generalize n/64=a at *
 generalize n%64=b at *
 simp only[go_sem,↓g,↓f,↓e,aP,k,i,h,(o_:a<=3),m,↓j,Bb,pQ,o]
def aFJ{α:Type}(a m post:List α)(i:Nat)(x:α)(h:i<m.length):(a++(m++post)).take (a.length+i)++[x]++(a++(m++post)).drop (a.length+i+1)=a++(m.set i x++post):=by rw[aGH,show a.length+i+1=a.length+(i+1) from rfl,X3,Rf o_,aGG o_,aGB,if_pos h];simp
def Sq{α:Type}(a m post:List α)(i:Nat)(h:i<m.length):(a++(m++post))[a.length+i]?=m[i]?:=m_
def K1(a post:O0)(p:Nat)(j:a.length=p)(W V:O3)(k:Hu W)(l:Hu V)(m:iZ a=[])(h2:iZ post=[]):aA PQ G nM [.ptr 0 p,.ag (oC V)] [some (.box (a++(oC W++post)))] λr T=>T=[some (.box (a++(oC (Kz W V)++post)))]:=by
 apply aC Gc;have z:=k.1;have u:=l.1;have f:(oC V).all gS=true:=by simp[oC,gS]
 have b:∀X:O3,iZ (oC X)=[]:=λX=>Qj _ X;have d:∀(L:O3)(X:O3),xF L (a++(oC X++post))=a++(oC X++post):=λL X=>yM (by simp only[Ig,m,h2,b,jO]);have c:∀X:O3,iZ (a++(oC X++post))=[]:=λX=>by simp only[Ig,m,h2,b,jO]
 have e:∀(L:O3),xF L (oC V)=oC V:=λL=>yM (b V);have v:(Kz W V).length=4:=by grind[Kz,List.length_zipWith]
 simp only[go_sem,f];refine aQ 4 (λi=>⟨1,[(0,.ptr 0 p),(3,.ptr 1 0),(5,iv i)],[some (.box (a++(oC ((Kz W V).take i++W.drop i)++post))),some (.box (oC V))]⟩) (λ_=>True) ?_ trivial ?_ ?_;simp only[go_sem,↓c,↓b,↓d,↓e,uQ];intro i A _;have q:=fQ i o_;have B:((Kz W V).take i++W.drop i).length=4:=c_;have x:((Kz W V).take i++W.drop i).getD i 0=W.getD i 0:=m_;rw[aDt W V o_ i o_];have s:=Uy (W.getD i 0) (V.getD i 0) (AJ k _) (AJ l _);have w:=Dw V i o_;generalize(Kz W V).take i++W.drop i=X at *
 have n:=Dw X i o_;rw[x]at n;have o:=Sq a (oC X) post i X_;rw[n,j]at o;have h:=aFJ a (oC X) post i (uv (W.getD i 0 ||| V.getD i 0)) X_;rw[j]at h;have y:(oC X).set i (uv (W.getD i 0 ||| V.getD i 0))=oC (X.set i (W.getD i 0 ||| V.getD i 0)):=k_;rw[y]at h;have C:decide ((i:Int)<4)=true:=decide_eq_true o_;have t:(i:Int)<4:=o_;have g:p+i+1<=a.length+(X.length+post.length):=o_;simp only[go_sem,t,Bb,pQ,o,w,↓s,g,h,q,↓c,↓b,↓d,↓e];intro _;rw[sG o_,LB o_,jO];simp only[go_sem,↓c,↓d]
def W8(W V:O3)(a:Hu W)(b:Hu V):aA PQ G nM [.ptr 0 0,.ag (oC V)] [some (.box (oC W))] λr T=>T=[some (.box (oC (Kz W V)))]:=by have:=K1 (G:=G) [] [] 0 rfl W V a b rfl rfl;simpa using this
def aAQ(c post:O0)(p:Nat)(w:c.length=p)(W:O3)(n:Nat)(g:Hu W)(z:n<256)(l:iZ c=[])(h2:iZ post=[]):aA PQ G pE [.ptr 0 p,iv n] [some (.box (c++(oC W++post)))] λr T=>r=.v (.bool (qK W n))/\T=[some (.box (c++(oC W++post)))]:=by
 apply aC Ar;have s:bV .quo (.int .i64 (n:Int)) (.int .i64 64)=some (.int .i64 ((n/64:Nat):Int)):=J6 n 64 s_ o_;have q:bV .rem (.int .i64 (n:Int)) (.int .i64 64)=some (.int .i64 ((n%64:Nat):Int)):=J7 n 64 s_;have x:n%64<64:=zM _ s_;have k:n/64<4:=o_;have i:=AJ g (n/64);have o:=Q4 (W.getD (n/64) 0) (n%64) x i;have y:bV .and (.int .u64 ((W.getD (n/64) 0/2^(n%64):Nat):Int)) (.int .u64 1)=some (.int .u64 ((W.getD (n/64) 0/2^(n%64) &&& 1:Nat):Int)):=J5 _ 1 (QJ (Ml _ _) i) s_;have h:=K0 (W.getD (n/64) 0) (n%64);have m:=Sq c (oC W) post (n/64) (by rw[aP,g.1];exact k);rw[Dw W (n/64) (by rw[g.1];exact k),w]at m;have u:(0:Int)<=((n/64:Nat):Int):=o_;have t:((n/64:Nat):Int)<4:=o_;have d:∀X:O3,iZ (oC X)=[]:=λX=>Qj _ X;have f:∀(L:O3)(X:O3),xF L (c++(oC X++post))=c++(oC X++post):=λL X=>yM (by simp only[Ig,l,h2,d,jO]);have e:∀X:O3,iZ (c++(oC X++post))=[]:=λX=>by simp only[Ig,l,h2,d,jO]
 have j:qK W n=(W.getD (n/64) 0).testBit (n%64):=rfl;rw[j,<-h];clear h j;generalize n/64=a at *
 generalize n%64=b at *
 simp only[go_sem,↓s,↓q,↓o,↓y,u,t,m,Bb,pQ,↓e,↓f]
def rE(es:N_)(h:es.length<=1000000):aA PQ G cT [.ls 5 es] [] λr T=>r=.own 0/\T=[some (.arr 5 es)]:=by
 apply aC sK
 cases es with
 |nil=>simp only[go_sem,(s_:0<=maxLen)]|cons x a=>
  have c:(a.length+1)*40<=140737488355328:=A_;have b:a.length+1<=maxLen:=G_;simp only[go_sem,c,b]
def Hf(es:N_)(h:es.length<=1000000):aA PQ G fO [.ls 1 es] [] λr T=>r=.own 0/\T=[some (.arr 1 es)]:=by
 apply aC yT
 cases es with
 |nil=>simp only[go_sem,(s_:0<=maxLen)]|cons x a=>
  have c:(a.length+1)*1<=140737488355328:=A_;have b:a.length+1<=maxLen:=G_;simp only[go_sem,c,b]
def BC(es:N_)(h:es.length<=1000000):aA PQ G fO [.ls 1 es] [] λr T=>r=.ls 1 es/\T=[]:=by refine(Hf es h).fin [0] ?_;rintro r a ⟨rfl,rfl⟩;simp only[go_sem,gQ]
def J8(es:N_)(h:es.length<=1000000):aA PQ G aES [.ls 1 es] [] λr T=>r=.own 0/\T=[some (.arr 1 es)]:=by
 apply aC Au
 cases es with
 |nil=>simp only[go_sem,(s_:0<=maxLen)]|cons x a=>
  have c:(a.length+1)*8<=140737488355328:=A_;have b:a.length+1<=maxLen:=G_;simp only[go_sem,c,b]
def Ct(es:N_)(h:es.length<=1000000):aA PQ G aES [.ls 1 es] [] λr T=>r=.ls 1 es/\T=[]:=by refine(J8 es h).fin [0] ?_;rintro r a ⟨rfl,rfl⟩;simp only[go_sem,gQ]
def CO(es:N_)(h:es.length<=1000000):aA PQ G dC [.ls 4 es] [] λr T=>r=.own 0/\T=[some (.arr 4 es)]:=by
 apply aC uB
 cases es with
 |nil=>simp only[go_sem,(s_:0<=maxLen)]|cons x a=>
  have c:(a.length+1)*32<=140737488355328:=A_;have b:a.length+1<=maxLen:=G_;simp only[go_sem,c,b]
def tJ(es:N_)(h:es.length<=1000000):aA PQ G dC [.ls 4 es] [] λr T=>r=.ls 4 es/\T=[]:=by refine(CO es h).fin [0] ?_;rintro r a ⟨rfl,rfl⟩;simp only[go_sem,gQ]
def Dy(es:N_)(h:es.length<=1000000):aA PQ G fU [.ls 1 es] [] λr T=>r=.own 0/\T=[some (.arr 1 es)]:=by
 apply aC vG
 cases es with
 |nil=>simp only[go_sem,(s_:0<=maxLen)]|cons x a=>
  have c:(a.length+1)*8<=140737488355328:=A_;have b:a.length+1<=maxLen:=G_;simp only[go_sem,c,b]
def Dz(es:N_)(h:es.length<=1000000):aA PQ G fU [.ls 1 es] [] λr T=>r=.ls 1 es/\T=[]:=by refine(Dy es h).fin [0] ?_;rintro r a ⟨rfl,rfl⟩;simp only[go_sem,gQ]
def BD(es:N_)(h:es.length<=1000000):aA PQ G gZ [.ls 2 es] [] λr T=>r=.own 0/\T=[some (.arr 2 es)]:=by
 apply aC sL
 cases es with
 |nil=>simp only[go_sem,(s_:0<=maxLen)]|cons x a=>
  have c:(a.length+1)*32<=140737488355328:=A_;have b:a.length+1<=maxLen:=G_;simp only[go_sem,c,b]
def wJ(es:N_)(h:es.length<=1000000):aA PQ G fJ [.ls 4 es] [] λr T=>r=.own 0/\T=[some (.arr 4 es)]:=by
 apply aC pU
 cases es with
 |nil=>simp only[go_sem,(s_:0<=maxLen)]|cons x a=>
  have c:(a.length+1)*48<=140737488355328:=A_;have b:a.length+1<=maxLen:=G_;simp only[go_sem,c,b]
def aDu(a:O6)(b:a.length<=1000000):aA PQ G bF [ids a] [] λr T=>r=ids a/\T=[]:=by refine(MO a b).fin [0] ?_;rintro r c ⟨rfl,rfl⟩;simp only[go_sem,gQ]
def CP (o:OpM):aK:=[some (.box [iv o.By,iv o.Seq,iv o.Kind,iv o.At,ids o.Past,iv o.Device,iv o.Old,iv o.Member,iv o.Role,.own 2,
 iv o.Epoch.a,iv o.Epoch.b,.v (.int .u64 o.Epoch.c),iv o.N,.ls 1 (bl o.Body),.ls 1 (ul o.Refs),iv o.Of.a,iv o.Of.b,.v (.int .u64 o.Of.c),rG o.Guards,
 iv o.Need,iv o.Wait,F5 o.Boxes,uv o.Pub,.own 3,uv o.SR,uv o.SS]),some (.box [AV.v (Value.int IntKind.i64 0),AV.v (Value.int IntKind.i64 0),AV.v (Value.int IntKind.i64 0),
        AV.v (Value.int IntKind.i64 0),AV.v (Value.slice none 0 0),AV.v (Value.int IntKind.i64 0),
        AV.v (Value.int IntKind.i64 0),AV.v (Value.int IntKind.i64 0),AV.v (Value.int IntKind.i64 0),
        AV.v (Value.slice none 0 0),AV.v (Value.int IntKind.i64 0),AV.v (Value.int IntKind.i64 0),
        AV.v (Value.int IntKind.u64 0),AV.v (Value.int IntKind.i64 0),AV.v (Value.slice none 0 0),
        AV.v (Value.slice none 0 0),AV.v (Value.int IntKind.i64 0),AV.v (Value.int IntKind.i64 0),
        AV.v (Value.int IntKind.u64 0),AV.v (Value.slice none 0 0),AV.v (Value.int IntKind.i64 0),
        AV.v (Value.int IntKind.i64 0),AV.v (Value.slice none 0 0),AV.v (Value.int IntKind.u64 0),
        AV.v (Value.slice none 0 0),AV.v (Value.int IntKind.u64 0),AV.v (Value.int IntKind.u64 0)]),some (.arr 2 (o.Path.map NodeM.A)),some (.arr 4 (o.Hist.map SealM.A))]
def BE{α a:Type}(f:α->a)(l:List α)(i:Nat)(h:i<l.length):(l.map f).set i (f l[i])=l.map f:=by rw[<-Ba,List.set_getElem_self]
def aDv(o:OpM)(e:o.ok):aA PQ G pO [.ag o.A] [] λr T=>r=.ag [iv o.By,iv o.Seq,iv o.Kind,iv o.At,ids o.Past,iv o.Device,iv o.Old,iv o.Member,iv o.Role,.own 0,
 iv o.Epoch.a,iv o.Epoch.b,.v (.int .u64 o.Epoch.c),iv o.N,.ls 1 (bl o.Body),.ls 1 (ul o.Refs),iv o.Of.a,iv o.Of.b,.v (.int .u64 o.Of.c),rG o.Guards,
 iv o.Need,iv o.Wait,F5 o.Boxes,uv o.Pub,.own 1,uv o.SR,uv o.SS]/\T=[some (.arr 2 (o.Path.map NodeM.A)),some (.arr 4 (o.Hist.map SealM.A))]:=by
 apply aC Jw;have t:=e.past.1;have s:=e.path.1;have q:=e.refs.1;have p:=e.guards.1;have m:=e.boxes.1;have l:=e.hist.1;have k:=e.body.1;simp only[go_sem,OpM.A_def];apply cX (aDu o.Past o_);simp only[go_sem];apply cX (BC (bl o.Body) X_);simp only[go_sem];apply cX (Dz (ul o.Refs) X_);simp only[go_sem];apply cX (Ct (o.Guards.map λn=>[iv n]) X_);simp only[go_sem];apply cX (tJ (o.Boxes.map BoxM.A) X_);simp only[go_sem];apply aBF (BD (o.Path.map NodeM.A) X_);simp only[go_sem];apply aBF (wJ (o.Hist.map SealM.A) X_);simp only[go_sem,aP];refine aQ o.Path.length (λi=>⟨0,[(1,.ptr 0 0),(2,.ptr 1 0),(35,iv o.Path.length),(36,iv i)],CP o⟩) (λ_=>True) ?_ trivial ?_ ?_;simp only[go_sem,CP];intro i d _;have g:=fQ i o_;have f:(o.Path.map NodeM.A)[i]?=some [uv o.Path[i].Pub,F5 o.Path[i].Boxes]:=aO _ o.Path i d;have h:(o.Path.map NodeM.A).set i [uv o.Path[i].Pub,F5 o.Path[i].Boxes]=o.Path.map NodeM.A:=BE NodeM.A o.Path i d;have j:=(e.path.2 _ (eQ d)).2.1;generalize o.Path[i]=x at *
 simp only[go_sem,CP,aP,aT d,d,f];apply cX (tJ (x.Boxes.map BoxM.A) X_);simp only[go_sem,CP,aP,d,f,h,g];intro _;simp only[go_sem,CP,aP,aS (bP _)];refine aQ o.Hist.length (λi=>⟨0,[(1,.ptr 0 0),(2,.ptr 1 0),(54,iv o.Hist.length),(55,iv i)],CP o⟩) (λ_=>True) ?_ trivial ?_ ?_;simp only[go_sem,CP];intro i d _;have g:=fQ i o_;have f:(o.Hist.map SealM.A)[i]?=some [.v (.int .i64 o.Hist[i].Of.a),.v (.int .i64 o.Hist[i].Of.b),.v (.int .u64 o.Hist[i].Of.c),.ls 1 (bl o.Hist[i].Body)]:=aO _ o.Hist i d;have h:(o.Hist.map SealM.A).set i [.v (.int .i64 o.Hist[i].Of.a),.v (.int .i64 o.Hist[i].Of.b),.v (.int .u64 o.Hist[i].Of.c),.ls 1 (bl o.Hist[i].Body)]=o.Hist.map SealM.A:=BE SealM.A o.Hist i d;have j:=(e.hist.2 _ (eQ d)).2.1;generalize o.Hist[i]=x at *
 simp only[go_sem,CP,aP,aT d,d,f];apply cX (BC (bl x.Body) X_);simp only[go_sem,CP,aP,d,f,h,g];intro _;simp only[go_sem,CP,aS (bP _)]
def ZH(o:OpM)(a:o.ok):aA PQ G pO [.ag o.A] [] λr T=>r=.ag o.A/\T=[]:=by refine(aDv o a).fin [0,1] ?_;rintro r b ⟨rfl,rfl⟩;simp only[go_sem,gQ,OpM.A_def]
structure ND where
 o:OpM
 id:Id
 W:List Nat
 lv:Int
def ND.A(n:ND):O0:=n.o.A++(n.id.A++(oC n.W++[iv n.lv]))
structure PGM where
 cards:List CardM
 nodes:List ND
def PGM.I(g:PGM):O6:=g.nodes.map (·.id)
def MG(I:O6):AObj:=.map true (I.map Id.K) ((List.range I.length).map λi:Nat=>iv (i:Int)) (List.range I.length) I.length
def TG(k:Nat)(g:PGM):aK:=[some (.box [.ls 5 (g.cards.map CardM.A),.mp (k+1),.own (k+2)]),some (MG g.I),some (.arr 35 (g.nodes.map ND.A))]
def AL(x:Id):LF true [.int .i64,.int .i64,.int .u64] (.ag x.A)=some x.K:=K_
@[go_sem] def aJ4(x:Id):G6 x.A=some x.K:=K_
@[go_sem] def aNx(x:Id):rJ [.int .i64,.int .i64,.int .u64] x.K x.K=some true:=by simp[Id.K,rJ]
def qH(x:Id):∀(I:O6)(i:Nat),aK4 [.int .i64,.int .i64,.int .u64] x.K (I.map Id.K) i=some ((I.findIdx? λy=>decide (y=x)).map (· + i))
 |[],_=>rfl
 | y::I,i=>by
  simp only[fG,aK4,Id.K,rJ,and_self,if_true,yH,List.findIdx?_cons];have:=qH x I (i+1);simp only[Id.K]at this;have e:(x.a==y.a&&(x.b==y.b&&x.c==y.c))=decide (y=x):=by rw[Id.beq];rw[aO8];simp[eq_comm]
  by_cases h:y=x;subst h;simp;have h2:decide (y=x)=false:=decide_eq_false h;rw[h2]at e⊢;simp only[e,this,jJ,if_false]
  cases I.findIdx? (λy=>decide (y=x)) with
  |none=>rfl
  |some j=>simp;omega
def yC(n j:Nat)(h:j<n):((List.range n).map λi:Nat=>iv (i:Int))[j]?=some (iv (j:Int)):=by simp[h]
def aOH{I:O6}{x:Id}(h:x∉I):I.findIdx? (λy=>decide (y=x))=none:=m_
def dG{I:O6}{x:Id}(h:x∈I):∃j,I.findIdx? (λy=>decide (y=x))=some j/\j<I.length/\∃a:j<I.length,I[j]=x:=by
 cases e:I.findIdx? (λy=>decide (y=x)) with
 |none=>exact absurd (Md.1 e x h) k_|some j=>
  obtain⟨b,h2,_⟩:=Ad.1 e;simp_all
def ZI(g:PGM)(d:Int)(m:g.cards.length<=1000):aA PQ G oQ [.ptr 0 0,iv d] (TG 0 g) λr T=>r=.tup [.ag (gM g.cards d).1.A,.v (.bool (gM g.cards d).2)]/\T=TG 0 g:=by
 apply aC EO;simp only[go_sem,TG,MG,aP];refine aQ g.cards.length (λi=>⟨3,[(1,iv d),(4,.ptr 3 0),(11,.ls 5 (g.cards.map CardM.A)),(12,iv g.cards.length),(13,iv i)],[some (.box [.ls 5 (g.cards.map CardM.A),.mp 1,.own 2]),some (MG g.I),some (.arr 35 (g.nodes.map ND.A)),some (.box [iv 0,iv 0,AV.v (.int .u64 0),AV.v (.int .u64 0),AV.v (.int .u64 0)])]⟩) (λi=>∀j(a:j<g.cards.length),j<i->(g.cards[j].Device==d)=false) ?_ og ?_ ?_;simp only[go_sem,MG];intro i b f;have l:(g.cards.map CardM.A)[i]?=some [iv g.cards[i].Device,iv g.cards[i].Member,uv g.cards[i].Lead,uv g.cards[i].Keep,uv g.cards[i].Sign]:=aO _ g.cards i b;simp only[go_sem,MG,aT b,l];refine aL (λh=>?_) (λh=>?_)<;>simp only[go_sem,MG,fQ i o_];have e:g.cards.find? (λc=>c.Device==d)=some g.cards[i]:=aBG.2 ⟨h,i,b,rfl,λj a=>by simp[f j o_ a]⟩;simp only[gM,e,CardM.A_def];grind;intro f;have e:g.cards.find? (λc=>c.Device==d)=none:=Eb.2 λx k=>by obtain⟨j,a,rfl⟩:=CU k;simp[f j a a]
 simp only[go_sem,MG,aS (bP _),gM,e,CardM.A_def];rfl
def Q5(g:PGM)(x:Id):aA PQ G dX [.ag x.A,.ptr 0 0] (some (.box [.ptr 1 0])::TG 1 g) λr T=>r=.v (.bool (decide (x∈g.I)))/\T=some (.box [.ptr 1 0])::TG 1 g:=by refine aC CL ?_;have e:=AL x;have a:=qH x g.I 0;by_cases b:x∈g.I;obtain⟨j,c,h2,_⟩:=dG b;rw[c]at a;have d:=yC g.I.length j h2;simp only[iX,mG]at a;simp only[go_sem,TG,MG,a,d,decide_eq_true b];rw[aOH b]at a;simp only[xD]at a;simp only[go_sem,TG,MG,a,decide_eq_false b]
def aDE(g:PGM)(l:O6)(r:AV)(T:aK):Prop:=(r=.own 0/\(l.filter λx=>!decide (x∈g.I))=l/\T=[some (.arr 3 (l.map Id.A)),some (.box [.ptr 2 0]),some (.box [.ls 5 (g.cards.map CardM.A),.mp 3,.own 4]),some (MG g.I),some (.arr 35 (g.nodes.map ND.A))]) \/
 ∃(L:O6)(n:Nat),n<=L.length/\L.length=l.length/\L.take n=(l.filter λx=>!decide (x∈g.I))/\r=.vw 0 3 0 n/\T=[some (.arr 3 (L.map Id.A)),some (.box [.ptr 2 0]),some (.box [.ls 5 (g.cards.map CardM.A),.mp 3,.own 4]),some (MG g.I),some (.arr 35 (g.nodes.map ND.A))]
def Sr(g:PGM)(l:O6)(d:l.length<=1000000):aA PQ G bB [.own 0,.cl dX [.ptr 1 0]] [some (.arr 3 (l.map Id.A)),some (.box [.ptr 2 0]),some (.box [.ls 5 (g.cards.map CardM.A),.mp 3,.own 4]),some (MG g.I),some (.arr 35 (g.nodes.map ND.A))] λr T=>
 ((r=iv (-1)/\∀x∈l,x∉g.I)\/(∃j:Nat,j<l.length/\r=iv j/\(∀x∈l.take j,x∉g.I)/\∃h:j<l.length,l[j]∈g.I))/\T=[some (.arr 3 (l.map Id.A)),some (.box [.ptr 2 0]),some (.box [.ls 5 (g.cards.map CardM.A),.mp 3,.own 4]),some (MG g.I),some (.arr 35 (g.nodes.map ND.A))]:=by
 apply aC cJ;simp only[go_sem,MG,aP];refine aQ l.length (λi=>⟨5,[(0,.own 0),(1,.cl dX [.ptr 1 0]),(7,iv l.length),(8,iv i)],[some (.arr 3 (l.map Id.A)),some (.box [.ptr 2 0]),some (.box [.ls 5 (g.cards.map CardM.A),.mp 3,.own 4]),some (MG g.I),some (.arr 35 (g.nodes.map ND.A))]⟩) (λi=>∀x∈l.take i,x∉g.I) ?_ k_ ?_ ?_;simp only[go_sem,MG];intro i a b;simp only[go_sem,MG,aP,aT a,a,aO Id.A l i a,Id.A_def];apply aG [1,2,3,4] (aB _) s_ k_ rfl u_ (Q5 g l[i]);rintro r e ⟨rfl,rfl⟩;simp only[go_sem,TG,MG];refine aL (λh=>?_) (λh=>?_)<;>simp only[go_sem,MG,fQ i o_];grind;refine λx c=>?_;rw[lq8 a]at c;grind;intro b;rw[dE]at b;simp only[go_sem,MG,aS (bP _)];exact .inl b
def Pz (g:PGM) (l:O6) (z:l.length<=1000000):aA PQ G bE [.own 0,.cl dX [.ptr 1 0]] [some (.arr 3 (l.map Id.A)),some (.box [.ptr 2 0]),some (.box [.ls 5 (g.cards.map CardM.A),.mp 3,.own 4]),some (MG g.I),some (.arr 35 (g.nodes.map ND.A))] (aDE g l):=by
 apply aC iD;simp only[go_sem,MG];apply aG [0,1,2,3,4] (aB _) s_ k_ rfl (by simp only[go_sem,MG]) (Sr g l z);rintro r E ⟨y,rfl⟩;rcases y with⟨rfl,c⟩|⟨b,q,rfl,c,_,t⟩
 simp only[go_sem,MG];refine .inl ⟨rfl,?_,rfl⟩;simp_all;have D:((b:Int)==-1)=false:=K_;simp only[go_sem,MG,D,fQ b o_];refine cO (λm s=>∃(i j:Nat)(L:O6),m=l.length-j/\i<j/\j<=l.length/\L.length=l.length/\L.take i=((l.take j).filter λx=>!decide (x∈g.I))/\L.drop j=l.drop j/\s=⟨5,[(0,.own 0),(1,.cl dX [.ptr 1 0]),(5,iv i),(6,iv j)],[some (.arr 3 (L.map Id.A)),some (.box [.ptr 2 0]),some (.box [.ls 5 (g.cards.map CardM.A),.mp 3,.own 4]),some (MG g.I),some (.arr 35 (g.nodes.map ND.A))]⟩) (l.length-(b+1))
  ⟨b,b+1,l,rfl,o_,o_,rfl,?_,rfl,by simp only[go_sem,MG]⟩ ?_
 rw[lq8 q,Mf,Gm.2 (λx w=>by simp[c x w])];simp[t];rintro m s ⟨i,j,L,rfl,B,F,k,n,u,rfl⟩;by_cases a:j<l.length;have p:j<L.length:=o_;have e:i<L.length:=o_;have C:L[j]=l[j]:=by
  have H:(L.drop j)[0]?=(l.drop j)[0]?:=by rw[u]
  grind
 have f:L.drop (j+1)=l.drop (j+1):=by have:=congrArg (List.drop 1) u;grind[List.drop_drop]
 simp only[go_sem,MG,aP,k,aT a,a,aO Id.A L j p,Id.A_def];apply aG [1,2,3,4] (aB _) s_ k_ rfl u_ (Q5 g L[j]);rintro r E ⟨rfl,rfl⟩;simp only[go_sem,TG,MG];refine aL (λh=>?_) (λh=>?_);have o:L[j]∉g.I:=n_;simp only[go_sem,MG,aP,k,(o_:i<l.length),aO Id.A L i e,Id.A_def,fQ i o_,fQ j o_];refine⟨l.length-(j+1),o_,i+1,j+1,L.set i L[j],rfl,o_,o_,sj,?_,?_,?_⟩;rw[lq8 E_,lq8 a,Mf,<-n,YC,List.take_set_of_le (cN i)];simp_all;rw[List.drop_set_of_lt o_,f];rw[Ba];rfl;have o:L[j]∈g.I:=n_;simp only[go_sem,MG,fQ j o_];refine⟨l.length-(j+1),o_,i,j+1,L,rfl,o_,o_,k,?_,f,rfl⟩;rw[lq8 a,Mf,<-n];simp_all;obtain rfl:j=l.length:=o_;rw[dE]at n;have d:i<=l.length:=o_;simp only[go_sem,MG,aP,k,aS a,d,(o_:i+(l.length-i)=l.length),QE,eC,vY,Kj d,YN];refine .inr ⟨L.take i++List.replicate (l.length-i) ⟨0,0,0⟩,i,f_,f_,?_,rfl,?_⟩;grind;simp only[bZ,QN,YH,Id.A_zero];rw[LB f_,jO];rfl
@[go_sem] def aDF{α:Type}(i k:Nat)(es:N_)(f:α->Value):∀l:List α,IB i k es (l.map λx=>.v (f x))=l.map λx=>.v (f x)|[]=>rfl|x::l=>by show CB i k es (.v (f x))::IB i k es (l.map λx=>.v (f x))=_;rw[aDF i k es f l];rfl
def CQ(g:PGM)(o:OpM):O6:=o.Past.filter λx=>!decide (x∈g.I)
def aDG(g:PGM)(o:OpM)(b:o.ok):aA PQ G aJ3 [.ptr 0 0,.ag o.A] (TG 0 g) λr T=>(r=.own 3/\T=TG 0 g++[some (.arr 3 ((CQ g o).map Id.A))])\/∃(L:O6)(n:Nat),n<=L.length/\L.take n=CQ g o/\r=.vw 3 3 0 n/\T=TG 0 g++[some (.arr 3 (L.map Id.A))]:=by refine aC Dj ?_;have e:=b.past.1;simp only[go_sem,TG,MG];apply aBF (MO o.Past o_);simp only[go_sem];apply aG [5,3,0,1,2] (aB _) s_ k_ rfl (by simp only[go_sem,MG]) (Pz g o.Past o_);rintro r h (⟨rfl,d,rfl⟩|⟨L,n,c,f,a,rfl,rfl⟩);simp only[go_sem,MG];left;rw[CQ,d];simp only[go_sem,MG];exact .inr ⟨L,n,c,a,rfl,rfl⟩
def aFN(g:PGM)(o:OpM)(c:o.ok):aA PQ G aJ3 [.ptr 0 0,.ag o.A] (TG 0 g) λr T=>r=ids (CQ g o)/\T=TG 0 g:=by
 refine(aDG g o c).fin [3] ?_;rintro r e (⟨rfl,rfl⟩|⟨L,n,d,b,rfl,rfl⟩);simp only[go_sem,TG,MG];have a:(L.map Id.A).take n=(CQ g o).map Id.A:=by rw[<-QN,b]
 have h2:n<=(L.map Id.A).length:=d8;generalize L.map Id.A=E at a h2;simp only[go_sem,TG,MG,h2,a]
def PGM.at(g:PGM)(x:Id):Nat:=(g.I.findIdx? λy=>decide (y=x)).getD 0
def z4:O3:=[0,0,0,0]
def XD:ND:=⟨default,⟨0,0,0⟩,z4,0⟩
def PGM.nd(g:PGM)(x:Id):ND:=g.nodes.getD (g.at x) XD
def Hg(g:PGM)(l:O6):O3:=l.foldl (λW x=>Py W (g.at x)) z4
def Hh(g:PGM)(l:O6):O3:=l.foldl (λW x=>Kz W (g.nd x).W) z4
def G0(g:PGM)(l:O6):Int:=l.foldl (λm x=>max m (g.nd x).o.At) 0
def Fa(g:PGM)(l:O6):Int:=l.foldl (λm x=>max m ((g.nd x).lv+1)) 1
def Cu(W V:O3):O3:=List.zipWith (λa b=>a &&& b) W V
def BY(a:List ND)(o:OpM)(W:O3):Nat->Int×Bool|0=>(0,false)|i+1=>if((a.getD i XD).o.By==o.By)&&qK W i then(max (BY a o W i).1 (a.getD i XD).o.Seq,(BY a o W i).2||((a.getD i XD).o.Seq==o.Seq-1)) else BY a o W i
def BF(g:PGM)(o:OpM):O3:=Kz (Hh g o.Past) (Hg g o.Past)
def MQ(g:PGM)(o:OpM):Bool :=
 decide (o.Seq<=(BY g.nodes o (BF g o) g.nodes.length).1)||(decide (1<o.Seq)&&!(BY g.nodes o (BF g o) g.nodes.length).2)
def Q8(g:PGM)(o:OpM):PGM×Int :=
 if !(Cu (Hg g o.Past) (Hh g o.Past)==z4&&!decide (o.At<G0 g o.Past)) then(g,6)
 else if MQ g o then(g,11)
 else(⟨g.cards,g.nodes++[⟨o,C7 o,BF g o,Fa g o.Past⟩]⟩,0)
def Oa(g:PGM)(o:OpM):PGM×Int :=
 if C7 o∈g.I then(g,5)
 else if 200<=g.nodes.length then(g,3)
 else if(gM g.cards o.By).2=false then(g,17)
 else if((o.By==(gM g.cards o.By).1.Device)&&BW (gM g.cards o.By).1.Sign o.B o.SR o.SS)=false then(g,12)
 else if((o.Kind==1)&&decide (0<g.nodes.length))=true then(g,1)
 else if 0<(CQ g o).length then(g,10)
 else Q8 g o
def sR(g:PGM)(o:OpM):PGM×Int:=if vF o≠0 then(g,vF o) else Oa g o
structure PGM.ok(g:PGM):Prop where
 n:g.nodes.length<=200
 cn:g.cards.length<=1000
 cs:∀c∈g.cards,c.ok
 ops:∀x∈g.nodes,x.o.ok
 ids:∀x∈g.nodes,x.id.ok
 ws:∀x∈g.nodes,Hu x.W
 lv:∀x∈g.nodes,0<=x.lv/\x.lv<=g.nodes.length
def ND.Alen(x:ND)(h:x.W.length=4):x.A.length=35:=by simp only[ND.A,dZ,aP,h,OpM.len];rfl
def TA(g:PGM)(o:OpM):aK:=[some (.box [.ls 5 (g.cards.map CardM.A),.mp 1,.own 2]),some (.map true (g.I.map Id.K) ((List.range g.I.length).map λi:Nat=>iv (i:Int)) (List.range g.I.length) g.I.length),some (.arr 35 (g.nodes.map ND.A)),some (.box o.A)]
def TN(o:OpM)(W:O3)(a:Int):Option AObj:=some (.box (o.A++((C7 o).A++(oC W++[iv a]))))
def Ob:Hu z4:=⟨rfl,λw a=>by simp[z4]at a;omega⟩
def Q9{g:PGM}(a:g.ok)(x:Id):Hu (g.nd x).W:=by unfold PGM.nd;rw[rH];rcases eD (g.at x) g.nodes.length with h|h;rw[jN h];exact a.ws _ (eQ h);rw[sX h];exact Ob
def aDH(g:PGM)(l:O6)(x:Id):Hg g (l++[x])=Py (Hg g l) (g.at x):=by simp[Hg]
def aDI(g:PGM)(l:O6)(x:Id):Hh g (l++[x])=Kz (Hh g l) (g.nd x).W:=by simp[Hh]
def aAU(g:PGM)(l:O6)(x:Id):G0 g (l++[x])=max (G0 g l) (g.nd x).o.At:=by simp[G0]
def aDJ(g:PGM)(l:O6)(x:Id):Fa g (l++[x])=max (Fa g l) ((g.nd x).lv+1):=by simp[Fa]
def Ss{α:Type}(p:O3->Prop)(f:O3->α->O3)(a:∀W x,p W->p (f W x)):∀(l:List α)(W:O3),p W->p (l.foldl f W)|[],_,h=>h|x::l,W,h=>Ss p f a l (f W x) (a W x h)
def JB(g:PGM)(l:O6):Hu (Hg g l):=Ss Hu _ (λW x h=>ZG h _) l z4 Ob
def JC{g:PGM}(a:g.ok)(l:O6):Hu (Hh g l):=Ss Hu _ (λW x h=>aRL h (Q9 a x)) l z4 Ob
def aKf(o:OpM)(i:Id)(X:O0):(o.A++(i.A++X)).drop 30=X:=K_
def tk4(W:O3)(h:W.length=4)(X:O0):(oC W++X).take 4=oC W:=TY (by rw[aP,h])
def aDK(o:OpM)(X:O0)(k:Nat)(h:k<27):(o.A++X)[k]?=o.A[k]?:=mY (by rw[OpM.len];exact h)
def aId(o:OpM)(i:Id)(W:O3)(a:AV)(h:W.length=4):(o.A++(i.A++(oC W++[a]))).drop 34=[a]:=by rw[show 34=o.A.length+7 by rw[OpM.len],X3,show 7=i.A.length+4 from rfl,X3,show 4=(oC W).length by rw[aP,h]];simp
def aH6(o:OpM)(i:Id)(W:O3)(a:AV)(h:W.length=4):(o.A++(i.A++(oC W++[a])))[34]?=some a:=by have:=congrArg (λl=>l[0]?) (aId o i W a h);simpa using this
def aKg(o:OpM)(i:Id)(W:O3)(a:AV)(h:W.length=4):(o.A++(i.A++(oC W++[a]))).drop 35=[]:=by have:=congrArg (λl=>l.drop 1) (aId o i W a h);simpa using this
def aKh(o:OpM)(i:Id)(W:O3)(a:AV)(h:W.length=4):(o.A++(i.A++(oC W++[a]))).take 34=o.A++(i.A++oC W):=by rw[(k_:o.A++(i.A++(oC W++[a]))=(o.A++(i.A++oC W))++[a])];exact TY (by simp only[dZ,aP,h,OpM.len];rfl)
def U3{W V:O3}(a:Hu W)(b:Hu V):(Cu W V).length=4:=by unfold Cu;rw[aGC,a.1,b.1];rfl
def aAV(W V:O3)(c:V.length=W.length)(i:Nat)(h:i<W.length):(Cu W V).take (i+1)++W.drop (i+1)=((Cu W V).take i++W.drop i).set i (W.getD i 0 &&& V.getD i 0):=by
 have b:(Cu W V).length=W.length:=by grind[Cu,List.length_zipWith]
 have a:((Cu W V).take i).length=i:=c_;have e:(Cu W V)[i]'o_=W.getD i 0 &&& V.getD i 0:=by grind[Cu]
 rw[lq8 o_,lq2,e,Kc h,aBL _ _ o_,a,YN];rfl
end Hud
