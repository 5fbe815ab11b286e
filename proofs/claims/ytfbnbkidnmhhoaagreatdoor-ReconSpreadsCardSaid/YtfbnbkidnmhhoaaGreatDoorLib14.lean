import Derived.Test.YtfbnbkidnmhhoaaGreatDoorLib13
set_option linter.all false
set_option maxHeartbeats 40000000
namespace Hud
open Go
variable{G:L_}
abbrev fl(l:List Fq):List (List AV):=l.map λc=>[.v (fu c)]
def aNU(F:Nat->Fq->Fq)(l:List Fq)(i:Nat):List Fq:=l.mapIdx λj x=>if j<i then F j x else 0
def aTr(F:Nat->Fq->Fq)(l:List Fq):aNU F l 0=List.replicate l.length 0:=by apply EW λj=>?_;grind[aNU]
def aTs(F:Nat->Fq->Fq)(l:List Fq):aNU F l l.length=l.mapIdx F:=by apply EW λj=>?_;grind[aNU]
def aRl(F:Nat->Fq->Fq)(l:List Fq)(i:Nat):(aNU F l i).length=l.length:=by simp[aNU]
def aRm(F:Nat->Fq->Fq)(l:List Fq)(i:Nat)(h:i<l.length):(fl (aNU F l i))[i]?=some [.v (fu 0)]:=by simp[fl,aNU,h]
def aRn(F:Nat->Fq->Fq)(l:List Fq)(i:Nat)(h:i<l.length):(fl (aNU F l i)).set i [.v (fu (F i l[i]))]=fl (aNU F l (i+1)):=by
 have:(aNU F l i).set i (F i l[i])=aNU F l (i+1):=by apply EW λj=>?_;grind[aNU,List.length_mapIdx]
 rw[<-this];simp
def aYe{c:Fq}(h:((c.val:Int)==0)=true):c=0:=Fin.ext (by simp at h;simp[h])
def aYf{c:Fq}(h:((c.val:Int)==0)=false):c≠0:=λe=>by subst e;simp at h
def aI0(l:List Fq)(i:Nat)(h:i<l.length):(fl l)[i]?=some [.v (fu l[i])]:=by simp[fl,h]
def aOZ(l:List Fq)(i:Nat)(c:Fq):(fl l).set i [.v (fu c)]=fl (l.set i c):=k_
def aPO(n:Nat):List.replicate n [AV.v (.int .u64 0)]=fl (List.replicate n 0):=k_
def aWe(f:FuncId)(F:Nat->Fq->Fq)(l:List Fq)(hl:l.length<=1000000000)(hf:∀i x,i<l.length->aA PQ G f [.v (.int .i64 (i:Int)),.v (fu x)] [] λr T'=>r=.v (fu (F i x))/\T'=[]):
 aA PQ G Sl [.ls 1 (fl l),.cl f []] [] λr T'=>r=.own 0/\T'=[some (.arr 1 (fl (l.mapIdx F)))]:=by
 refine aC aJJ ?_;simp only[go_sem,aP,aPO,Int.le_refl,show(l.length:Int)*8<=140737488355328 by omega,show(l.length:Int)<=(maxLen:Int) by unfold maxLen;omega];refine aQ l.length (λi=>⟨0,[(1,.cl f []),(5,.own 0),(11,.ls 1 (fl l)),(12,.v (.int .i64 l.length)),(13,.v (.int .i64 i))],[some (.arr 1 (fl (aNU F l i)))]⟩) (λ_=>True) ?_ trivial ?_ ?_;simp only[go_sem,aTr];intro i hi _;have g1:=aI0 l i hi;have g2:=aRm F l i hi;have g3:=aRn F l i hi;simp only[go_sem,aT hi,g1];refine cX (hf i l[i] hi) ?_;simp only[go_sem,aP,aRl,hi,g2,g3,fQ i (by omega)];intro _;simp only[go_sem,aS (bP _),aTs]
def aRJ(f:FuncId)(c:AV)(ho:MM c=[])(F:Nat->Fq->Fq)(l:List Fq)(hl:l.length<=1000000000)(hf:∀i x,i<l.length->aA PQ G f [.v (.int .i64 (i:Int)),.v (fu x),.ptr 0 0] [some (.box [c])] λr T'=>r=.v (fu (F i x))/\T'=[some (.box [c])]):
 aA PQ G Sl [.ls 1 (fl l),.cl f [.ptr 0 0]] [some (.box [c])] λr T'=>r=.own 1/\T'=[some (.box [c]),some (.arr 1 (fl (l.mapIdx F)))]:=by
 refine aC aJJ ?_;have hr:=λL=>aJN (L:=L) ho;have hb:=λL n=>Yo (L:=L) (n:=n) ho;simp only[go_sem,aP,aPO,Int.le_refl,show(l.length:Int)*8<=140737488355328 by omega,show(l.length:Int)<=(maxLen:Int) by unfold maxLen;omega];refine aQ l.length (λi=>⟨1,[(1,.cl f [.ptr 0 0]),(5,.own 1),(11,.ls 1 (fl l)),(12,.v (.int .i64 l.length)),(13,.v (.int .i64 i))],[some (.box [c]),some (.arr 1 (fl (aNU F l i)))]⟩) (λ_=>True) ?_ trivial ?_ ?_;simp only[go_sem,aTr,ho,hr];intro i hi _;have g1:=aI0 l i hi;have g2:=aRm F l i hi;have g3:=aRn F l i hi;simp only[go_sem,aT hi,g1];refine aG [0] (aB _) (by decide) (by simp) rfl (by simp only[go_sem,hr]) (hf i l[i] hi) ?_;rintro r T' ⟨rfl,rfl⟩;simp only[go_sem,aP,aRl,hi,g2,g3,fQ i (by omega),ho,hr,hb];intro _;simp only[go_sem,aS (bP _),aTs,ho,hr]
def vw0(n N:Nat):AV:=if n=N then .own 0 else .vw 0 1 0 n
def aRK (l:List Fq) (n:Nat) (o:n<=l.length) (q:l.length<=1000000000):
 aA PQ G aJd [vw0 n l.length] [some (.arr 1 (fl l))] λr k=>r=vw0 (aI (l.take n)).length l.length/\k=[some (.arr 1 (fl l))]:=by
 apply aC aQF;simp only[go_sem];apply cO (λm s=>m<=n/\aI (l.take m)=aI (l.take n)/\s=⟨1,[(0,vw0 m l.length)],[some (.arr 1 (fl l))]⟩) n ⟨cN _,rfl,by simp only[vw0];split<;>simp only[go_sem]⟩;rintro m s ⟨p,d,rfl⟩
 cases m with
 |zero=>
  have e:aI (l.take n)=[]:=by rw[<-d];rfl
  simp only[vw0];split;rename_i c;simp only[go_sem,aP,<-c,e];simp[vw0];simp only[go_sem,e];simp[vw0, *]
 | succ m=>
  have f:m<l.length:=o_;have j:=aI0 l m f;have a:aI (l.take (m+1))=if l[m]=0 then aI (l.take m) else l.take (m+1):=by rw[lq8 f,aKH]
  have g:=aNu (o_:m<2^63-1);have i:m≠l.length:=o_;simp only[vw0];split;rename_i c;simp only[go_sem,aP,<-c,g,j,Nat.lt_add_one];refine aL (λh=>?_) (λh=>?_);have b:=aYe h;rw[if_pos b]at a;simp only[go_sem,aP,<-c,g,pR,QO,Nat.le_add_right];refine⟨m,o_,o_,by rw[<-a,d],?_⟩;simp only[vw0,if_neg (o_:m≠m+1)];have b:=aYf h;rw[if_neg b]at a;have e:(aI (l.take n)).length=m+1:=by rw[<-d,a,eC];omega
  simp only[go_sem,vw0,e,c];rename_i c;simp only[go_sem,g,j,Nat.lt_add_one];refine aL (λh=>?_) (λh=>?_);have b:=aYe h;rw[if_pos b]at a;simp only[go_sem,g,pR,QO,Nat.le_add_right];refine⟨m,o_,o_,by rw[<-a,d],?_⟩;simp only[vw0,if_neg i];have b:=aYf h;rw[if_neg b]at a;have e:(aI (l.take n)).length=m+1:=by rw[<-d,a,eC];omega
  simp only[go_sem,vw0,e,c]
def aPP(l:List Fq)(a:l.length<=1000000000):
 aA PQ G aJd [.own 0] [some (.arr 1 (fl l))] λr b=>r=vw0 (aI l).length l.length/\b=[some (.arr 1 (fl l))]:=by
 have:=aRK (G:=G) l l.length (cN _) a;rwa[vw0,if_pos rfl,dE]at this
def aUU(i:Nat)(x:Fq):aA PQ G aMF [iv i,.v (fu x)] [] λr a=>r=.v (fu x)/\a=[]:=by refine aC aPN ?_;simp only[go_sem];apply cX (aJX x);simp only[go_sem]
def aRo(l:List Fq):l.mapIdx (λ_ x=>x)=l:=by apply EW λj=>?_;simp
def aQj(l:List Fq):(fl l).take (aI l).length=fl (aI l):=by obtain⟨k,a⟩:=aMu l;grind
def aUV(l:List Fq)(a:l.length<=1000000000):
 aA PQ G aFd [.ls 1 (fl l)] [] λr b=>r=vw0 (aI l).length l.length/\b=[some (.arr 1 (fl l))]:=by
 apply aC aQE;simp only[go_sem];apply aBF (aWe aMF (λ_ x=>x) l a λi x _=>aUU i x);simp only[go_sem,aRo];apply aG [0] (aB _) s_ k_ rfl rfl (aPP l a);rintro r b ⟨rfl,rfl⟩;simp only[go_sem,vw0];split<;>simp only[go_sem]
def aTt{f:FuncId}{args:O0}{l:List Fq}(c:aA PQ G f args [] λr a=>r=vw0 (aI l).length l.length/\a=[some (.arr 1 (fl l))]):aA PQ G f args [] λr a=>r=.ls 1 (fl (aI l))/\a=[]:=by refine c.fin [0] ?_;rintro r a ⟨rfl,rfl⟩;have b:=aQj l;have h2:=ID l;simp only[vw0];split;rename_i h;rw[h,sG k_]at b;simp only[go_sem,b];simp only[go_sem,pQ,aP,h2,b]
def aOG(l:List Fq)(a:l.length<=1000000000):aA PQ G aFd [.ls 1 (fl l)] [] λr b=>r=.ls 1 (fl (aI l))/\b=[]:=aTt (aUV l a)
def xA:O3->Nat|[]=>0|x::r=>x+256*xA r
def wH:Nat->O3->O3|0,_=>[]|_+1,[]=>[]|n+1,x::b=>xA ((x::b).take 7)::wH n ((x::b).drop 7)
def eN(b:O3):O3:=wH b.length b
def OJ:∀{b:O3},xN b->xA b<256^b.length|[],_=>by simp[xA]|x::r,h=>by have c:=OJ (b:=r) λy a=>h y (GU _ a);have h2:=h x EV;grind[xA,List.length_cons,Nat.pow_succ]
def Qw{b:O3}(h:xN b)(a:b.length<=7):xA b<72057594037927936 :=
 CV (OJ h) (uR (Gl s_ a) s_)
def Ky:∀(n m:Nat)(b:O3),b.length<=n->b.length<=m->wH n b=wH m b
 |0,m,b,h,_=>by
  have:b=[]:=Ae o_;subst this;cases m<;>rfl
 |n+1,m,[],_,_=>by cases m<;>rfl
 |n+1,0,x::b,_,h=>by simp at h|n+1,m+1,x::b,a,h2=>by simp only[wH];rw[Ky n m ((x::b).drop 7) (by simp at a⊢;omega) (by simp at h2⊢;omega)]
def Wx:eN []=[]:=rfl
def FV{b:O3}(h:b≠[]):eN b=xA (b.take 7)::eN (b.drop 7):=by
 cases b with
 |nil=>exact absurd rfl h|cons x b=>
  unfold eN;simp only[sE,wH];rw[Ky _ ((x::b).drop 7).length _ k_ (cN _)]
def Wy{b:O3}(h:b≠[])(a:b.length<=7):eN b=[xA b]:=by rw[FV h,sG a,LB a,Wx]
def Hc(b:O3):(eN b).length<=b.length:=by
 have:∀(n:Nat)(b:O3),(wH n b).length<=n:=by
  intro n
  induction n with
  |zero=>intro b;simp[wH]|succ n ih=>intro b;cases b<;>simp[wH,ih]
 exact this _ _
def J1 {b:O3} (h:xN b):∀w∈eN b,w<72057594037927936:=by
 have:∀(n:Nat)(b:O3),xN b->∀w∈wH n b,w<72057594037927936:=by
  intro n
  induction n with
  |zero=>intro b _ w a;simp[wH]at a| succ n ih=>
   intro b c w a
   cases b with
   |nil=>simp[wH]at a|cons x b=>
    simp only[wH,cS]at a;rcases a with rfl|a;exact Qw (uU c 7) Y_;exact ih _ (Ih c 7) w a
 exact this _ _ h
def aDa{c:O3}{j:Nat}(h:j<c.length):xA (c.drop j)=c[j]+256*xA (c.drop (j+1)):=by rw[Kc h];rfl
def Cq{w:Nat}(h:w<PP):(Value.int .u64 (w:Int))=fu (Fin.ofNat PP w):=by rw[fu,Qv w h]
def Ug (b:O3) (K:xN b) (T:b.length<=100000000):aA PQ G Bo [.ls 1 (bl b)] [] λr S=>r=.own 0/\S=[some (.arr 1 (ul (eN b)))]:=by
 apply aC N6;simp only[go_sem];refine cO (λn s=>∃(i:Nat)(A:O3),n=b.length+7-i/\i<=b.length+6/\A.length<=i/\A++eN (b.drop i)=eN b/\s=⟨0,[(0,.ls 1 (bl b)),(3,.own 0),(4,iv i)],[some (.arr 1 (ul A))]⟩) (b.length+7) ⟨0,[],o_,o_,cN _,k_,?_⟩ ?_;simp only[go_sem];rintro n s ⟨i,A,rfl,V,hA,t,rfl⟩;by_cases k:i<b.length;obtain⟨e,I,H,F,E⟩:∃e:Nat,i<e/\e<=b.length/\e<=i+7/\e=min b.length (i+7):=⟨min b.length (i+7),o_,o_,o_,rfl⟩
 have q:IntKind.i64.wrap ((i:Int)+7)=((i+7:Nat):Int):=d_;have z:(if((i+7:Nat):Int)<(b.length:Int) then((i+7:Nat):Int) else(b.length:Int))=(e:Int):=so;have y:IntKind.i64.wrap ((e:Int)-1)=(e:Int)-1:=aJ o_ o_;have J:((b.drop i).take (e-i)).length=e-i:=f_;have f:xN ((b.drop i).take (e-i)):=uU (Ih K i) _;have l:xA ((b.drop i).take 7)=xA ((b.drop i).take (e-i)):=m_;have d:∀j(h:j<((b.drop i).take (e-i)).length),(bl b)[i+j]?=some [.v (.int .u8 ((((b.drop i).take (e-i))[j]:Nat):Int))]:=λj h=>m_;generalize(b.drop i).take (e-i)=c at J f l d;have a:=FV (b:=b.drop i) (λh=>by have:=congrArg List.length h;simp at this;omega);rw[l,Kg]at a;rw[a]at t;simp only[go_sem,aP,aT k,q,z,y];refine jG (λs=>s=⟨0,[(0,.ls 1 (bl b)),(3,.own 0),(4,iv i),(5,.v (.int .u64 ((xA c:Nat):Int)))],[some (.arr 1 (ul A))]⟩) ?_ ?_;refine cO (λn s=>∃j:Nat,n=j/\j<=e-i/\s=⟨0,[(0,.ls 1 (bl b)),(3,.own 0),(4,iv i),(5,.v (.int .u64 ((xA (c.drop j):Nat):Int))),(6,iv (((i+j:Nat):Int)-1))],[some (.arr 1 (ul A))]⟩) (e-i) ⟨e-i,rfl,cN _,?_⟩ ?_;have M:xA (c.drop (e-i))=0:=by rw[LB o_];rfl
 simp only[go_sem,M,(o_:i+(e-i)=e)];rintro n s ⟨j,rfl,U,rfl⟩
 cases n with
 |zero=>
  have m:decide ((i:Int)<=(i:Int)-1)=false:=decide_eq_false o_;simp only[go_sem,ge_iff_le,m]
 |succ j=>
  have g:j<c.length:=o_;have O:((i+(j+1):Nat):Int)-1=((i+j:Nat):Int):=o_;have m:decide ((i:Int)<=((i+j:Nat):Int))=true:=decide_eq_true o_;have L:=OJ (Ih f (j+1));have p:xA (c.drop (j+1))<281474976710656:=CV L (uR (Gl s_ (f_:(c.drop (j+1)).length<=6)) s_);have D:=f c[j] (eQ g);have u:=aDa g;have w:=d j g;have N:IntKind.i64.wrap (((i+j:Nat):Int)-1)=((i+j:Nat):Int)-1:=aJ o_ o_;generalize c[j]=x at D u w;generalize xA (c.drop (j+1))=W at p u;have C:bV .mul (.int .u64 (W:Int)) (.int .u64 256)=some (.int .u64 ((W*256:Nat):Int)):=lE W 256 o_;have R:bV .add (.int .u64 ((W*256:Nat):Int)) (.int .u64 (x:Int))=some (.int .u64 ((W*256+x:Nat):Int)):=eY _ _ o_;have B:IntKind.u64.wrap (x:Int)=(x:Int):=bS x o_;have o:W*256+x=xA (c.drop j):=o_;simp only[O];simp only[go_sem,ge_iff_le,m,w,B,↓C,↓R,N];exact⟨j,o_,j,rfl,o_,by rw[o]⟩
 rintro s rfl;have Q:(A.length+1)*8<=140737488355328:=o_;have P:A.length+1<=maxLen:=g_;simp only[go_sem,aP,Q,P,q];exact⟨b.length+7-(i+7),o_,i+7,A++[xA c],o_,o_,f_,by rw[lq2];exact t,by simp only[ul,bZ,fG,uP]⟩;simp only[go_sem,aP,aS k];have:eN (b.drop i)=[]:=by rw[LB o_];rfl
 simp_all
theorem GF(w:Fq):∀(l:List Fq)(s:Fq)(k:Nat),Dn s k (l++[w])=nG (Dn s k l) w (k+l.length+1)|[],s,k=>rfl|x::l,s,k=>by rw[jC,Dn,Dn,GF w l];congr 1;simp;omega
def Uh(a b:O3):List Fq:=(eN a++b.length::b++[0]).map (Fin.ofNat PP)
def FW(a b:O3):Fq:=Dn (Fin.ofNat PP a.length) 0 (Uh a b)
def aDb{l:O3}(h:∀w∈l,w<PP):ul l=fl (l.map (Fin.ofNat PP)):=by simp only[ul,fl,rI];refine LD λw a=>?_;simp only[Function.comp,Cq (h w a)]
def aDc (S:ByteArray) (a b:O3) (I:lJ S=bl a) (g:S.size=a.length) (s:xN a) (Q:a.length<=1000) (P:∀n∈b,n<2^64) (E:b.length<=10000000):aA PQ G E8 [.v (.string S),.ls 1 (ul b)] [] λr O=>r=.v (fu (FW a b))/\O=[]:=by
 apply aC UO;have D:=J1 s;have C:=Hc a;have F:a.length<=maxLen:=g_;have u:IntKind.u64.wrap (b.length:Int)=(b.length:Int):=bS _ o_;have t:IntKind.u64.wrap (a.length:Int)=(a.length:Int):=bS _ o_;simp only[go_sem,I,g,F];apply aBF (Ug a s o_);have m:((eN a).length+1)*8<=140737488355328:=o_;have k:(eN a).length+1<=maxLen:=g_;simp only[go_sem,aP,m,k,u];have N:ul (eN a)++[[AV.v (.int .u64 (b.length:Int))]]=fl ((eN a++[b.length]).map (Fin.ofNat PP)):=by rw[<-aDb (l:=eN a++[b.length])];simp;intro w h;rcases cG.1 h with h|h;exact QQ (D w h) s_;rw[aE5.1 h];show _<2305843009213693951;omega
 rw[N];have H:((eN a++[b.length]).map (Fin.ofNat PP):List Fq).length<=1001:=f_;have j:Uh a b=(eN a++[b.length]).map (Fin.ofNat PP)++(b.map (Fin.ofNat PP)++[0]):=by unfold Uh;simp
 unfold FW;rw[j];generalize(eN a++[b.length]).map (Fin.ofNat PP)=W at H;refine aQ b.length (λi=>⟨0,[(0,.v (.string S)),(1,.ls 1 (ul b)),(5,.own 0),(6,iv i)],[some (.arr 1 (fl (W++(b.take i).map (Fin.ofNat PP))))]⟩) (λ_=>True) ?_ trivial ?_ ?_;simp only[go_sem];intro i e _;have K:(ul b)[i]?=some [.v (.int .u64 ((b[i]:Nat):Int))]:=e_;have A:(Value.int .u64 ((b[i]%2305843009213693951:Nat):Int))=fu (Fin.ofNat PP b[i]):=rfl;have m:(W.length+min i b.length+1)*8<=140737488355328:=o_;have k:W.length+min i b.length+1<=maxLen:=g_;have g:fl (W++(b.take i).map (Fin.ofNat PP))++[[.v (fu (Fin.ofNat PP b[i]))]]=fl (W++(b.take (i+1)).map (Fin.ofNat PP)):=by rw[lq8 e];simp only[fl,bZ,fG,uP,lq2]
 have c:(fl (W++(b.take i).map (Fin.ofNat PP))).length=W.length+min i b.length:=by simp[fl]
 generalize fl (W++(b.take i).map (Fin.ofNat PP))=X at g c;simp only[go_sem,aP,aT e,K,↓aPd,A,c,m,k,fQ i o_,g];intro _;rw[dE];have m:(W.length+b.length+1)*8<=140737488355328:=o_;have k:W.length+b.length+1<=maxLen:=g_;have f:fl (W++b.map (Fin.ofNat PP))++[[.v (.int .u64 0)]]=fl (W++(b.map (Fin.ofNat PP)++[0])):=k_;have c:(fl (W++b.map (Fin.ofNat PP))).length=W.length+b.length:=by simp[fl]
 have J:(W++(b.map (Fin.ofNat PP)++[0])).length=W.length+b.length+1:=f_;generalize W++(b.map (Fin.ofNat PP)++[0])=L at f J;generalize fl (W++b.map (Fin.ofNat PP))=X at f c;have B:(Value.int .u64 (a.length:Int))=fu (Fin.ofNat PP a.length):=Cq S_;simp only[go_sem,aP,aS (bP _),c,m,k,f,g,t,B];refine aQ L.length (λi=>⟨0,[(5,.own 0),(7,.v (fu (Dn (Fin.ofNat PP a.length) 0 (L.take i)))),(8,iv i)],[some (.arr 1 (fl L))]⟩) (λ_=>True) ?_ trivial ?_ ?_;rfl;intro i e _;have d:nG (Dn (Fin.ofNat PP a.length) 0 (L.take i)) L[i] (i+1)=Dn (Fin.ofNat PP a.length) 0 (L.take (i+1)):=by rw[lq8 e,GF];congr 1;simp;omega
 unfold nG at d;have p:=aI0 L i e;have o:=fQ i o_;have q:IntKind.u64.wrap ((i+1:Nat):Int)=((i+1:Nat):Int):=bS _ o_;have M:(Value.int .u64 ((i+1:Nat):Int))=fu (Fin.ofNat PP (i+1)):=Cq S_;generalize Dn (Fin.ofNat PP a.length) 0 (L.take i)=x at d;generalize Dn (Fin.ofNat PP a.length) 0 (L.take (i+1))=z at d;generalize L[i]=y at d p;simp only[go_sem,aP,aT e,p,e,o,q];apply cX (Ue 37 x);simp only[go_sem,aP,p,e,o,q,M];apply cX (aH2 y (Fin.ofNat PP (i+1)));simp only[go_sem];apply cX (aH2 (37*x) (y+Fin.ofNat PP (i+1)));simp only[go_sem];apply cX (Uf _ 17 s_);simp only[go_sem,o,d];intro _;rw[dE];simp only[go_sem,aP,aS (bP _)]
end Hud
namespace Hud
set_option maxRecDepth 99999
open Go
def Sc:=eVf (cF F7 [])
def LX:=eVf (cF zY [])
def Sd:=eVf (cF AW [])
def Pv:=eVf (cF HN [])
def Wz:=eVf (cF MA [])
def OK:=eVf (cF E6 [])
def W0:=eVf (cF MB [])
def OL:=eVf (cF kY [])
def OM:=eVf (cF qS [(2,none,1)])
def Se:=eVf (cF uH [(2,none,1),(3,none,1)])
def LY:=eVf (cF iM [])
def ON:=eVf (cF E4 [])
def OO:=eVf (cF Bl [])
def Pw:=eVf (cF DU [])
end Hud
namespace Hud
open Go
def Do:Nat->Nat->O3|0,k=>[k]|n+1,k=>if 127<k then(k%128+128)::Do n (k/128) else [k]
def gJ(k:Nat):O3:=Do 9 k
def W3(n:Int):Nat:=if n<0 then(2*(-(n+1))+1).toNat else(2*n).toNat
def OP{n:Int}(a:-9223372036854775808<=n)(h2:n<=2^63-1):W3 n<2^64:=by grind[W3]
def bN(n:Int):O3:=gJ (W3 n)
def Y7:∀(n k:Nat),k<2*128^n->xN (Do n k)|0,k,h=>λx a=>by simp[Do]at a;subst a;simp at h;omega| n+1,k,h=>by simp only[Do];split;intro x a;rcases cS.1 a with rfl|a;omega;exact Y7 n (k/128) dH x a;intro x a;simp_all;omega
def Ui:∀(n k:Nat),(Do n k).length<=n+1|0,k=>by simp[Do]|n+1,k=>by simp only[Do];split;have:=Ui n (k/128);simp;omega;simp
def GG{k:Nat}(h:k<2^64):xN (gJ k):=Y7 9 k o_
def iP(k:Nat):(gJ k).length<=10:=Ui 9 k
def GI(x:Nat)(h:x<256):IntKind.u8.wrap (x:Int)=(x:Int):=by simp[IntKind.wrap,IntKind.bits,IntKind.signed];omega
section
variable{G:L_}
def Qx (k:Nat) (q:k<2^64):aA PQ G uH [.v (.int .u64 (k:Int))] [] λr p=>r=.own 0/\p=[some (.arr 1 (bl (gJ k)))]:=by
 apply aC Se;simp only[go_sem];refine jG (λs=>∃(A:O3)(j:Nat),A++[j]=gJ k/\j<=127/\s=⟨0,[(0,.v (.int .u64 (j:Int))),(3,.own 0)],[some (.arr 1 (bl A))]⟩) ?_ ?_;refine cO (λm s=>∃(A:O3)(j:Nat),A++Do m j=gJ k/\j<2*128^m/\A.length+m<=9/\s=⟨0,[(0,.v (.int .u64 (j:Int))),(3,.own 0)],[some (.arr 1 (bl A))]⟩) 9 ⟨[],k,rfl,o_,s_,?_⟩ ?_;simp only[go_sem];rintro m s ⟨A,j,hA,f,d,rfl⟩;by_cases c:127<j
 cases m with
 |zero=>simp at f;omega|succ m=>
  have e:j<2^64:=CV f (uR (YF 2 (Gl s_ (o_:m+1<=9))) s_);have b:decide ((j:Int)>127)=true:=decide_eq_true o_;have l:bV .rem (.int .u64 (j:Int)) (.int .u64 128)=some (.int .u64 ((j%128:Nat):Int)):=mD j 128 s_;have n:bV .quo (.int .u64 (j:Int)) (.int .u64 128)=some (.int .u64 ((j/128:Nat):Int)):=Cp j 128 s_ e;have a:IntKind.u8.wrap ((j%128:Nat):Int)=((j%128:Nat):Int):=GI _ o_;have i:IntKind.u8.wrap (((j%128:Nat):Int)+128)=((j%128+128:Nat):Int):=GI (j%128+128) o_;have o:A.length+1<=140737488355328:=o_;have h:A.length+1<=maxLen:=g_;have g:(A.length+1)*1<=140737488355328:=o_;simp only[go_sem,aP,b,↓l,↓n,a,i,h,g];refine⟨m,o_,A++[j%128+128],j/128,?_,?_,?_,?_⟩;simp_all[hA,Do,lq2];omega;simp;omega;simp
 have b:decide ((j:Int)>127)=false:=decide_eq_false o_;simp only[go_sem,b];refine⟨A,j,?_,o_,rfl⟩;rw[<-hA]
 cases m with
 |zero=>rfl|succ m=>rw[Do,if_neg c]
 rintro s ⟨A,j,hA,f,rfl⟩;have d:=iP k;rw[<-hA]at d;simp at d;have a:IntKind.u8.wrap (j:Int)=(j:Int):=GI _ o_;have h:A.length+1<=maxLen:=g_;have g:(A.length+1)*1<=140737488355328:=o_;have o:A.length+1<=140737488355328:=o_;rw[<-hA];simp only[go_sem,aP,a,h,g,bZ,fG,uP]
def vI(n:Int)(h:-9223372036854775808<=n)(h2:n<=2^63-1):aA PQ G iM [iv n] [] λr j=>r=.own 0/\j=[some (.arr 1 (bl (bN n)))]:=by
 apply aC LY;have k:=OP h h2;unfold bN;simp only[go_sem];by_cases e:n<0;obtain⟨m,rfl,l⟩:∃m:Nat,n=-((m:Int)+1)/\m<=(2^63-1):=⟨(-(n+1)).toNat,o_,o_⟩
 have c:decide (-((m:Int)+1)<0)=true:=decide_eq_true e;have g:IntKind.i64.wrap (-((m:Int)+1)+1)=-(m:Int):=d_;have f:IntKind.i64.wrap (0 - -(m:Int))=(m:Int):=d_;have b:IntKind.u64.wrap (m:Int)=(m:Int):=bS m o_;have d:bV .mul (.int .u64 (m:Int)) (.int .u64 2)=some (.int .u64 ((m*2:Nat):Int)):=lE m 2 o_;have i:bV .add (.int .u64 ((m*2:Nat):Int)) (.int .u64 1)=some (.int .u64 ((m*2+1:Nat):Int)):=eY (m*2) 1 o_;have a:W3 (-((m:Int)+1))=m*2+1:=by grind[W3]
 rw[a];simp only[go_sem,c,g,f,b,↓d,↓i];apply aBF (Qx (m*2+1) o_);simp only[go_sem];obtain⟨m,rfl⟩:∃m:Nat,n=(m:Int):=⟨n.toNat,o_⟩
 have c:decide ((m:Int)<0)=false:=decide_eq_false e;have b:IntKind.u64.wrap (m:Int)=(m:Int):=bS m o_;have d:bV .mul (.int .u64 (m:Int)) (.int .u64 2)=some (.int .u64 ((m*2:Nat):Int)):=lE m 2 o_;have a:W3 (m:Int)=m*2:=by grind[W3]
 rw[a];simp only[go_sem,c,b,↓d];apply aBF (Qx (m*2) o_);simp only[go_sem]
def bX(n:Int):(bN n).length<=10:=iP _
def Dp{n:Int}(a:-9223372036854775808<=n)(h2:n<=2^63-1):xN (bN n):=GG (OP a h2)
def idB(a b:Int)(c:Nat):O3:=bN a++bN b++gJ c
def aFw(a b:Int)(c:Nat)(g:-9223372036854775808<=a)(f:a<=2^63-1)(e:-9223372036854775808<=b)(d:b<=2^63-1)(h:c<2^64):
 aA PQ G qS [.ag [iv a,iv b,.v (.int .u64 (c:Int))]] [] λr m=>r=.own 0/\m=[some (.arr 1 (bl (idB a b c)))]:=by
 apply aC OM;have p:=bX a;have o:=bX b;have n:=iP c;have t:(bl (bN a)).length=(bN a).length:=k_;have s:(bl (bN b)).length=(bN b).length:=k_;have q:(bl (gJ c)).length=(gJ c).length:=k_;simp only[go_sem];apply aBF (vI a g f);simp only[go_sem];apply aBF (vI b e d);have w:(bN a).length+(bN b).length<=140737488355328:=o_;have l:(bN a).length+(bN b).length<=maxLen:=g_;have k:((bN a).length+(bN b).length)*1<=140737488355328:=o_;simp only[go_sem,aP,l,k];apply aBF (Qx c h);have u:(bN a).length+(bN b).length+(gJ c).length<=140737488355328:=o_;have j:(bN a).length+(bN b).length+(gJ c).length<=maxLen:=g_;have i:((bN a).length+(bN b).length+(gJ c).length)*1<=140737488355328:=o_;simp only[go_sem,aP,dZ,j,i,idB,bl,bZ]
def Uj(a b:O3):Fq:=FW a (eN b++[b.length])
def Uk(S:ByteArray)(a b:O3)(j:lJ S=bl a)(f:S.size=a.length)(i:xN a)(g:a.length<=1000)(c:xN b)(h:b.length<=1000000):aA PQ G Bl [.v (.string S),.ls 1 (bl b)] [] λr o=>r=.v (fu (Uj a b))/\o=[]:=by
 apply aC OO;have e:=Hc b;have p:=J1 c;have d:IntKind.u64.wrap (b.length:Int)=(b.length:Int):=bS _ o_;have m:(eN b).length+1<=maxLen:=g_;have l:((eN b).length+1)*8<=140737488355328:=o_;simp only[go_sem];apply aBF (Ug b c o_);have k:ul (eN b)++[[AV.v (.int .u64 (b.length:Int))]]=ul (eN b++[b.length]):=k_;simp only[go_sem,aP,d,m,l];rw[k];refine iJ (aB _) rfl rfl (aDc S a (eN b++[b.length]) j f i g (λn q=>?_) f_) ?_;grind;simp only[go_sem];rfl
def Px(a b:O3):Nat:=1+(FW a b).val%2305843009213693949
def Sf(a b:O3):1<=Px a b/\Px a b<=2305843009213693949:=by unfold Px;omega
def Qy(S:ByteArray)(a b:O3)(j:lJ S=bl a)(f:S.size=a.length)(i:xN a)(h:a.length<=1000)(g:∀n∈b,n<2^64)(c:b.length<=10000000):aA PQ G zY [.v (.string S),.ls 1 (ul b)] [] λr l=>r=.v (.int .u64 ((Px a b:Nat):Int))/\l=[]:=by refine aC LX ?_;have d:=Sf a b;have e:bV .rem (fu (FW a b)) (.int .u64 2305843009213693949)=some (.int .u64 (((FW a b).val%2305843009213693949:Nat):Int)):=mD _ 2305843009213693949 s_;have k:bV .add (.int .u64 1) (.int .u64 (((FW a b).val%2305843009213693949:Nat):Int))=some (.int .u64 ((Px a b:Nat):Int)):=eY 1 _ (by unfold Px at d;omega);simp only[go_sem];apply cX (aDc S a b j f i h g c);simp only[go_sem,↓e,↓k]
end
end Hud
namespace Hud
set_option maxRecDepth 99999
open Go
def LZ:=eVf (cF zZ [])
def Gd:=eVf (cF rQ [(2,none,1)])
def Bx:=eVf (cF cD [])
def Bz:=eVf (cF fD [])
def Ge:=eVf (cF fL [])
def La:=eVf (cF DX [])
def OQ:=eVf (cF FA [])
def I2:=eVf (cF Ap [])
def OR:=eVf (cF E9 [])
def Hd:=eVf (cF tO [])
end Hud
namespace Hud
open Go
variable{G:L_}
def aK9:∀x,x<256->x ||| 128=x%128+128:=ox
def Ul(x:Nat)(a:x<256):bV .or (.int .u8 (x:Int)) (.int .u8 128)=some (.int .u8 ((x%128+128:Nat):Int)):=by
 have b:(BitVec.ofInt IntKind.u8.bits (x:Int) ||| BitVec.ofInt IntKind.u8.bits 128).toNat=x%128+128:=by
  have d:(BitVec.ofInt 8 (x:Int)).toNat=x:=e_;have c:(BitVec.ofInt 8 (128:Int)).toNat=128:=s_;show(BitVec.ofInt 8 (x:Int) ||| BitVec.ofInt 8 (128:Int)).toNat=x%128+128;rw[BitVec.toNat_or,d,c,aK9 x a]
 simp only[bV,if_true,b];rw[GI _ o_]
def Qz(x:Nat)(a:x<2^64):bV .shr (.int .u64 (x:Int)) (.int .u64 7)=some (.int .u64 ((x/128:Nat):Int)):=by
 have h2:(x:Int).fdiv (2^(min (7:Int).toNat IntKind.u64.bits))=((x/128:Nat):Int):=by show(x:Int).fdiv 128=_;grind
 grind[bV]
def I3 (A:O3) (k:Nat) (hA:A.length<=1000000) (z:k<2^64):aA PQ G fD [.ptr 0 0,.v (.int .u64 (k:Int))] [some (.box [.own 1]),some (.arr 1 (bl A))] λr y=>y=[some (.box [.own 2]),none,some (.arr 1 (bl (A++gJ k)))]:=by
 apply aC Bz;simp only[go_sem];refine jG (λs=>∃(B:O3)(j:Nat),B++[j]=A++gJ k/\j<=127/\B.length<=A.length+9/\(s=⟨2,[(0,.ptr 0 0),(1,.v (.int .u64 (j:Int)))],[some (.box [.own 1]),some (.arr 1 (bl B))]⟩\/s=⟨2,[(0,.ptr 0 0),(1,.v (.int .u64 (j:Int)))],[some (.box [.own 2]),none,some (.arr 1 (bl B))]⟩)) ?_ ?_;refine cO (λm s=>∃(B:O3)(j:Nat),B++Do m j=A++gJ k/\j<2*128^m/\B.length+m<=A.length+9/\m<=9/\(s=⟨2,[(0,.ptr 0 0),(1,.v (.int .u64 (j:Int)))],[some (.box [.own 1]),some (.arr 1 (bl B))]⟩\/s=⟨2,[(0,.ptr 0 0),(1,.v (.int .u64 (j:Int)))],[some (.box [.own 2]),none,some (.arr 1 (bl B))]⟩)) 9 ⟨A,k,rfl,o_,o_,o_,.inl ?_⟩ ?_;simp only[go_sem];rintro m s ⟨B,j,o,i,t,q,a⟩;by_cases g:127<j
 cases m with
 |zero=>simp at i;omega|succ m=>
  have h:j<2^64:=CV i (uR (YF 2 (Gl s_ (o_:m+1<=9))) s_);have c:decide ((128:Int)<=(j:Int))=true:=decide_eq_true o_;have b:IntKind.u8.wrap (j:Int)=((j%256:Nat):Int):=K_;have f:=Ul (j%256) o_;have w:j%256%128+128=j%128+128:=o_;rw[w]at f;have n:=Qz j h;have e:B.length+1<=maxLen:=g_;have d:(B.length+1)*1<=140737488355328:=o_;have x:B.length+1<=140737488355328:=o_;have l:B++[j%128+128]++Do m (j/128)=A++gJ k:=by grind[Do,List.append_assoc]
  have p:j/128<2*128^m:=o_;have u:bl B++[U8 (j%128+128)]=bl (B++[j%128+128]):=k_;rcases a with rfl|rfl;simp only[go_sem,aP,ge_iff_le,c,b,↓f,↓n,e,d];grind;simp only[go_sem,aP,ge_iff_le,c,b,↓f,↓n,e,d];grind
 have c:decide ((128:Int)<=(j:Int))=false:=decide_eq_false o_;have l:B++[j]=A++gJ k:=by
  rw[<-o]
  cases m with
  |zero=>rfl|succ m=>rw[Do,if_neg g]
 rcases a with rfl|rfl;simp only[go_sem,ge_iff_le,c];grind;simp only[go_sem,ge_iff_le,c];grind;rintro s ⟨B,j,o,i,t,a⟩;have b:IntKind.u8.wrap (j:Int)=(j:Int):=GI _ o_;have e:B.length+1<=maxLen:=g_;have d:(B.length+1)*1<=140737488355328:=o_;have x:B.length+1<=140737488355328:=o_;have u:bl B++[U8 j]=bl (B++[j]):=k_;rcases a with rfl|rfl;simp only[go_sem,aP,b,e,d];simp_all;simp only[go_sem,aP,b,e,d];simp_all
theorem aKa(n:Int):IntKind.u64.wrap n=n%2^64:=K_
def aDd(a:Nat)(b:a<2^64):(BitVec.ofInt 64 (a:Int) ^^^ BitVec.ofInt 64 18446744073709551615).toNat=18446744073709551615-a:=by
 have e:BitVec.ofInt 64 18446744073709551615=BitVec.allOnes 64:=s_;rw[e,BitVec.xor_allOnes,BitVec.toNat_not];simp_all;omega
def aDe (n:Int) (l:-9223372036854775808<=n) (h2:n<=2^63-1):aA PQ G FA [iv n] [] λr p=>r=.v (.int .u64 ((W3 n:Nat):Int))/\p=[]:=by
 apply aC OQ;have q:=OP l h2;by_cases k:n<0;obtain⟨a,s,i⟩:∃a:Nat,n*2%2^64=(a:Int)/\W3 n=18446744073709551615-a:=⟨(18446744073709551616+2*n).toNat,o_,by unfold W3;rw[if_pos k];omega⟩
 have j:IntKind.u64.wrap n=n+18446744073709551616:=by rw[aKa];omega
 have f:bV .shl (.int .u64 (n+18446744073709551616)) (.int .u64 1)=some (.int .u64 (a:Int)):=by
  have c:¬(1:Int)<0:=s_;have b:(n+18446744073709551616)*2^(min (1:Int).toNat IntKind.u64.bits)=n*2+36893488147419103232:=by show(n+18446744073709551616)*2=_;omega
  grind[bV,aKa]
 have e:bV .shr (.int .i64 n) (.int .u64 63)=some (.int .i64 (-1)):=by
  have c:¬(63:Int)<0:=s_;have b:n.fdiv (2^(min (63:Int).toNat IntKind.i64.bits))=-1:=by show n.fdiv 9223372036854775808=-1;grind
  grind[bV]
 have o:IntKind.u64.wrap (-1)=18446744073709551615:=s_;have d:bV .xor (.int .u64 (a:Int)) (.int .u64 18446744073709551615)=some (.int .u64 ((W3 n:Nat):Int)):=by have h:(BitVec.ofInt IntKind.u64.bits (a:Int) ^^^ BitVec.ofInt IntKind.u64.bits 18446744073709551615).toNat=18446744073709551615-a:=aDd a o_;simp only[bV,if_true,h];rw[bS _ o_,i]
 simp only[go_sem,j,↓f,↓e,o,↓d];obtain⟨m,rfl⟩:∃m:Nat,n=(m:Int):=⟨n.toNat,o_⟩
 have g:W3 (m:Int)=m*2:=by grind[W3]
 have j:IntKind.u64.wrap (m:Int)=(m:Int):=bS m o_;have f:bV .shl (.int .u64 (m:Int)) (.int .u64 1)=some (.int .u64 ((m*2:Nat):Int)):=by
  have c:¬(1:Int)<0:=s_;have b:(m:Int)*2^(min (1:Int).toNat IntKind.u64.bits)=((m*2:Nat):Int):=K_;simp only[bV,c,if_false,b];rw[bS _ o_]
 have e:bV .shr (.int .i64 (m:Int)) (.int .u64 63)=some (.int .i64 0):=by
  have c:¬(63:Int)<0:=s_;have b:(m:Int).fdiv (2^(min (63:Int).toNat IntKind.i64.bits))=0:=by show(m:Int).fdiv 9223372036854775808=0;grind
  grind[bV]
 have d:bV .xor (.int .u64 ((m*2:Nat):Int)) (.int .u64 0)=some (.int .u64 ((m*2:Nat):Int)):=by
  have h:(BitVec.ofInt IntKind.u64.bits ((m*2:Nat):Int) ^^^ BitVec.ofInt IntKind.u64.bits 0).toNat=m*2:=by show(BitVec.ofInt 64 ((m*2:Nat):Int) ^^^ BitVec.ofInt 64 0).toNat=m*2;simp_all;omega
  simp only[bV,if_true,h];rw[bS _ o_]
 rw[g];simp only[go_sem,j,↓f,↓e,↓d]
def zD(A:O3)(n:Int)(hA:A.length<=1000000)(a:-9223372036854775808<=n)(h2:n<=2^63-1):aA PQ G cD [.ptr 0 0,iv n] [some (.box [.own 1]),some (.arr 1 (bl A))] λr b=>b=[some (.box [.own 2]),none,some (.arr 1 (bl (A++bN n)))]:=by refine aC Bx ?_;simp only[go_sem];apply cX (aDe n a h2);simp only[go_sem];apply aG [0,1] (aB _) s_ k_ rfl rfl (I3 A (W3 n) hA (OP a h2));rintro r b rfl;simp only[go_sem];rfl
def aFx(A:O3)(a b:Int)(c:Nat)(hA:A.length<=900000)(h:-9223372036854775808<=a)(g:a<=2^63-1)(f:-9223372036854775808<=b)(e:b<=2^63-1)(i:c<2^64):
 aA PQ G fL [.ptr 0 0,.ag [iv a,iv b,.v (.int .u64 (c:Int))]] [some (.box [.own 1]),some (.arr 1 (bl A))] λr d=>d=[some (.box [.own 2]),none,some (.arr 1 (bl (A++idB a b c)))]:=by
 apply aC Ge;have k:=bX a;have j:=bX b;simp only[go_sem];apply aG [0,1] (aB _) s_ k_ rfl rfl (zD A a o_ h g);rintro r d rfl;simp only[go_sem];rw[<-bZ];apply aG [0,3] (aB _) s_ k_ rfl rfl (zD (A++bN a) b f_ f e);rintro r d rfl;simp only[go_sem];rw[<-bZ,<-bZ];apply aG [0,4] (aB _) s_ k_ rfl rfl (I3 (A++bN a++bN b) c f_ i);rintro r d rfl;simp only[go_sem,idB,lq2]
def aDf(A:O3)(S:ByteArray)(b:O3)(f:lJ S=bl b)(a:S.size=b.length)(hA:A.length<=900000)(h:b.length<=1000000):aA PQ G tO [.ptr 0 0,.v (.string S)] [some (.box [.own 1]),some (.arr 1 (bl A))] λr e=>e=[some (.box [.own 2]),none,some (.arr 1 (bl (A++(bN (b.length:Int)++b))))]:=by
 apply aC Hd;have g:=bX (b.length:Int);have d:(A++bN (b.length:Int)).length+b.length<=140737488355328:=c_;have c:(A++bN (b.length:Int)).length+b.length<=maxLen:=by rw[dZ];unfold maxLen;omega
 simp only[go_sem,a];apply aG [0,1] (aB _) s_ k_ rfl rfl (zD A (b.length:Int) o_ o_ o_);rintro r e rfl;rw[dZ]at d c;simp only[go_sem,aP,dZ,a,f,d,c,bZ,lq2]
def aI1 (k:Nat) (z:k<2^64):aA PQ G fD [.ptr 0 0,.v (.int .u64 (k:Int))] [some (.box [.v (.slice none 0 0)])] λr y=>y=[some (.box [.own 1]),some (.arr 1 (bl (gJ k)))]:=by
 apply aC Bz;simp only[go_sem];refine jG (λs=>∃(B:O3)(j:Nat),B++[j]=gJ k/\j<=127/\B.length<=9/\((B=[]/\s=⟨1,[(0,.ptr 0 0),(1,.v (.int .u64 (j:Int)))],[some (.box [.v (.slice none 0 0)])]⟩)\/s=⟨1,[(0,.ptr 0 0),(1,.v (.int .u64 (j:Int)))],[some (.box [.own 1]),some (.arr 1 (bl B))]⟩)) ?_ ?_;refine cO (λm s=>∃(B:O3)(j:Nat),B++Do m j=gJ k/\j<2*128^m/\B.length+m<=9/\m<=9/\((B=[]/\s=⟨1,[(0,.ptr 0 0),(1,.v (.int .u64 (j:Int)))],[some (.box [.v (.slice none 0 0)])]⟩)\/s=⟨1,[(0,.ptr 0 0),(1,.v (.int .u64 (j:Int)))],[some (.box [.own 1]),some (.arr 1 (bl B))]⟩)) 9 ⟨[],k,rfl,o_,s_,o_,.inl ⟨rfl,?_⟩⟩ ?_;simp only[go_sem];rintro m s ⟨B,j,h,g,t,q,a⟩;by_cases e:127<j
 cases m with
 |zero=>simp at g;omega|succ m=>
  have f:j<2^64:=CV g (uR (YF 2 (Gl s_ (o_:m+1<=9))) s_);have c:decide ((128:Int)<=(j:Int))=true:=decide_eq_true o_;have b:IntKind.u8.wrap (j:Int)=((j%256:Nat):Int):=K_;have d:=Ul (j%256) o_;have w:j%256%128+128=j%128+128:=o_;rw[w]at d;have o:=Qz j f;have n:B.length+1<=maxLen:=g_;have l:(B.length+1)*1<=140737488355328:=o_;have x:B.length+1<=140737488355328:=o_;have i:B++[j%128+128]++Do m (j/128)=gJ k:=by grind[Do,List.append_assoc]
  have p:j/128<2*128^m:=o_;have u:bl B++[U8 (j%128+128)]=bl (B++[j%128+128]):=k_;rcases a with⟨rfl,rfl⟩|rfl;simp only[go_sem,ge_iff_le,c,b,↓d,↓o,(s_:1<=maxLen)];grind;simp only[go_sem,aP,ge_iff_le,c,b,↓d,↓o,n,l];grind
 have c:decide ((128:Int)<=(j:Int))=false:=decide_eq_false o_;have i:B++[j]=gJ k:=by
  rw[<-h]
  cases m with
  |zero=>rfl|succ m=>rw[Do,if_neg e]
 rcases a with⟨rfl,rfl⟩|rfl;simp only[go_sem,ge_iff_le,c];grind;simp only[go_sem,ge_iff_le,c];grind;rintro s ⟨B,j,h,g,t,a⟩;have b:IntKind.u8.wrap (j:Int)=(j:Int):=GI _ o_;have n:B.length+1<=maxLen:=g_;have l:(B.length+1)*1<=140737488355328:=o_;have x:B.length+1<=140737488355328:=o_;have u:bl B++[U8 j]=bl (B++[j]):=k_;rcases a with⟨rfl,rfl⟩|rfl;rw[<-h];simp only[go_sem,b,(s_:1<=maxLen)];simp only[go_sem,aP,b,n,l];simp_all
def aI2(n:Int)(a:-9223372036854775808<=n)(h2:n<=2^63-1):aA PQ G cD [.ptr 0 0,iv n] [some (.box [.v (.slice none 0 0)])] λr b=>b=[some (.box [.own 1]),some (.arr 1 (bl (bN n)))]:=by refine aC Bx ?_;simp only[go_sem];apply cX (aDe n a h2);simp only[go_sem];apply aG [0] (aB _) s_ k_ rfl rfl (aI1 (W3 n) (OP a h2));rintro r b rfl;simp only[go_sem];rfl
def Y8(A:O3)(hA:A.length<=1000000):aA PQ G rQ [.ptr 0 0] [some (.box [.own 1]),some (.arr 1 (bl A))] λr c=>r=.own 2/\c=[some (.box [.own 1]),some (.arr 1 (bl A)),some (.arr 1 (bl A))]:=by
 apply aC Gd;have d:A.length<=140737488355328:=o_;have b:A.length<=maxLen:=g_;have a:A.length*1<=140737488355328:=o_;simp only[go_sem,aP,b,a]
def cZ(l:O4):O3:=(l.map bN).flatten
def mP(l:O3):O3:=(l.map gJ).flatten
def OS(l:O4)(x:Int):cZ (l++[x])=cZ l++bN x:=by simp[cZ]
def W4(l:O3)(x:Nat):mP (l++[x])=mP l++gJ x:=by simp[mP]
def lF:∀l:O4,(cZ l).length<=10*l.length
 |[]=>by simp[cZ]
 |x::l=>by
  have:=lF l;have h:=bX x;simp only[cZ,fG,zK,dZ,sE]at *
  omega
def AY:∀l:O3,(mP l).length<=10*l.length
 |[]=>by simp[mP]
 |x::l=>by
  have:=AY l;have h:=iP x;simp only[mP,fG,zK,dZ,sE]at *
  omega
def Sg(l:O4)(m:l.length<=1000000)(e:∀n∈l,mZ n):aA PQ G wE [rG l] [] λr j=>r=.own 0/\j=[some (.arr 1 (bl (cZ l)))]:=by
 apply aC Pc;simp only[go_sem];refine aQ l.length (λi=>⟨0,[(0,rG l),(3,.own 0),(4,iv i)],[some (.arr 1 (bl (cZ (l.take i))))]⟩) (λ_=>True) ?_ trivial ?_ ?_;simp only[go_sem];rfl;intro i a _;have f:(l.map λn=>[iv n])[i]?=some [iv l[i]]:=aO _ l i a;have b:=e l[i] (eQ a);have d:cZ (l.take (i+1))=cZ (l.take i)++bN l[i]:=by rw[lq8 a,OS]
 have c:=lF (l.take i);have k:=bX l[i];rw[d];rw[eC]at c;generalize cZ (l.take i)=X at *
 generalize l[i]=x at *
 have h:X.length+(bN x).length<=maxLen:=g_;have g:(X.length+(bN x).length)*1<=140737488355328:=o_;have o:X.length+(bN x).length<=140737488355328:=o_;simp only[go_sem,aP,aT a,f];apply aBF (vI x b.1 b.2);simp only[go_sem,aP,h,g,fQ i o_,bZ];intro _;rw[dE];simp only[go_sem,aP,aS (bP _)]
def aDg(l:O3)(m:l.length<=1000000)(e:∀n∈l,n<2^64):aA PQ G DV [.ls 1 (ul l)] [] λr j=>r=.own 0/\j=[some (.arr 1 (bl (mP l)))]:=by
 apply aC Pd;simp only[go_sem];refine aQ l.length (λi=>⟨0,[(0,.ls 1 (ul l)),(3,.own 0),(4,iv i)],[some (.arr 1 (bl (mP (l.take i))))]⟩) (λ_=>True) ?_ trivial ?_ ?_;simp only[go_sem];rfl;intro i a _;have f:(ul l)[i]?=some [.v (.int .u64 ((l[i]:Nat):Int))]:=aO _ l i a;have c:=e l[i] (eQ a);have d:mP (l.take (i+1))=mP (l.take i)++gJ l[i]:=by rw[lq8 a,W4]
 have b:=AY (l.take i);have k:=iP l[i];rw[d];rw[eC]at b;generalize mP (l.take i)=X at *
 generalize l[i]=x at *
 have h:X.length+(gJ x).length<=maxLen:=g_;have g:(X.length+(gJ x).length)*1<=140737488355328:=o_;have o:X.length+(gJ x).length<=140737488355328:=o_;simp only[go_sem,aP,aT a,f];apply aBF (Qx x c);simp only[go_sem,aP,h,g,fQ i o_,bZ];intro _;rw[dE];simp only[go_sem,aP,aS (bP _)]
def BoxM.B(b:BoxM):O3:=mP [b.To,b.Eph,b.Body,b.Tag]
def vJ(l:List BoxM):O3:=bN (l.length:Int)++(l.map BoxM.B).flatten
def I4:∀l:List BoxM,((l.map BoxM.B).flatten).length<=40*l.length
 |[]=>by simp
 |x::l=>by
  have:=I4 l;have h:x.B.length<=10*4:=AY [x.To,x.Eph,x.Body,x.Tag];simp only[fG,zK,dZ,sE]at *
  omega
def Y9(l:List BoxM)(y:l.length<=1000000)(k:∀b∈l,b.ok):aA PQ G Bm [F5 l] [] λr f=>r=.own 0/\f=[some (.arr 1 (bl (vJ l)))]:=by
 apply aC Nf;have E:=bX (l.length:Int);simp only[go_sem,aP];apply aBF (vI (l.length:Int) o_ o_);simp only[go_sem];refine aQ l.length (λi=>⟨0,[(0,F5 l),(3,.own 0),(4,iv i)],[some (.arr 1 (bl (bN (l.length:Int)++((l.take i).map BoxM.B).flatten)))]⟩) (λ_=>True) ?_ trivial ?_ ?_;simp only[go_sem,uQ,B9,jO];intro i a _;have q:(l.map BoxM.A)[i]?=some l[i].A:=aO _ l i a;have h:=k l[i] (eQ a);have j:bN (l.length:Int)++((l.take (i+1)).map BoxM.B).flatten=(bN (l.length:Int)++((l.take i).map BoxM.B).flatten)++l[i].B:=by rw[lq8 a,bZ,Kf,lq2];simp only[fG,uP,zK,B9,jO]
 have g:=I4 (l.take i);rw[eC]at g;have w:l[i].B.length<=10*4:=AY [l[i].To,l[i].Eph,l[i].Body,l[i].Tag];have u:(bN (l.length:Int)++((l.take i).map BoxM.B).flatten).length<=40000010:=dc;rw[j];generalize bN (l.length:Int)++((l.take i).map BoxM.B).flatten=X at *
 generalize l[i]=x at *
 have t:X.length+x.B.length<=maxLen:=g_;have s:(X.length+x.B.length)*1<=140737488355328:=o_;have F:X.length+x.B.length<=140737488355328:=o_;have p:(l.map BoxM.A)[i]?=some [uv x.To,uv x.Eph,uv x.Body,uv x.Tag]:=q;simp only[go_sem,aP,aT a,p];refine cH (aB _) rfl rfl (aDg [x.To,x.Eph,x.Body,x.Tag] k_ (λn d=>?_)) ?_;simp only[cS,pP,or_false]at d;obtain⟨D,h2,C,z⟩:=h;rcases d with rfl|rfl|rfl|rfl<;>assumption;rintro r f ⟨rfl,rfl⟩;refine⟨w_,by simp only[aE5,xH,forall_eq,bl,dF];rintro e ⟨n,_,rfl⟩ c m;exact⟨_,aE5.1 m⟩,?_⟩;have o:mP [x.To,x.Eph,x.Body,x.Tag]=x.B:=rfl;rw[o];simp only[go_sem,aP,t,s,fQ i o_,bZ];intro _;rw[dE];simp only[go_sem,aP,aS (bP _),vJ]
def rD(b:O3):O3:=bN (b.length:Int)++b
def aDh(S:ByteArray)(b:O3)(c:lJ S=bl b)(a:S.size=b.length)(h:b.length<=1000000):aA PQ G DU [.v (.string S)] [] λr f=>r=.own 0/\f=[some (.arr 1 (bl (rD b)))]:=by
 apply aC Pw;have g:=bX (b.length:Int);have e:(bN (b.length:Int)).length+b.length<=140737488355328:=o_;have d:(bN (b.length:Int)).length+b.length<=maxLen:=g_;simp only[go_sem,a];apply aBF (vI (b.length:Int) o_ o_);simp only[go_sem,aP,a,c,e,d,rD,bZ]
def Id.B(x:Id):O3:=idB x.a x.b x.c.toNat
def aIK{α:Type}(f:α->O3)(l:List α):O3:=bN (l.length:Int)++(l.map f).flatten
def OT{α:Type}{f:α->O3}{l:List α}{k:Nat}(h:∀x∈l,(f x).length<=k):((l.map f).flatten).length<=k*l.length:=by
 induction l with
 |nil=>simp|cons x l ih=>
  grind[List.flatten_cons,List.length_append,List.length_cons,Nat.mul_succ]
def aJa{α:Type}{f:α->O3}{l:List α}{k:Nat}(h:∀x∈l,(f x).length<=k):(aIK f l).length<=10+k*l.length:=by have a:=bX (l.length:Int);have h2:=OT h;grind[aIK,List.length_append]
def Dq{α:Type}(f:α->O3)(l:List α)(i:Nat)(h:i<l.length):((l.take (i+1)).map f).flatten=((l.take i).map f).flatten++f l[i]:=by rw[lq8 h,bZ,Kf];simp only[fG,uP,zK,B9,jO]
def AF{α:Type}{f:α->O3}{l:List α}{k:Nat}(h:∀x∈l,(f x).length<=k)(i:Nat)(b:i<=l.length):(((l.take i).map f).flatten).length<=k*l.length:=by refine uR (OT (l:=l.take i) λx a=>h x (C8 a)) (YF k ?_);simp_all
def Id.B_len(x:Id):x.B.length<=30:=by have e:=bX x.a;have h2:=bX x.b;have d:=iP x.c.toNat;grind[Id.B,idB,List.length_append]
def bsN(b:O3):ByteArray:=⟨(b.map UInt8.ofNat).toArray⟩
def FX:∀b:O3,Kp (bl b)=some (b.map UInt8.ofNat)|[]=>rfl|x::b=>by have h:=FX b;simp_all[bl,fG,Kp,nI]
def Dr{b:O3}(h:xN b):lJ (bsN b)=bl b:=by simp only[lJ,bsN,rI,bl];refine LD λx a=>?_;have:=h x a;simp_all;omega
def I5(b:O3):(bsN b).size=b.length:=by simp[bsN,ByteArray.size]
def aDi(A:O3)(l:O4)(hA:A.length<=500000)(m:l.length<=1000)(f:∀x∈l,mZ x):aA PQ G Db [.ptr 0 0,rG l,.bm cD 1 [.ptr 0 0]] [some (.box [.own 1]),some (.arr 1 (bl A))] λr b=>b=[some (.box [.own 2]),none,some (.arr 1 (bl (A++aIK bN l)))]:=by
 apply aC LP;have d:∀x∈l,(bN x).length<=10:=λx _=>bX x;have h:=bX (l.length:Int);simp only[go_sem,aP];apply aG [0,1] (aB _) s_ k_ rfl rfl (zD A (l.length:Int) o_ o_ o_);rintro r b rfl;simp only[go_sem];refine aQ l.length (λi=>⟨2,[(2,.bm cD 1 [.ptr 0 0]),(12,rG l),(13,iv l.length),(14,iv i)],[some (.box [.own 2]),none,some (.arr 1 (bl (A++(bN (l.length:Int)++((l.take i).map bN).flatten))))]⟩) (λ_=>True) ?_ trivial ?_ ?_;simp only[go_sem,uQ,B9,jO];intro i a _;have g:(l.map λn=>[iv n])[i]?=some [iv l[i]]:=aO _ l i a;have c:=f l[i] (eQ a);have o:=d l[i] (eQ a);have k:=AF d i o_;have e:A++(bN (l.length:Int)++((l.take (i+1)).map bN).flatten)=(A++(bN (l.length:Int)++((l.take i).map bN).flatten))++bN l[i]:=dh;rw[e];have j:(A++(bN (l.length:Int)++((l.take i).map bN).flatten)).length<=600000:=c_;clear e;generalize A++(bN (l.length:Int)++((l.take i).map bN).flatten)=X at *
 generalize l[i]=x at *
 simp only[go_sem,aT a,g];apply aG [0,2] (aB _) s_ k_ rfl rfl (zD X x o_ c.1 c.2);rintro r b rfl;simp only[go_sem,fQ i o_,bZ];intro _;rw[dE];simp only[go_sem,aS (bP _),aIK]
def aDj(A:O3)(l:O3)(hA:A.length<=500000)(m:l.length<=1000)(f:∀x∈l,x<2^64):aA PQ G yO [.ptr 0 0,.ls 1 (ul l),.bm fD 1 [.ptr 0 0]] [some (.box [.own 1]),some (.arr 1 (bl A))] λr b=>b=[some (.box [.own 2]),none,some (.arr 1 (bl (A++aIK gJ l)))]:=by
 apply aC HT;have c:∀x∈l,(gJ x).length<=10:=λx _=>iP x;have h:=bX (l.length:Int);simp only[go_sem,aP];apply aG [0,1] (aB _) s_ k_ rfl rfl (zD A (l.length:Int) o_ o_ o_);rintro r b rfl;simp only[go_sem];refine aQ l.length (λi=>⟨2,[(2,.bm fD 1 [.ptr 0 0]),(12,.ls 1 (ul l)),(13,iv l.length),(14,iv i)],[some (.box [.own 2]),none,some (.arr 1 (bl (A++(bN (l.length:Int)++((l.take i).map gJ).flatten))))]⟩) (λ_=>True) ?_ trivial ?_ ?_;simp only[go_sem,uQ,B9,jO];intro i a _;have g:(ul l)[i]?=some [.v (.int .u64 ((l[i]:Nat):Int))]:=aO _ l i a;have e:=f l[i] (eQ a);have n:=c l[i] (eQ a);have k:=AF c i o_;have d:A++(bN (l.length:Int)++((l.take (i+1)).map gJ).flatten)=(A++(bN (l.length:Int)++((l.take i).map gJ).flatten))++gJ l[i]:=dh;rw[d];have j:(A++(bN (l.length:Int)++((l.take i).map gJ).flatten)).length<=600000:=c_;clear d;generalize A++(bN (l.length:Int)++((l.take i).map gJ).flatten)=X at *
 generalize l[i]=x at *
 simp only[go_sem,aT a,g];apply aG [0,2] (aB _) s_ k_ rfl rfl (I3 X x o_ e);rintro r b rfl;simp only[go_sem,fQ i o_,bZ];intro _;rw[dE];simp only[go_sem,aS (bP _),aIK]
def aFy(A:O3)(x:Id)(hA:A.length<=900000)(d:x.ok):aA PQ G fL [.ptr 0 0,.ag [iv x.a,iv x.b,.v (.int .u64 x.c)]] [some (.box [.own 1]),some (.arr 1 (bl A))] λr e=>e=[some (.box [.own 2]),none,some (.arr 1 (bl (A++x.B)))]:=by have:=aFx (G:=G) A x.a x.b x.c.toNat hA d.1.1 d.1.2 d.2.1.1 d.2.1.2 (by have:=d.2.2;omega);rwa[Int.toNat_of_nonneg d.2.2.1]at this
def aFz(A:O3)(l:O6)(hA:A.length<=500000)(p:l.length<=1000)(j:∀x∈l,x.ok):aA PQ G tY [.ptr 0 0,ids l,.bm fL 1 [.ptr 0 0]] [some (.box [.own 1]),some (.arr 1 (bl A))] λr e=>e=[some (.box [.own 2]),none,some (.arr 1 (bl (A++aIK Id.B l)))]:=by
 apply aC EL;have f:∀x∈l,(Id.B x).length<=30:=λx _=>Id.B_len x;have m:=bX (l.length:Int);simp only[go_sem,aP];apply aG [0,1] (aB _) s_ k_ rfl rfl (zD A (l.length:Int) o_ o_ o_);rintro r e rfl;simp only[go_sem];refine aQ l.length (λi=>⟨2,[(2,.bm fL 1 [.ptr 0 0]),(12,ids l),(13,iv l.length),(14,iv i)],[some (.box [.own 2]),none,some (.arr 1 (bl (A++(bN (l.length:Int)++((l.take i).map Id.B).flatten))))]⟩) (λ_=>True) ?_ trivial ?_ ?_;simp only[go_sem,uQ,B9,jO];intro i d _;have k:(l.map Id.A)[i]?=some [.v (.int .i64 l[i].a),.v (.int .i64 l[i].b),.v (.int .u64 l[i].c)]:=aO _ l i d;have h:=j l[i] (eQ d);have q:=f l[i] (eQ d);have o:=AF f i o_;have g:A++(bN (l.length:Int)++((l.take (i+1)).map Id.B).flatten)=(A++(bN (l.length:Int)++((l.take i).map Id.B).flatten))++Id.B l[i]:=by rw[Dq _ l i d];simp only[lq2]
 rw[g];have n:(A++(bN (l.length:Int)++((l.take i).map Id.B).flatten)).length<=600000:=c_;clear g;generalize A++(bN (l.length:Int)++((l.take i).map Id.B).flatten)=X at *
 generalize l[i]=x at *
 simp only[go_sem,aT d,k];apply aG [0,2] (aB _) s_ k_ rfl rfl (aFy X x o_ h);rintro r e rfl;simp only[go_sem,fQ i o_,bZ];intro _;rw[dE];simp only[go_sem,aS (bP _),aIK]
def aKb(A:O3)(b:BoxM)(hA:A.length<=600000)(c:b.ok):aA PQ G kZ [.ag b.A,.ptr 0 0] [some (.box [.ptr 1 0]),some (.box [.own 2]),some (.arr 1 (bl A))] λr a=>a=[some (.box [.ptr 1 0]),some (.box [.own 3]),none,some (.arr 1 (bl (A++b.B)))]:=by
 apply aC Nm;obtain⟨f,h2,e,d⟩:=c;have k:=iP b.To;have j:=iP b.Eph;have h:=iP b.Body;have g:=iP b.Tag;simp only[go_sem,BoxM.A];refine aQ 4 (λi=>match i with|0=>⟨3,[(1,.ptr 0 0),(13,.own 3),(14,.v (.int .i64 4)),(15,.v (.int .i64 0))],[some (.box [.ptr 1 0]),some (.box [.own 2]),some (.arr 1 (bl A)),some (.arr 1 [[uv b.To],[uv b.Eph],[uv b.Body],[uv b.Tag]])]⟩|i+1=>⟨3,[(1,.ptr 0 0),(13,.own 3),(14,.v (.int .i64 4)),(15,.v (.int .i64 ((i+1:Nat):Int)))],[some (.box [.ptr 1 0]),some (.box [.own 4]),none,some (.arr 1 [[uv b.To],[uv b.Eph],[uv b.Body],[uv b.Tag]]),some (.arr 1 (bl (A++mP ([b.To,b.Eph,b.Body,b.Tag].take (i+1)))))]⟩) (λ_=>True) ?_ trivial ?_ ?_;simp only[go_sem];intro i l _;rcases i with _|_|_|_|i;simp only[go_sem];apply aG [1,2] (aB _) s_ k_ rfl rfl (I3 A b.To o_ f);rintro r a rfl;simp only[go_sem,mP,zK,B9];simp only[go_sem,mP,zK,B9];rw[<-bZ];apply aG [1,4] (aB _) s_ k_ rfl rfl (I3 (A++gJ b.To) b.Eph oc h2);rintro r a rfl;simp only[go_sem,lq2,mP,zK,B9,bZ];simp only[go_sem,mP,zK,B9];rw[<-bZ,<-bZ];apply aG [1,4] (aB _) s_ k_ rfl rfl (I3 (A++(gJ b.To++gJ b.Eph)) b.Body oc e);rintro r a rfl;simp only[go_sem,lq2,mP,zK,B9,bZ];simp only[go_sem,mP,zK,B9];rw[<-bZ,<-bZ,<-bZ];apply aG [1,4] (aB _) s_ k_ rfl rfl (I3 (A++(gJ b.To++(gJ b.Eph++gJ b.Body))) b.Tag oc d);rintro r a rfl;simp only[go_sem,lq2,mP,zK,B9,bZ];omega;intro _;simp only[go_sem,BoxM.B]
def MJ(b:BoxM):b.B.length<=40:=AY [b.To,b.Eph,b.Body,b.Tag]
def Um(A:O3)(l:List BoxM)(hA:A.length<=500000)(m:l.length<=1000)(f:∀x∈l,x.ok):aA PQ G rR [.ptr 0 0,F5 l,.cl kZ [.ptr 2 0]] [some (.box [.own 1]),some (.arr 1 (bl A)),some (.box [.ptr 0 0])] λr b=>b=[some (.box [.own 3]),none,some (.box [.ptr 0 0]),some (.arr 1 (bl (A++aIK BoxM.B l)))]:=by
 apply aC Ga;have c:∀x∈l,(BoxM.B x).length<=40:=λx _=>MJ x;have h:=bX (l.length:Int);simp only[go_sem,aP];apply aG [0,1] (aB _) s_ k_ rfl rfl (zD A (l.length:Int) o_ o_ o_);rintro r b rfl;simp only[go_sem];refine aQ l.length (λi=>⟨3,[(2,.cl kZ [.ptr 2 0]),(12,F5 l),(13,iv l.length),(14,iv i)],[some (.box [.own 3]),none,some (.box [.ptr 0 0]),some (.arr 1 (bl (A++(bN (l.length:Int)++((l.take i).map BoxM.B).flatten))))]⟩) (λ_=>True) ?_ trivial ?_ ?_;simp only[go_sem,uQ,B9,jO];intro i a _;have g:(l.map BoxM.A)[i]?=some [uv l[i].To,uv l[i].Eph,uv l[i].Body,uv l[i].Tag]:=aO _ l i a;have e:=f l[i] (eQ a);have n:=c l[i] (eQ a);have k:=AF c i o_;have d:A++(bN (l.length:Int)++((l.take (i+1)).map BoxM.B).flatten)=(A++(bN (l.length:Int)++((l.take i).map BoxM.B).flatten))++BoxM.B l[i]:=dh;rw[d];have j:(A++(bN (l.length:Int)++((l.take i).map BoxM.B).flatten)).length<=600000:=c_;clear d;generalize A++(bN (l.length:Int)++((l.take i).map BoxM.B).flatten)=X at *
 generalize l[i]=x at *
 simp only[go_sem,aT a,g];apply aG [2,0,3] (aB _) s_ k_ rfl rfl (aKb X x o_ e);rintro r b rfl;simp only[go_sem,fQ i o_,bZ];intro _;rw[dE];simp only[go_sem,aS (bP _),aIK]
def NodeM.B(n:NodeM):O3:=gJ n.Pub++aIK BoxM.B n.Boxes
def I6{n:NodeM}(h:n.ok):n.B.length<=4020:=by have b:=iP n.Pub;have h2:=aJa (f:=BoxM.B) (l:=n.Boxes) (k:=40) λx _=>MJ x;have a:=h.2.1;grind[NodeM.B,List.length_append]
def aI3(A:O3)(n:NodeM)(hA:A.length<=450000)(a:n.ok):aA PQ G xS [.ag n.A,.ptr 0 0,.ptr 1 0] [some (.box [.ptr 2 0]),some (.box [.cl kZ [.ptr 0 0]]),some (.box [.own 3]),some (.arr 1 (bl A))] λr b=>b=[some (.box [.ptr 2 0]),some (.box [.cl kZ [.ptr 0 0]]),some (.box [.own 4]),none,some (.arr 1 (bl (A++n.B)))]:=by refine aC Nn ?_;have c:=iP n.Pub;simp only[go_sem,NodeM.A];apply aG [2,3] (aB _) s_ k_ rfl rfl (I3 A n.Pub o_ a.1);rintro r b rfl;simp only[go_sem];rw[<-bZ];apply aG [2,5,0] (aB _) s_ k_ rfl rfl (Um (A++gJ n.Pub) n.Boxes oc (by have:=a.2.1;omega) a.2.2);rintro r b rfl;simp only[go_sem,NodeM.B,lq2]
def SealM.B(x:SealM):O3:=x.Of.B++rD x.Body
def I7{x:SealM}(h:x.ok):x.B.length<=1040:=by have b:=Id.B_len x.Of;have h2:=bX (x.Body.length:Int);have a:=h.2.1;grind[SealM.B,rD,List.length_append]
def aI4(A:O3)(x:SealM)(hA:A.length<=600000)(a:x.ok):aA PQ G xT [.ag x.A,.ptr 0 0] [some (.box [.ptr 1 0]),some (.box [.own 2]),some (.arr 1 (bl A))] λr b=>b=[some (.box [.ptr 1 0]),some (.box [.own 3]),none,some (.arr 1 (bl (A++x.B)))]:=by refine aC No ?_;have d:=Id.B_len x.Of;have c:=a.2.1;simp only[go_sem,SealM.A];apply aG [1,2] (aB _) s_ k_ rfl rfl (aFy A x.Of o_ a.1);rintro r b rfl;simp only[go_sem,↓FX];rw[<-bZ];apply aG [1,4] (aB _) s_ k_ rfl rfl (aDf (A++x.Of.B) (bsN x.Body) x.Body (Dr a.2.2) (I5 _) oc o_);rintro r b rfl;simp only[go_sem,SealM.B,rD,lq2]
def aAJ(A:O3)(l:List NodeM)(hA:A.length<=400000)(n:l.length<=10)(d:∀x∈l,x.ok):aA PQ G vA [.ptr 0 0,.ls 2 (l.map NodeM.A),.cl xS [.ptr 2 0,.ptr 3 0]] [some (.box [.own 1]),some (.arr 1 (bl A)),some (.box [.ptr 0 0]),some (.box [.cl kZ [.ptr 2 0]])] λr b=>b=[some (.box [.own 4]),none,some (.box [.ptr 0 0]),some (.box [.cl kZ [.ptr 2 0]]),some (.arr 1 (bl (A++aIK NodeM.B l)))]:=by
 apply aC FC;have c:∀x∈l,(NodeM.B x).length<=4020:=λx g=>I6 (d x g);have j:=bX (l.length:Int);simp only[go_sem,aP];apply aG [0,1] (aB _) s_ k_ rfl rfl (zD A (l.length:Int) o_ o_ o_);rintro r b rfl;simp only[go_sem];refine aQ l.length (λi=>⟨4,[(2,.cl xS [.ptr 2 0,.ptr 3 0]),(12,.ls 2 (l.map NodeM.A)),(13,iv l.length),(14,iv i)],[some (.box [.own 4]),none,some (.box [.ptr 0 0]),some (.box [.cl kZ [.ptr 2 0]]),some (.arr 1 (bl (A++(bN (l.length:Int)++((l.take i).map NodeM.B).flatten))))]⟩) (λ_=>True) ?_ trivial ?_ ?_;simp only[go_sem,uQ,B9,jO];intro i a _;have h:(l.map NodeM.A)[i]?=some [uv l[i].Pub,F5 l[i].Boxes]:=aO _ l i a;have f:=d l[i] (eQ a);have o:=c l[i] (eQ a);have m:=AF c i o_;have e:A++(bN (l.length:Int)++((l.take (i+1)).map NodeM.B).flatten)=(A++(bN (l.length:Int)++((l.take i).map NodeM.B).flatten))++NodeM.B l[i]:=dh;rw[e];have k:(A++(bN (l.length:Int)++((l.take i).map NodeM.B).flatten)).length<=450000:=c_;clear e;generalize A++(bN (l.length:Int)++((l.take i).map NodeM.B).flatten)=X at *
 generalize l[i]=x at *
 simp only[go_sem,aT a,h];apply aG [2,3,0,4] (aB _) s_ k_ rfl rfl (aI3 X x o_ f);rintro r b rfl;simp only[go_sem,fQ i o_,bZ];intro _;rw[dE];simp only[go_sem,aS (bP _),aIK]
def aAK(A:O3)(l:List SealM)(hA:A.length<=450000)(q:l.length<=100)(g:∀x∈l,x.ok):aA PQ G sJ [.ptr 0 0,.ls 4 (l.map SealM.A),.cl xT [.ptr 2 0]] [some (.box [.own 1]),some (.arr 1 (bl A)),some (.box [.ptr 0 0])] λr e=>e=[some (.box [.own 3]),none,some (.box [.ptr 0 0]),some (.arr 1 (bl (A++aIK SealM.B l)))]:=by
 apply aC Dd;have f:∀x∈l,(SealM.B x).length<=1040:=λx k=>I7 (g x k);have n:=bX (l.length:Int);simp only[go_sem,aP];apply aG [0,1] (aB _) s_ k_ rfl rfl (zD A (l.length:Int) o_ o_ o_);rintro r e rfl;simp only[go_sem];refine aQ l.length (λi=>⟨3,[(2,.cl xT [.ptr 2 0]),(12,.ls 4 (l.map SealM.A)),(13,iv l.length),(14,iv i)],[some (.box [.own 3]),none,some (.box [.ptr 0 0]),some (.arr 1 (bl (A++(bN (l.length:Int)++((l.take i).map SealM.B).flatten))))]⟩) (λ_=>True) ?_ trivial ?_ ?_;simp only[go_sem,uQ,B9,jO];intro i d _;have m:(l.map SealM.A)[i]?=some [.v (.int .i64 l[i].Of.a),.v (.int .i64 l[i].Of.b),.v (.int .u64 l[i].Of.c),.ls 1 (bl l[i].Body)]:=aO _ l i d;have j:=g l[i] (eQ d);have s:=f l[i] (eQ d);have p:=AF f i o_;have h:A++(bN (l.length:Int)++((l.take (i+1)).map SealM.B).flatten)=(A++(bN (l.length:Int)++((l.take i).map SealM.B).flatten))++SealM.B l[i]:=by rw[Dq _ l i d];simp only[lq2]
 rw[h];have o:(A++(bN (l.length:Int)++((l.take i).map SealM.B).flatten)).length<=600000:=c_;clear h;generalize A++(bN (l.length:Int)++((l.take i).map SealM.B).flatten)=X at *
 generalize l[i]=x at *
 simp only[go_sem,aT d,m];apply aG [2,0,3] (aB _) s_ k_ rfl rfl (aI4 X x o_ j);rintro r e rfl;simp only[go_sem,fQ i o_,bZ];intro _;rw[dE];simp only[go_sem,aS (bP _),aIK]
end Hud
