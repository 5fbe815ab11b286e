import Derived.Test.YtlhonkjgkfdnmaaGreatDoorLib13
import Derived.Test.YtlhonkjgkfdnmaaGreatDoorLib15
import Derived.Test.YtlhonkjgkfdnmaaGreatDoorLib16
set_option linter.all false
set_option maxHeartbeats 40000000
namespace Hud
open Go
section
variable{G:L_}
def tR(n lo a:Int):aA PQ G bM [iv n,iv lo,iv a] [] λr T=>r=.v (.bool (oI n lo a))/\T=[]:=by refine aC WQ ?_;unfold oI;cases h:decide (lo<=n)<;>simp only[go_sem,ge_iff_le,h,mF,lR]
def Bt(n:Nat):aA PQ G jS [uv n] [] λr T=>r=.v (.bool (HK n))/\T=[]:=by refine aC Np ?_;unfold HK;cases h:decide ((1:Int)<=(n:Int))<;>simp only[go_sem,ge_iff_le,h,mF,lR]
def MC(n:Int):aA PQ G Da [.v (.int .u64 n)] [] λr T=>r=.v (.bool (okM n))/\T=[]:=by refine aC WR ?_;unfold okM;simp only[go_sem]
def Dg(x:Id):aA PQ G fC [.ag x.A] [] λr T=>r=.v (.bool (jP x))/\T=[]:=by refine aC Pj ?_;unfold jP;simp only[go_sem,Id.A_def];apply cX (tR x.a 1 12);cases h1:oI x.a 1 12;simp only[go_sem,lR];simp only[go_sem];apply cX (tR x.b 1 2147483647);cases h2:oI x.b 1 2147483647;simp only[go_sem,lR,mF];simp only[go_sem];apply cX (MC x.c);simp only[go_sem,mF]
def FF(n lo a:Int):aA PQ G dP [iv n,iv lo,iv a] [] λr T=>r=.v (.bool (oI n lo a))/\T=[]:=by refine aC UH ?_;unfold oI;cases h:decide (lo<=n)<;>simp only[go_sem,ge_iff_le,h,mF,lR]
def Dh(n:Nat):aA PQ G kQ [uv n] [] λr T=>r=.v (.bool (HK n))/\T=[]:=by refine aC LO ?_;unfold HK;cases h:decide ((1:Int)<=(n:Int))<;>simp only[go_sem,ge_iff_le,h,mF,lR]
def Nt(n:Int):aA PQ G xV [.v (.int .u64 n)] [] λr T=>r=.v (.bool (okM n))/\T=[]:=by refine aC UI ?_;unfold okM;simp only[go_sem]
def FG(x:Id):aA PQ G jT [.ag x.A] [] λr T=>r=.v (.bool (jP x))/\T=[]:=by refine aC Nj ?_;unfold jP;simp only[go_sem,Id.A_def];apply cX (FF x.a 1 12);cases h1:oI x.a 1 12;simp only[go_sem,lR];simp only[go_sem];apply cX (FF x.b 1 2147483647);cases h2:oI x.b 1 2147483647;simp only[go_sem,lR,mF];simp only[go_sem];apply cX (Nt x.c);simp only[go_sem,mF]
def Nu(b:BoxM):aA PQ G wF [.ag b.A] [] λr T=>r=.v (.bool (wA b))/\T=[]:=by refine aC Pk ?_;unfold wA BoxM.A;simp only[go_sem];apply cX (Bt b.To);cases h1:HK b.To;simp only[go_sem,lR];simp only[go_sem];apply cX (Bt b.Eph);cases h2:HK b.Eph;simp only[go_sem,lR,mF];simp only[go_sem];apply cX (MC (b.Body:Int));cases h3:okM (b.Body:Int);simp only[go_sem,lR,mF];simp only[go_sem];apply cX (MC (b.Tag:Int));simp only[go_sem,mF]
end
def MP(D:List (Int×Bool)):AObj:=.map false (D.map λe=>[.int .i64 e.1]) (D.map λe=>.v (.bool e.2)) (List.range D.length) D.length
abbrev aHH(m:Nat)(e:Int×Nat×Bool):HOper:=⟨none,.mup false [.int .i64] (.tmp m) (.const (.int .i64 e.1)) (.tmp e.2.1),none⟩
def UJ{k:Int}:∀(D:List (Int×Bool))(i:Nat),k∉D.map (·.1)->eR [.int .i64] [.int .i64 k] (D.map λe=>[.int .i64 e.1]) i=some none
 |[],_,_=>rfl
 |e::D,i,h=>by
  simp only[fG,cS,not_or]at h;have h1:(k==e.1)=false:=by simpa using h.1
  simp only[fG,eR,rJ,and_self,if_true,h1,lR];exact UJ D (i+1) h.2
def aCG{T:aK}{i:Nat}(a:i<T.length)(o:AObj):cR (T.set i (some o)) i=some o:=by grind[cR]
def aFe(D:List (Int×Bool))(e:Int×Bool):AObj.map false ((D.map λe=>[.int .i64 e.1])++[[.int .i64 e.1]]) ((D.map λe=>AV.v (.bool e.2))++[.v (.bool e.2)]) (List.range D.length++[D.length]) (D.length+1)=MP (D++[e]):=by simp only[MP,bZ,fG,uP,dZ,sE,gQ,pQ,QH]
def Yp{T:aK}{i:Nat}(f:i<T.length){ev:Operand->AV}{m:Nat}{D:List (Int×Bool)}{e:Int×Nat×Bool}(c:ev (.tmp m)=.mp i)(d:ev (.const (.int .i64 e.1))=iv e.1)(a:ev (.tmp e.2.1)=.v (.bool e.2.2))(b:e.1∉D.map (·.1)):
 cE (T.set i (some (MP D))) ev (.mup false [.int .i64] (.tmp m) (.const (.int .i64 e.1)) (.tmp e.2.1))=some (.v undef,T.set i (some (MP (D++[(e.1,e.2.2)])))):=by
 have h1:LF false [.int .i64] (iv e.1)=some [.int .i64 e.1]:=by simp[LF,rJ]
 simp only[cE,c,aCG f,d,a,h1];simp only[MP,if_true,UJ D 0 b,List.set_set];rw[<-MP,<-aFe D (e.1,e.2.2)]
def Gw{α:Type}:∀(l:List α)(j:Nat)(h:j<l.length),(l[j]::l.eraseIdx j).Perm l|x::l,0,_=>by simp|x::l,j+1,h=>by simp only[List.getElem_cons_succ,X7];exact(List.Perm.swap _ _ _).trans ((Gw l j w_).cons x)
def Nv {P:Program} {G:L_} {g:List HOper} {r:Nat} {s:List (Nat×AV)} {T0:aK} {i m:Nat} {K:St->Prop} (B:i<T0.length) (z:bA s m=.mp i) (C:∀X,qL G ⟨r,s,T0.set i (some (MP X))⟩ g):
 ∀(n:Nat)(l:List (Int×Nat×Bool))(D:List (Int×Bool)),l.length=n->(∀e∈l,bA s e.2.1=.v (.bool e.2.2))->(D.map (·.1)++l.map (·.1)).Nodup ->
  (∀X,X.Perm (D++l.map λe=>(e.1,e.2.2))->K ⟨r,s,T0.set i (some (MP X))⟩)->IH P G g n (l.map (aHH m)) ⟨r,s,T0.set i (some (MP D))⟩ K
 |0,l,D,A,_,_,t=>by
  have:l=[]:=Ae A;subst this;exact t D s_
 | n+1,l,D,A,u,y,t=>by
  intro j o b;rw[gE]at b
  cases q:l[j]? with
  |none=>rw[q]at b;simp at b| some e=>
   rw[q]at b;simp only[iX,E_]at b;subst b;obtain⟨d,p⟩:=sV.1 q;have f:e∈l:=m_;have w:(e::l.eraseIdx j).Perm l:=by rw[<-p];exact Gw l j d
   have k:e.1∉D.map (·.1):=λh=>(vQ.1 y).2.2 _ h _ (dF.2 ⟨e,f,rfl⟩) rfl;have a:=Yp (T:=T0) B (ev:=dW G s) (m:=m) (D:=D) (e:=e) (by simpa[dW]using z) rfl (by simpa[dW]using u e f) k;have c:(l.map (aHH m)).eraseIdx j=(l.eraseIdx j).map (aHH m):=CD _ l j;simp only[fY,yF,a,fV];refine⟨C _,?_⟩;rw[c];refine Nv B z C n (l.eraseIdx j) (D++[(e.1,e.2.2)]) (by rw[Rg d];omega) (λx E=>u x (List.mem_of_mem_eraseIdx E)) ?_ λX F=>t X (F.trans ?_);refine(List.Perm.nodup_iff ?_).2 y;rw[bZ,eB];apply YB _;have:=w.map (·.1);simpa using this;rw[eB];apply YB _;have:=w.map λe:Int×Nat×Bool=>(e.1,e.2.2)
   simpa using this
def aGW{T:aK}{i j a la:Nat}{aAD:V_}{X:List (Int×Bool)}{K:AV->aK->Prop}(q:cR T i=some (.mit (some j) a aAD la))(r:cR T j=some (MP X))(h1:a<=la)(h2:X.length<=a)
 (f:(∀b,b<X.length->b∈aAD)->K (.v (.tuple #[.bool false])) T)
 (m:∀b(h:b<X.length),b∉aAD->K (.tup [.v (.bool true),.v (.int .i64 X[b].1),.v (.bool X[b].2)]) (T.set i (some (.mit (some j) a (aAD++[b]) X.length)))):@aCA T (.ptr i 0) ⟨K⟩:=by
 simp only[aCA,q,r,MP];refine⟨h1,λb c=>CV (uM.1 c) h2,λh=>f λb c=>h b (uM.2 c),λe k v b d l c p=>?_⟩;rw[gE]at d l
 cases o:X[e]? with
 |none=>rw[o]at d;simp at d|some x=>
  obtain⟨g,n⟩:=sV.1 o;rw[o]at d l;simp only[iX,E_]at d l;rw[aBQ g]at c;simp only[E_]at c;subst c;have:=m e g p;rw[n]at this;rw[<-d,<-l];exact this
def CJ{n b:Nat}(h:b<n):(List.range n).findIdx? (· == b)=some b:=by grind[List.findIdx?_eq_some_iff_getElem]
def Yq(a:Nat)(e:Int×Bool):Nat:=if e.2 then a ||| e.1.toNat else a
def aCH(a:Nat)(x y:Int×Bool):Yq (Yq a x) y=Yq (Yq a y) x:=by grind[Yq,Bool.or_assoc]
def sC(X:List (Int×Bool)):Nat:=X.foldl Yq 0
def Nw{X Y:List (Int×Bool)}(h:X.Perm Y):sC X=sC Y:=h.foldl_eq' (λx _ y _ z=>aCH z x y) 0
def Io(X:List (Int×Bool))(aAD:V_):List (Int×Bool):=aAD.map λb=>X.getD b (0,false)
def aFf{X:List (Int×Bool)}{aAD:V_}(a:aAD.Nodup)(c:∀b∈aAD,b<X.length)(d:∀b,b<X.length->b∈aAD):(Io X aAD).Perm X:=by
 have h1:aAD.Perm (List.range X.length):=(aBH a aBT).2 λb=>m_;have h2:Io X (List.range X.length)=X:=by unfold Io;refine Ki s_ λi h1 h2=>?_;simp_all
 have:=h1.map λb=>X.getD b (0,false);rwa[show(List.range X.length).map (λb=>X.getD b (0,false))=X from h2]at this
def aHI{P:Program}{G:L_}{b a:List HOper}{next:HD}{st:St}{K:St->Prop}{n:Nat}(c:a.length=n)(h:IH P G b n a st λs=>@hdC P G next s ⟨K⟩):@hdC P G (.perm b a next) st ⟨K⟩:=by subst c;exact h
def aCI(a b:Nat)(d:a<65536)(c:b<65536):bV .or (.int .i64 (a:Int)) (.int .i64 (b:Int))=some (.int .i64 ((a ||| b:Nat):Int)):=by
 have e:a ||| b<65536:=TX (n:=16) d c;have h1:(BitVec.ofInt IntKind.i64.bits (a:Int) ||| BitVec.ofInt IntKind.i64.bits (b:Int)).toNat=a ||| b:=by
  have ea:(BitVec.ofInt 64 (a:Int)).toNat=a:=p_;have f:(BitVec.ofInt 64 (b:Int)).toNat=b:=p_;show(BitVec.ofInt 64 (a:Int) ||| BitVec.ofInt 64 (b:Int)).toNat=a ||| b;grind
 simp only[bV,if_true,h1];rw[aJ o_ o_]
def aHJ{a:Nat}{e:Int×Bool}(b:a<65536)(c:e.1.toNat<65536):Yq a e<65536:=by unfold Yq;split;exact TX (n:=16) b c;exact b
def WS:∀(l:List (Int×Bool))(a:Nat),a<65536->(∀e∈l,e.1.toNat<65536)->l.foldl Yq a<65536|[],_,h,_=>h|e::l,a,h,b=>WS l _ (aHJ h (b e EV)) λx c=>b x (GU _ c)
def xY:∀{M L:V_},M.Nodup->(∀y∈M,y∈L)->M.length<=L.length|[],_,_,_=>pR _|y::M,L,b,h=>by rw[BU]at b;have h1:=xY (M:=M) (L:=L.erase y) b.2 λz a=>(List.mem_erase_of_ne (λe:z=y=>b.1 (by rw[e]at a;exact a))).2 (h z (GU _ a));grind
def aAe(a b:Nat)(e:a<65536)(d:b<65536):bV .and (.int .i64 (a:Int)) (.int .i64 (b:Int))=some (.int .i64 ((a &&& b:Nat):Int)):=by
 have c:a &&& b<=a:=aBW;have h1:(BitVec.ofInt IntKind.i64.bits (a:Int) &&& BitVec.ofInt IntKind.i64.bits (b:Int)).toNat=a &&& b:=by
  have ea:(BitVec.ofInt 64 (a:Int)).toNat=a:=p_;have f:(BitVec.ofInt 64 (b:Int)).toNat=b:=p_;show(BitVec.ofInt 64 (a:Int) &&& BitVec.ofInt 64 (b:Int)).toNat=a &&& b;grind
 simp only[bV,if_true,h1];rw[aJ o_ o_]
def qX{α:Type}(p:α->Bool)(l:List α):Int:=match l.findIdx? p with|some i=>(i:Int)|none=>-1
def lD{α:Type}{p:α->Bool}{l:List α}(h:∀j(a:j<l.length),p l[j]=false):qX p l=-1:=by unfold qX;rw[Md.2 λx b=>by obtain⟨j,a,rfl⟩:=CU b;simp[h j a]]
def mC{α:Type}{p:α->Bool}{l:List α}{i:Nat}(b:i<l.length)(h:∀j(a:j<l.length),j<i->p l[j]=false)(h1:p l[i]=true):qX p l=(i:Int):=by unfold qX;rw[Ad.2 ⟨b,h1,λj a=>by simp[h j o_ a]⟩]
def mN{α:Type}(p:α->Bool)(l:List α):decide ((0:Int)<=qX p l)=l.any p:=by grind[qX]
def qY:V_:=[0,2064,32793,21,16,12,480,640,512,31744,8704,8705,512,33299]
def vV(k:Int):Nat:=qY.getD k.toNat 0
def nE(a b:Nat):Nat:=(BitVec.ofNat 64 a &&& ~~~(BitVec.ofNat 64 b)).toNat
def FH(o:OpM):List (Int×Bool):=
 [(1,oI o.Device (if o.Kind=3 then 0 else 1) 12),(2,oI o.Old 1 12),(4,if o.Kind=3 then(oI o.Member 1 8&&(o.Device==0))||((o.Member==0)&&(o.Device !=0)) else oI o.Member 1 8),(8,oI o.Role 1 3),(64,oI o.N 0 2147483647),(4096,oI o.Wait 0 2147483647),
  (2048,oI o.Need (if o.Kind=1 then 0 else 1) (if o.Kind=1 then 20 else o.Guards.length)),(32,jP o.Epoch),(512,jP o.Of),(16384,HK o.Pub)]
def Pm(h:Nat)(X:List (Int×Bool)):Bool:=X.all λe=>(h &&& e.1.toNat==0)||e.2
def FI(n:NodeM):Bool:=HK n.Pub&&n.Boxes.all wA
def FJ(x:SealM):Bool:=jP x.Of
def yS(n:Int):Bool:=oI n 1 12
def SF(n:Nat):Bool:=okM (n:Int)
def CK(o:OpM)(h:Nat):Bool :=
 (oI o.By 1 12&&oI o.Seq 1 2147483647&&oI o.At 0 2147483647)&&(Pm h (FH o)&&(o.Guards.all yS&&(o.Refs.all SF&&(o.Past.all jP&&(o.Path.all FI&&(o.Boxes.all wA&&o.Hist.all FJ))))))
def ED(o:OpM):Bool :=
 (decide ((o.Past.length:Int)>12)||decide ((o.Path.length:Int)>5)||!(o.Path.all λn=>decide ((n.Boxes.length:Int)<=12))||decide ((o.Body.length:Int)>208)||decide ((o.Refs.length:Int)>8)||decide ((o.Hist.length:Int)>20)||!(o.Hist.all λx=>decide ((x.Body.length:Int)<=208))||decide ((o.Guards.length:Int)>6)) ||
 (if o.Kind==7 then !oI (o.Body.length:Int) 1 20 else if o.Kind==9 then(o.Boxes.length:Int)!=(o.Guards.length:Int) else if o.Kind==10 then !oI (o.Boxes.length:Int) 1 6 else if o.Kind==11 then(o.Boxes.length:Int)!=1 else false)
def nT{α:Type}(a:α->α->Bool):List α->Bool|x::y::l=>a x y&&nT a (y::l)|_=>true
def aCJ(o:OpM):Bool:=nT Id.lt o.Past&&nT (λa b:Int=>decide (a<b)) o.Guards
def vF(o:OpM):Int :=
 if o.Kind<1\/13<o.Kind then 1
 else if nE (sC (jQ o)) (vV o.Kind)≠0 then 1
 else if CK o (vV o.Kind)=false then 8
 else if ED o then 2
 else if aCJ o=false then 6
 else if decide (o.Past.length=0)≠decide (o.Kind=1) then 10 else 0
def Ip(k:Int):Bool:=k==1||k==2||k==3||k==4||k==13
def Qk(o:OpM):Bool :=
 let k:=o.Kind
 let SJ:=k==7||k==8||k==12||k==10||k==11||k==13
 !(o.Device !=0&&k !=2&&k !=3&&k !=11&&k !=13) &&
 !((o.Old !=0&&k !=13)||(o.Member !=0&&k !=3&&k !=5)||(o.Role !=0&&k !=2&&k !=5)) &&
 !(decide ((o.Path.length:Int)>0)&&!Ip k) &&
 !(k !=6&&((!(o.Epoch.a==0&&(o.Epoch.b==0&&o.Epoch.c==0)))||o.N !=0||decide ((o.Refs.length:Int)>0))) &&
 !((decide ((o.Body.length:Int)>0)&&k !=6&&k !=7)||((!(o.Of.a==0&&(o.Of.b==0&&o.Of.c==0)))&&!SJ)) &&
 !(k !=9&&(decide ((o.Guards.length:Int)>0)||o.Wait !=0||(o.Pub:Int)!=0)) &&
 !((o.Need !=0&&k !=9&&k !=1)||(decide ((o.Boxes.length:Int)>0)&&k !=9&&k !=10&&k !=11)) &&
 (((o.Hist.length:Int)==0)||k==2||k==13)
def fP(o:OpM):Bool :=
 (oI o.By 1 12&&oI o.Seq 1 2147483647&&oI o.At 0 2147483647) &&
 (if o.Kind=1 then oI o.Need 0 20
  else if o.Kind=2 then oI o.Device 1 12&&oI o.Role 1 3
  else if o.Kind=3 then(oI o.Device 1 12&&o.Member==0)||(o.Device==0&&oI o.Member 1 8)
  else if o.Kind=5 then oI o.Member 1 8&&oI o.Role 1 3
  else if o.Kind=6 then jP o.Epoch&&oI o.N 0 2147483647
  else if o.Kind=9 then oI o.Need 1 o.Guards.length&&oI o.Wait 0 2147483647&&HK o.Pub
  else if o.Kind=11 then jP o.Of&&oI o.Device 1 12
  else if o.Kind=13 then jP o.Of&&oI o.Device 1 12&&oI o.Old 1 12
  else if o.Kind=4 then true
  else jP o.Of)
def uA(o:OpM):Bool:=o.Guards.all yS&&(o.Refs.all SF&&(o.Past.all jP&&(o.Path.all FI&&(o.Hist.all FJ&&o.Boxes.all wA))))
def jB(o:OpM):Int :=
 if o.Kind<1\/13<o.Kind then 1
 else if Qk o=false then 1
 else if(fP o&&uA o)=false then 8
 else if ED o then 2
 else if nT Id.lt o.Past=false then 6
 else if nT (λa b:Int=>decide (a<b)) o.Guards=false then 6
 else if decide (o.Past.length=0)≠decide (o.Kind=1) then 10 else 0
def Gx(i:Nat):∀(X:List (Int×Bool))(a:Nat),(X.foldl Yq a).testBit i=(a.testBit i||X.any λe=>e.2&&e.1.toNat.testBit i)|[],a=>by simp|e::X,a=>by simp only[CW,List.any_cons,Gx i X];grind[Yq,Bool.or_assoc]
def UK{a b:Nat}(d:a<65536)(e:b<65536):nE a b=0↔∀i,i<16->a.testBit i=true->b.testBit i=true:=by
 have c:∀i,(nE a b).testBit i=(decide (i<64)&&(a.testBit i&&!b.testBit i)):=λi=>by grind[nE,BitVec.testBit_toNat,BitVec.getLsbD_ofNat]
 constructor;grind;intro h;refine Nat.eq_of_testBit_eq λi=>?_;rw[c,aBK];rcases eD i 16 with h1|h1;simp_all;rw[Nat.testBit_lt_two_pow (CV d (uR d_ (Gl d_ h1)))];simp
def Nx(o:OpM):sC (jQ o)<65536:=WS _ 0 d_ λe a=>by simp only[jQ,cS,pP,or_false]at a;rcases a with rfl|rfl|rfl|rfl|rfl|rfl|rfl|rfl|rfl|rfl|rfl|rfl|rfl|rfl|rfl|rfl<;>simp
def WT:V_:=[0,1,2,3,4,5,6,7,8,9,10,11,12,13,14,15]
def SG(k:Int):vV k<65536:=by
 unfold vV qY;rcases eD k.toNat 14 with h|h;generalize k.toNat=n at *
 have:∀n,n<14->[0,2064,32793,21,16,12,480,640,512,31744,8704,8705,512,33299].getD n 0<65536:=d_;exact this n h;rw[rH,sX w_];decide
def FK(o:OpM):List (Bool×Nat):=((jQ o).map (·.2)).zip WT
def UL(o:OpM):jQ o=(FK o).map λe=>(((2^e.2:Nat):Int),e.1):=rfl
def SH(o:OpM)(m:Nat)(a:m<65536):(nE (sC (jQ o)) m=0)↔(FK o).all (λe=>!e.1||m.testBit e.2)=true:=by
 rw[UK (Nx o) a];have h1:∀i,(sC (jQ o)).testBit i=(FK o).any λe=>e.1&&decide (e.2=i):=λi=>by unfold sC;rw[Gx,UL,aBK,EH,List.any_map];congr 1;funext e;simp only[Function.comp,nI,Nat.testBit_two_pow]
 have h2:∀e∈FK o,e.2<16:=λe b=>by have:=(List.of_mem_zip (show(e.1,e.2)∈_ from b)).2;simp only[WT,cS,pP,or_false]at this;omega
 grind
def Yr{k:Int}(h1:¬k<1)(h2:¬13<k):k=1\/k=2\/k=3\/k=4\/k=5\/k=6\/k=7\/k=8\/k=9\/k=10\/k=11\/k=12\/k=13:=o_
def aHK(o:OpM):((o.Hist.length:Int)==0)=!(decide ((o.Hist.length:Int)>0)):=m_
def SI(o:OpM)(h1:¬o.Kind<1)(h2:¬13<o.Kind):(nE (sC (jQ o)) (vV o.Kind)=0)↔Qk o=true:=by
 rw[SH o _ (SG _)];unfold Qk;rw[aHK];simp only[FK,jQ,WT,fG,uP,List.zip_cons_cons,List.zip_nil_right,List.all_cons,aGL,yH];generalize(o.Device !=0)=u;generalize(o.Old !=0)=t;generalize(o.Member !=0)=s;generalize(o.Role !=0)=r;generalize(decide ((o.Path.length:Int)>0))=q;generalize(!(o.Epoch.a==0&&(o.Epoch.b==0&&o.Epoch.c==0)))=p;generalize(o.N !=0)=n;generalize(decide ((o.Body.length:Int)>0))=m;generalize(decide ((o.Refs.length:Int)>0))=l;generalize(!(o.Of.a==0&&(o.Of.b==0&&o.Of.c==0)))=k;generalize(decide ((o.Guards.length:Int)>0))=j;generalize(o.Need !=0)=i;generalize(o.Wait !=0)=g;generalize(decide ((o.Boxes.length:Int)>0))=f;generalize((o.Pub:Int)!=0)=e;generalize(decide ((o.Hist.length:Int)>0))=d;rcases Yr h1 h2 with h|h|h|h|h|h|h|h|h|h|h|h|h<;>rw[h]
 all_goals
  simp only[Ip,show ∀a b:Int,(a==b)=decide (a=b) from λ_ _=>rfl]
  simp[vV,qY,Nat.testBit,Nat.shiftRight_eq_div_pow]
  try grind
def Pn(o:OpM)(h1:¬o.Kind<1)(h2:¬13<o.Kind):CK o (vV o.Kind)=(fP o&&uA o):=by
 have a:(o.Guards.all yS&&(o.Refs.all SF&&(o.Past.all jP&&(o.Path.all FI&&(o.Boxes.all wA&&o.Hist.all FJ)))))=uA o:=by grind[uA]
 unfold CK fP;rw[a,aGD (oI o.By 1 12&&oI o.Seq 1 2147483647&&oI o.At 0 2147483647)];congr 1;congr 1;unfold Pm FH;rcases Yr h1 h2 with h|h|h|h|h|h|h|h|h|h|h|h|h<;>rw[h]
 all_goals
  simp[vV,qY]
  try grind
 unfold oI;rw[CT];simp;omega
def Aq(o:OpM):vF o=jB o:=by unfold vF jB;by_cases h0:o.Kind<1\/13<o.Kind;omega;rw[if_neg h0,if_neg h0];have h1:¬o.Kind<1:=λh=>h0 (.inl h);have h2:¬13<o.Kind:=λh=>h0 (.inr h);have a:=SI o h1 h2;rw[Pn o h1 h2];grind[aCJ]
end Hud
namespace Hud
set_option maxRecDepth 99999
open Go
def iD:=eVf (cF bE [(4,none,3)])
def rA:=eVf (cF bF [(2,none,3)])
def pI:=eVf (cF bJ [])
def aES:=eVf (cF aBD [(2,none,1)])
def vG:=eVf (cF fU [(2,none,1)])
def cJ:=eVf (cF bB [])
def rB:=eVf (cF gB [])
def qJ:=eVf (cF fS [])
def sO:=eVf (cF iC [])
end Hud
namespace Hud
open Go
variable{G:L_}
def GC{α:Type}(m:α->Bool)(l:List α):(!(l.any λx=>!m x))=l.all m:=m_
def WU(f:Nat)(m:BoxM->Bool)(x:BoxM)(h:aA PQ G f [.ag x.A] [] λr T=>r=.v (.bool (m x))/\T=[]):aA PQ G jH [.ag x.A,.ptr 0 0] [some (.box [.cl f []])] λr T=>r=.v (.bool (!m x))/\T=[some (.box [.cl f []])]:=by refine aC EN ?_;simp only[go_sem,BoxM.A];apply cX h;simp only[go_sem]
def aAf(f:Nat)(m:BoxM->Bool)(l:List BoxM)(g:l.length<2^63-1)(h:∀x∈l,aA PQ G f [.ag x.A] [] λr T=>r=.v (.bool (m x))/\T=[]):
 aA PQ G gC [F5 l,.cl jH [.ptr 0 0]] [some (.box [.cl f []])] λr T=>r=iv (qX (λx=>!m x) l)/\T=[some (.box [.cl f []])]:=by
 apply aC qZ;simp only[go_sem,aP];refine aQ l.length (λi=>⟨1,[(0,F5 l),(1,.cl jH [.ptr 0 0]),(7,iv l.length),(8,iv i)],[some (.box [.cl f []])]⟩) (λi=>∀j(a:j<l.length),j<i->(!m l[j])=false) ?_ W_ ?_ ?_;simp only[go_sem];intro i b c;have e:(l.map BoxM.A)[i]?=some [uv l[i].To,uv l[i].Eph,uv l[i].Body,uv l[i].Tag]:=aO _ l i b;simp only[go_sem,aT b,e];apply aG [0] (aB _) d_ s_ rfl rfl (WU f m l[i] (h _ (eQ b)));rintro r k ⟨rfl,rfl⟩
 cases d:m l[i]with
 |true=>
  simp only[go_sem,fQ i o_];grind
 |false=>
  simp only[go_sem];rw[mC b c e_]
 intro c;simp only[go_sem,aS (bP _)];rw[lD λj a=>c j a a]
def aAg(f:Nat)(m:BoxM->Bool)(l:List BoxM)(a:l.length<2^63-1)(h:∀x∈l,aA PQ G f [.ag x.A] [] λr T=>r=.v (.bool (m x))/\T=[]):
 aA PQ G fE [F5 l,.cl jH [.ptr 0 0]] [some (.box [.cl f []])] λr T=>r=.v (.bool (l.any λx=>!m x))/\T=[some (.box [.cl f []])]:=by
 apply aC pH;simp only[go_sem];apply aG [0] (aB _) d_ s_ rfl rfl (aAf f m l a h);rintro r b ⟨rfl,rfl⟩;simp only[go_sem,ge_iff_le,mN]
def Ql(f:Nat)(m:BoxM->Bool)(l:List BoxM)(a:l.length<2^63-1)(h:∀x∈l,aA PQ G f [.ag x.A] [] λr T=>r=.v (.bool (m x))/\T=[]):
 aA PQ G nO [F5 l,.cl f []] [] λr T=>r=.v (.bool (l.all m))/\T=[]:=by
 apply aC Gb;simp only[go_sem];apply aG [0] (aB _) d_ s_ rfl rfl (aAg f m l a h);rintro r b ⟨rfl,rfl⟩;simp only[go_sem,GC]
def WV(f:Nat)(m:Int->Bool)(x:Int)(h:aA PQ G f [iv x] [] λr T=>r=.v (.bool (m x))/\T=[]):aA PQ G nR [iv x,.ptr 0 0] [some (.box [.cl f []])] λr T=>r=.v (.bool (!m x))/\T=[some (.box [.cl f []])]:=by refine aC Im ?_;simp only[go_sem];apply cX h;simp only[go_sem]
def aAh(f:Nat)(m:Int->Bool)(l:B_)(g:l.length<2^63-1)(h:∀x∈l,aA PQ G f [iv x] [] λr T=>r=.v (.bool (m x))/\T=[]):
 aA PQ G gY [rG l,.cl nR [.ptr 0 0]] [some (.box [.cl f []])] λr T=>r=iv (qX (λx=>!m x) l)/\T=[some (.box [.cl f []])]:=by
 apply aC nU;simp only[go_sem,aP];refine aQ l.length (λi=>⟨1,[(0,rG l),(1,.cl nR [.ptr 0 0]),(7,iv l.length),(8,iv i)],[some (.box [.cl f []])]⟩) (λi=>∀j(a:j<l.length),j<i->(!m l[j])=false) ?_ W_ ?_ ?_;simp only[go_sem];intro i b c;have e:(l.map λn=>[iv n])[i]?=some [iv l[i]]:=aO _ l i b;simp only[go_sem,aT b,e];apply aG [0] (aB _) d_ s_ rfl rfl (WV f m l[i] (h _ (eQ b)));rintro r k ⟨rfl,rfl⟩
 cases d:m l[i]with
 |true=>
  simp only[go_sem,fQ i o_];grind
 |false=>
  simp only[go_sem];rw[mC b c e_]
 intro c;simp only[go_sem,aS (bP _)];rw[lD λj a=>c j a a]
def aAi(f:Nat)(m:Int->Bool)(l:B_)(a:l.length<2^63-1)(h:∀x∈l,aA PQ G f [iv x] [] λr T=>r=.v (.bool (m x))/\T=[]):
 aA PQ G dI [rG l,.cl nR [.ptr 0 0]] [some (.box [.cl f []])] λr T=>r=.v (.bool (l.any λx=>!m x))/\T=[some (.box [.cl f []])]:=by
 apply aC lV;simp only[go_sem];apply aG [0] (aB _) d_ s_ rfl rfl (aAh f m l a h);rintro r b ⟨rfl,rfl⟩;simp only[go_sem,ge_iff_le,mN]
def aAj(f:Nat)(m:Int->Bool)(l:B_)(a:l.length<2^63-1)(h:∀x∈l,aA PQ G f [iv x] [] λr T=>r=.v (.bool (m x))/\T=[]):
 aA PQ G AA [rG l,.cl f []] [] λr T=>r=.v (.bool (l.all m))/\T=[]:=by
 apply aC LQ;simp only[go_sem];apply aG [0] (aB _) d_ s_ rfl rfl (aAi f m l a h);rintro r b ⟨rfl,rfl⟩;simp only[go_sem,GC]
def WW(f:Nat)(m:Nat->Bool)(x:Nat)(h:aA PQ G f [uv x] [] λr T=>r=.v (.bool (m x))/\T=[]):aA PQ G jY [uv x,.ptr 0 0] [some (.box [.cl f []])] λr T=>r=.v (.bool (!m x))/\T=[some (.box [.cl f []])]:=by refine aC FE ?_;simp only[go_sem];apply cX h;simp only[go_sem]
def aAk(f:Nat)(m:Nat->Bool)(l:V_)(g:l.length<2^63-1)(h:∀x∈l,aA PQ G f [uv x] [] λr T=>r=.v (.bool (m x))/\T=[]):
 aA PQ G iC [.ls 1 (ul l),.cl jY [.ptr 0 0]] [some (.box [.cl f []])] λr T=>r=iv (qX (λx=>!m x) l)/\T=[some (.box [.cl f []])]:=by
 apply aC sO;simp only[go_sem,aP];refine aQ l.length (λi=>⟨1,[(0,.ls 1 (ul l)),(1,.cl jY [.ptr 0 0]),(7,iv l.length),(8,iv i)],[some (.box [.cl f []])]⟩) (λi=>∀j(a:j<l.length),j<i->(!m l[j])=false) ?_ W_ ?_ ?_;simp only[go_sem];intro i b c;have e:(ul l)[i]?=some [uv l[i]]:=aO _ l i b;simp only[go_sem,aT b,e];apply aG [0] (aB _) d_ s_ rfl rfl (WW f m l[i] (h _ (eQ b)));rintro r k ⟨rfl,rfl⟩
 cases d:m l[i]with
 |true=>
  simp only[go_sem,fQ i o_];grind
 |false=>
  simp only[go_sem];rw[mC b c e_]
 intro c;simp only[go_sem,aS (bP _)];rw[lD λj a=>c j a a]
def aAl(f:Nat)(m:Nat->Bool)(l:V_)(a:l.length<2^63-1)(h:∀x∈l,aA PQ G f [uv x] [] λr T=>r=.v (.bool (m x))/\T=[]):
 aA PQ G fS [.ls 1 (ul l),.cl jY [.ptr 0 0]] [some (.box [.cl f []])] λr T=>r=.v (.bool (l.any λx=>!m x))/\T=[some (.box [.cl f []])]:=by
 apply aC qJ;simp only[go_sem];apply aG [0] (aB _) d_ s_ rfl rfl (aAk f m l a h);rintro r b ⟨rfl,rfl⟩;simp only[go_sem,ge_iff_le,mN]
def aAm(f:Nat)(m:Nat->Bool)(l:V_)(a:l.length<2^63-1)(h:∀x∈l,aA PQ G f [uv x] [] λr T=>r=.v (.bool (m x))/\T=[]):
 aA PQ G tN [.ls 1 (ul l),.cl f []] [] λr T=>r=.v (.bool (l.all m))/\T=[]:=by
 apply aC HU;simp only[go_sem];apply aG [0] (aB _) d_ s_ rfl rfl (aAl f m l a h);rintro r b ⟨rfl,rfl⟩;simp only[go_sem,GC]
def aAn(f:Nat)(m:Id->Bool)(x:Id)(h:aA PQ G f [.ag x.A] [] λr T=>r=.v (.bool (m x))/\T=[]):aA PQ G gU [.ag x.A,.ptr 0 0] [some (.box [.cl f []])] λr T=>r=.v (.bool (!m x))/\T=[some (.box [.cl f []])]:=by refine aC Cj ?_;simp only[go_sem,Id.A_def];apply cX h;simp only[go_sem]
def aCK(f:Nat)(m:Id->Bool)(l:D_)(o:l.length<2^63-1)(h:∀x∈l,aA PQ G f [.ag x.A] [] λr T=>r=.v (.bool (m x))/\T=[]):
 aA PQ G bB [ids l,.cl gU [.ptr 0 0]] [some (.box [.cl f []])] λr T=>r=iv (qX (λx=>!m x) l)/\T=[some (.box [.cl f []])]:=by
 apply aC cJ;simp only[go_sem,aP];refine aQ l.length (λi=>⟨1,[(0,ids l),(1,.cl gU [.ptr 0 0]),(7,iv l.length),(8,iv i)],[some (.box [.cl f []])]⟩) (λi=>∀j(d:j<l.length),j<i->(!m l[j])=false) ?_ ar ?_ ?_;simp only[go_sem];intro i e g;have n:(l.map Id.A)[i]?=some [.v (.int .i64 l[i].a),.v (.int .i64 l[i].b),.v (.int .u64 l[i].c)]:=aO _ l i e;simp only[go_sem,aT e,n];apply aG [0] (aB _) d_ s_ rfl rfl (aAn f m l[i] (h _ (eQ e)));rintro r p ⟨rfl,rfl⟩
 cases k:m l[i]with
 |true=>
  simp only[go_sem,fQ i o_];grind
 |false=>
  simp only[go_sem];rw[mC e g (by rw[k];rfl)]
 intro g;simp only[go_sem,aS (bP _)];rw[lD λj d=>g j d d]
def aCL(f:Nat)(m:Id->Bool)(l:D_)(a:l.length<2^63-1)(h:∀x∈l,aA PQ G f [.ag x.A] [] λr T=>r=.v (.bool (m x))/\T=[]):
 aA PQ G bD [ids l,.cl gU [.ptr 0 0]] [some (.box [.cl f []])] λr T=>r=.v (.bool (l.any λx=>!m x))/\T=[some (.box [.cl f []])]:=by
 apply aC gK;simp only[go_sem];apply aG [0] (aB _) d_ s_ rfl rfl (aCK f m l a h);rintro r b ⟨rfl,rfl⟩;simp only[go_sem,ge_iff_le,mN]
def aCM(f:Nat)(m:Id->Bool)(l:D_)(a:l.length<2^63-1)(h:∀x∈l,aA PQ G f [.ag x.A] [] λr T=>r=.v (.bool (m x))/\T=[]):
 aA PQ G oR [ids l,.cl f []] [] λr T=>r=.v (.bool (l.all m))/\T=[]:=by
 apply aC EM;simp only[go_sem];apply aG [0] (aB _) d_ s_ rfl rfl (aCL f m l a h);rintro r b ⟨rfl,rfl⟩;simp only[go_sem,GC]
def UM(f:Nat)(m:NodeM->Bool)(x:NodeM)(h:aA PQ G f [.ag x.A] [] λr T=>r=.v (.bool (m x))/\T=[]):aA PQ G iV [.ag x.A,.ptr 0 0] [some (.box [.cl f []])] λr T=>r=.v (.bool (!m x))/\T=[some (.box [.cl f []])]:=by refine aC Df ?_;simp only[go_sem,NodeM.A];apply cX h;simp only[go_sem]
def WX(f:Nat)(m:NodeM->Bool)(l:List NodeM)(g:l.length<2^63-1)(h:∀x∈l,aA PQ G f [.ag x.A] [] λr T=>r=.v (.bool (m x))/\T=[]):
 aA PQ G fM [.ls 2 (l.map NodeM.A),.cl iV [.ptr 0 0]] [some (.box [.cl f []])] λr T=>r=iv (qX (λx=>!m x) l)/\T=[some (.box [.cl f []])]:=by
 apply aC pV;simp only[go_sem,aP];refine aQ l.length (λi=>⟨1,[(0,.ls 2 (l.map NodeM.A)),(1,.cl iV [.ptr 0 0]),(7,iv l.length),(8,iv i)],[some (.box [.cl f []])]⟩) (λi=>∀j(a:j<l.length),j<i->(!m l[j])=false) ?_ W_ ?_ ?_;simp only[go_sem];intro i b c;have e:(l.map NodeM.A)[i]?=some [uv l[i].Pub,F5 l[i].Boxes]:=aO _ l i b;simp only[go_sem,aT b,e];apply aG [0] (aB _) d_ s_ rfl rfl (UM f m l[i] (h _ (eQ b)));rintro r k ⟨rfl,rfl⟩
 cases d:m l[i]with
 |true=>
  simp only[go_sem,fQ i o_];grind
 |false=>
  simp only[go_sem];rw[mC b c e_]
 intro c;simp only[go_sem,aS (bP _)];rw[lD λj a=>c j a a]
def WY(f:Nat)(m:NodeM->Bool)(l:List NodeM)(a:l.length<2^63-1)(h:∀x∈l,aA PQ G f [.ag x.A] [] λr T=>r=.v (.bool (m x))/\T=[]):
 aA PQ G dY [.ls 2 (l.map NodeM.A),.cl iV [.ptr 0 0]] [some (.box [.cl f []])] λr T=>r=.v (.bool (l.any λx=>!m x))/\T=[some (.box [.cl f []])]:=by
 apply aC oE;simp only[go_sem];apply aG [0] (aB _) d_ s_ rfl rfl (WX f m l a h);rintro r b ⟨rfl,rfl⟩;simp only[go_sem,ge_iff_le,mN]
def Nz(f:Nat)(m:NodeM->Bool)(l:List NodeM)(a:l.length<2^63-1)(h:∀x∈l,aA PQ G f [.ag x.A] [] λr T=>r=.v (.bool (m x))/\T=[]):
 aA PQ G jX [.ls 2 (l.map NodeM.A),.cl f []] [] λr T=>r=.v (.bool (l.all m))/\T=[]:=by
 apply aC FD;simp only[go_sem];apply aG [0] (aB _) d_ s_ rfl rfl (WY f m l a h);rintro r b ⟨rfl,rfl⟩;simp only[go_sem,GC]
def UN(f:Nat)(m:SealM->Bool)(x:SealM)(h:aA PQ G f [.ag x.A] [] λr T=>r=.v (.bool (m x))/\T=[]):aA PQ G fW [.ag x.A,.ptr 0 0] [some (.box [.cl f []])] λr T=>r=.v (.bool (!m x))/\T=[some (.box [.cl f []])]:=by refine aC CI ?_;simp only[go_sem,SealM.A];apply cX h;simp only[go_sem]
def WZ(f:Nat)(m:SealM->Bool)(l:List SealM)(o:l.length<2^63-1)(h:∀x∈l,aA PQ G f [.ag x.A] [] λr T=>r=.v (.bool (m x))/\T=[]):
 aA PQ G dU [.ls 4 (l.map SealM.A),.cl fW [.ptr 0 0]] [some (.box [.cl f []])] λr T=>r=iv (qX (λx=>!m x) l)/\T=[some (.box [.cl f []])]:=by
 apply aC nV;simp only[go_sem,aP];refine aQ l.length (λi=>⟨1,[(0,.ls 4 (l.map SealM.A)),(1,.cl fW [.ptr 0 0]),(7,iv l.length),(8,iv i)],[some (.box [.cl f []])]⟩) (λi=>∀j(d:j<l.length),j<i->(!m l[j])=false) ?_ ar ?_ ?_;simp only[go_sem];intro i e g;have n:(l.map SealM.A)[i]?=some [.v (.int .i64 l[i].Of.a),.v (.int .i64 l[i].Of.b),.v (.int .u64 l[i].Of.c),.ls 1 (bl l[i].Body)]:=aO _ l i e;simp only[go_sem,aT e,n];apply aG [0] (aB _) d_ s_ rfl rfl (UN f m l[i] (h _ (eQ e)));rintro r p ⟨rfl,rfl⟩
 cases k:m l[i]with
 |true=>
  simp only[go_sem,fQ i o_];grind
 |false=>
  simp only[go_sem];rw[mC e g (by rw[k];rfl)]
 intro g;simp only[go_sem,aS (bP _)];rw[lD λj d=>g j d d]
def Wa(f:Nat)(m:SealM->Bool)(l:List SealM)(a:l.length<2^63-1)(h:∀x∈l,aA PQ G f [.ag x.A] [] λr T=>r=.v (.bool (m x))/\T=[]):
 aA PQ G dJ [.ls 4 (l.map SealM.A),.cl fW [.ptr 0 0]] [some (.box [.cl f []])] λr T=>r=.v (.bool (l.any λx=>!m x))/\T=[some (.box [.cl f []])]:=by
 apply aC mO;simp only[go_sem];apply aG [0] (aB _) d_ s_ rfl rfl (WZ f m l a h);rintro r b ⟨rfl,rfl⟩;simp only[go_sem,ge_iff_le,mN]
def N0(f:Nat)(m:SealM->Bool)(l:List SealM)(a:l.length<2^63-1)(h:∀x∈l,aA PQ G f [.ag x.A] [] λr T=>r=.v (.bool (m x))/\T=[]):
 aA PQ G iU [.ls 4 (l.map SealM.A),.cl f []] [] λr T=>r=.v (.bool (l.all m))/\T=[]:=by
 apply aC De;simp only[go_sem];apply aG [0] (aB _) d_ s_ rfl rfl (Wa f m l a h);rintro r b ⟨rfl,rfl⟩;simp only[go_sem,GC]
def aCN(k:Int):aA PQ G Dc [iv k] [] λr T=>r=.v (.bool (Ip k))/\T=[]:=by
 apply aC LN;unfold Ip;simp only[go_sem]
 repeat' (refine aL (λh=>?_) (λh=>?_)<;>(try simp only[vP,lI,sF]at h)<;>simp only[go_sem,h])
 all_goals simp[*]
def SJ(o:OpM):Bool:=o.Kind==7||o.Kind==8||o.Kind==12||o.Kind==10||o.Kind==11||o.Kind==13
def Ys(o:OpM):Bool:=o.Device !=0&&o.Kind !=2&&o.Kind !=3&&o.Kind !=11&&o.Kind !=13
def Yt(o:OpM):Bool:=(o.Old !=0&&o.Kind !=13)||(o.Member !=0&&o.Kind !=3&&o.Kind !=5)||(o.Role !=0&&o.Kind !=2&&o.Kind !=5)
def Yu(o:OpM):Bool:=decide ((o.Path.length:Int)>0)&&!Ip o.Kind
def Yv(o:OpM):Bool:=o.Kind !=6&&((!(o.Epoch.a==0&&(o.Epoch.b==0&&o.Epoch.c==0)))||o.N !=0||decide ((o.Refs.length:Int)>0))
def Yw(o:OpM):Bool:=((decide ((o.Body.length:Int)>0))&&o.Kind !=6&&o.Kind !=7)||((!(o.Of.a==0&&(o.Of.b==0&&o.Of.c==0)))&&!SJ o)
def Yx(o:OpM):Bool:=o.Kind !=9&&(decide ((o.Guards.length:Int)>0)||o.Wait !=0||(o.Pub:Int)!=0)
def Yy(o:OpM):Bool:=(o.Need !=0&&o.Kind !=9&&o.Kind !=1)||(decide ((o.Boxes.length:Int)>0)&&o.Kind !=9&&o.Kind !=10&&o.Kind !=11)
def xZ(o:OpM):Qk o=(!Ys o&&!Yt o&&!Yu o&&!Yv o&&!Yw o&&!Yx o&&!Yy o&&(((o.Hist.length:Int)==0)||o.Kind==2||o.Kind==13)):=rfl
def aHL(o:OpM):aA PQ G DY [.ag o.A] [] λr T=>r=.v (.bool (Qk o))/\T=[]:=by
 apply aC Pf;rw[L9];have a:sB 0 [AV.ag o.A]=[(0,.ag o.A)]:=rfl;rw[bC];refine cB (λs=>s=⟨0,[(1,.ptr 0 0)],[some (.box o.A)]⟩) ?_ ?_;simp only[go_sem];rintro s rfl;rw[bC];refine cB (λs=>s=⟨0,[(3,iv o.Kind),(1,.ptr 0 0)],[some (.box o.A)]⟩) ?_ ?_;simp only[go_sem];rintro s rfl;rw[bC];refine cB (λs=>s=⟨0,[(4,.v (.bool (SJ o))),(3,iv o.Kind),(1,.ptr 0 0)],[some (.box o.A)]⟩) ?_ ?_
 ·simp only[go_sem]
  repeat' (refine aL (λh=>?_) (λh=>?_)<;>(try simp only[vP,lI,sF]at h)<;>simp only[go_sem,h,undef])
  all_goals simp only[SJ, *,Ed,EI,EH,Bool.or_self]
 rintro s rfl;rw[bC];refine cB (λs=>s=⟨0,[(4,.v (.bool (SJ o))),(3,iv o.Kind),(1,.ptr 0 0)],[some (.box o.A)]⟩/\Ys o=false) ?_ ?_
 ·simp only[go_sem]
  repeat' (refine aL (λh=>?_) (λh=>?_)<;>(try simp only[vP,lI,sF]at h)<;>simp only[go_sem,h,undef])
  all_goals first|(rw[xZ];simp_all[Ys])|simp_all[Ys]
 rintro s ⟨rfl,h1⟩;rw[bC];refine cB (λs=>s=⟨0,[(4,.v (.bool (SJ o))),(3,iv o.Kind),(1,.ptr 0 0)],[some (.box o.A)]⟩/\Yt o=false) ?_ ?_
 ·simp only[go_sem]
  repeat' (refine aL (λh=>?_) (λh=>?_)<;>(try simp only[vP,lI,sF]at h)<;>simp only[go_sem,h,undef])
  all_goals first|(rw[xZ];simp_all[Yt])|simp_all[Yt]
 rintro s ⟨rfl,h2⟩;rw[bC];refine cB (λs=>s=⟨0,[(4,.v (.bool (SJ o))),(3,iv o.Kind),(1,.ptr 0 0)],[some (.box o.A)]⟩/\Yu o=false) ?_ ?_
 ·simp only[go_sem,aP]
  repeat' (refine aL (λh=>?_) (λh=>?_)<;>(try simp only[vP,lI,sF]at h)<;>simp only[go_sem,h,undef])
  all_goals (try (refine cX (aCN o.Kind) ?_;simp only[go_sem]))
  repeat' (refine aL (λh=>?_) (λh=>?_)<;>(try simp only[vP,lI,sF]at h)<;>simp only[go_sem,h])
  all_goals first|(rw[xZ];simp_all[Yu])|simp_all[Yu]
 rintro s ⟨rfl,h3⟩;rw[bC];refine cB (λs=>s=⟨0,[(4,.v (.bool (SJ o))),(3,iv o.Kind),(1,.ptr 0 0)],[some (.box o.A)]⟩/\Yv o=false) ?_ ?_
 ·simp only[go_sem]
  repeat' (refine aL (λh=>?_) (λh=>?_)<;>(try simp only[vP,lI,sF]at h)<;>simp only[go_sem,aP,h,undef])
  all_goals first|(rw[xZ];simp_all[Yv])|simp_all[Yv]
 rintro s ⟨rfl,e⟩;rw[bC];refine cB (λs=>s=⟨0,[(3,iv o.Kind),(1,.ptr 0 0)],[some (.box o.A)]⟩/\Yw o=false) ?_ ?_
 ·simp only[go_sem,aP]
  repeat' (refine aL (λh=>?_) (λh=>?_)<;>(try simp only[vP,lI,sF]at h)<;>simp only[go_sem,h,undef])
  all_goals first|(rw[xZ];simp_all[Yw])|simp_all[Yw]
 rintro s ⟨rfl,d⟩;rw[bC];refine cB (λs=>s=⟨0,[(3,iv o.Kind),(1,.ptr 0 0)],[some (.box o.A)]⟩/\Yx o=false) ?_ ?_
 ·simp only[go_sem]
  repeat' (refine aL (λh=>?_) (λh=>?_)<;>(try simp only[vP,lI,sF]at h)<;>simp only[go_sem,aP,h,undef])
  all_goals first|(rw[xZ];simp_all[Yx])|simp_all[Yx]
 rintro s ⟨rfl,c⟩;rw[bC];refine cB (λs=>s=⟨0,[(3,iv o.Kind),(1,.ptr 0 0)],[some (.box o.A)]⟩/\Yy o=false) ?_ ?_
 ·simp only[go_sem]
  repeat' (refine aL (λh=>?_) (λh=>?_)<;>(try simp only[vP,lI,sF]at h)<;>simp only[go_sem,aP,h,undef])
  all_goals first|(rw[xZ];simp_all[Yy])|simp_all[Yy]
 rintro s ⟨rfl,b⟩;simp only[go_sem,aP]
 repeat' (refine aL (λh=>?_) (λh=>?_)<;>(try simp only[vP,lI,sF]at h)<;>simp only[go_sem,h,undef])
 all_goals rw[xZ];simp_all
def UW(o:OpM):List (Int×Nat×Bool):=[(1,9,o.Device !=0),(2,12,o.Old !=0),(4,15,o.Member !=0),(8,18,o.Role !=0),(16,22,decide ((o.Path.length:Int)>0)),(32,26,!(o.Epoch.a==0&&(o.Epoch.b==0&&o.Epoch.c==0))),(64,29,o.N !=0),(128,33,decide ((o.Body.length:Int)>0)),(256,37,decide ((o.Refs.length:Int)>0)),(512,41,!(o.Of.a==0&&(o.Of.b==0&&o.Of.c==0))),
 (1024,45,decide ((o.Guards.length:Int)>0)),(2048,48,o.Need !=0),(4096,51,o.Wait !=0),(8192,55,decide ((o.Boxes.length:Int)>0)),(16384,58,((o.Pub:Int)!=0)),(32768,62,decide ((o.Hist.length:Int)>0))]
def aAx(o:OpM):aA PQ G DW [.ag o.A] [] λr T=>r=iv ((sC (jQ o):Nat):Int)/\T=[]:=by
 apply aC LR;simp only[go_sem,OpM.A_def,aP];refine aHI rfl (Nv (T0:=[some (.box o.A),none]) (i:=1) (m:=6) s_ rfl ?_ 16 (UW o) [] rfl ?_ ?_ ?_);intro X;simp only[go_sem,OpM.A_def,aP];intro e g;simp only[UW,cS,pP,or_false]at g;rcases g with rfl|rfl|rfl|rfl|rfl|rfl|rfl|rfl|rfl|rfl|rfl|rfl|rfl|rfl|rfl|rfl<;>rfl;show([1,2,4,8,16,32,64,128,256,512,1024,2048,4096,8192,16384,32768]:B_).Nodup;decide;intro X M;have f:X.Perm (jQ o):=M;have L:∀e∈X,∃k:Nat,e.1=(k:Int)/\k<65536:=λe g=>by have:=f.mem_iff.1 g;simp only[jQ,cS,pP,or_false]at this;rcases this with rfl|rfl|rfl|rfl|rfl|rfl|rfl|rfl|rfl|rfl|rfl|rfl|rfl|rfl|rfl|rfl;exact⟨1,rfl,d_⟩;exact⟨2,rfl,d_⟩;exact⟨4,rfl,d_⟩;exact⟨8,rfl,d_⟩;exact⟨16,rfl,d_⟩;exact⟨32,rfl,d_⟩;exact⟨64,rfl,d_⟩;exact⟨128,rfl,d_⟩;exact⟨256,rfl,d_⟩;exact⟨512,rfl,d_⟩;exact⟨1024,rfl,d_⟩;exact⟨2048,rfl,d_⟩;exact⟨4096,rfl,d_⟩;exact⟨8192,rfl,d_⟩;exact⟨16384,rfl,d_⟩;exact⟨32768,rfl,d_⟩
 have K:X.length=16:=f.length_eq;rw[<-Nw f];clear M f;simp only[go_sem,MP,OpM.A_def];have E:∀e∈Io X [],e.1.toNat<65536:=λe g=>by simp[Io]at g
 refine cO (λn I=>∃aAD:V_,n=16-aAD.length/\aAD.Nodup/\(∀b∈aAD,b<X.length)/\I=⟨0,[(3,iv ((sC (Io X aAD):Nat):Int)),(64,.ptr 0 0)],[some (.mit (some 1) X.length aAD X.length),some (MP X)]⟩) 16 ⟨[],rfl,Mm,λb d=>by simp at d,?_⟩ ?_;simp only[go_sem,MP];rfl;rintro n I ⟨aAD,rfl,C,q,rfl⟩;have N:aAD.length<=16:=by have h1:aAD.length<=(List.range X.length).length:=xY C λb d=>uM.2 (q b d);simp_all
 have D:∀e∈Io X aAD,e.1.toNat<65536:=λe g=>by obtain⟨b,d,rfl⟩:=dF.1 g;have F:=q b d;obtain⟨k,h1,h2⟩:=L X[b] (eQ F);simp_all
 have p:sC (Io X aAD)<65536:=WS _ 0 d_ D;simp only[go_sem];refine aGW rfl rfl (cN _) (cN _) (λl=>?_) λb d w=>?_;have:=Nw (aFf C q l);simp only[go_sem,this];obtain⟨k,h1,h2⟩:=L X[b] (eQ d);have h3:(X.map λe=>[Value.int .i64 e.1])[b]?=some [.int .i64 (k:Int)]:=by simp[d,h1]
 have H:(X.map λe=>AV.v (.bool e.2))[b]?=some (.v (.bool X[b].2)):=gf;have j:iY false [Value.int .i64 (k:Int)]=.int .i64 (k:Int):=fI rfl rfl;have u:=aCI (sC (Io X aAD)) k p h2;have z:sC (Io X (aAD++[b]))=Yq (sC (Io X aAD)) X[b]:=by simp only[sC,Io,bZ,fG,uP,Hy,CW,Kk,rH,jN d,Mi]
 have c:∀v:Nat,Yq (sC (Io X aAD)) X[b]=v->∃m,m<16-aAD.length/\∃a:V_,m=16-a.length/\a.Nodup/\(∀b∈a,b<X.length)/\(⟨0,[(3,iv v),(64,.ptr 0 0)],[some (.mit (some 1) X.length (aAD++[b]) X.length),some (MP X)]⟩:St)=⟨0,[(3,iv ((sC (Io X a):Nat):Int)),(64,.ptr 0 0)],[some (.mit (some 1) X.length a X.length),some (MP X)]⟩:=λv P=>by have B:(aAD++[b]).Nodup:=vQ.2 ⟨C,s_,λx s y J e=>w (by rw[cA]at J;rw[<-J,<-e];exact s)⟩;have O:(aAD++[b]).length<=(List.range X.length).length:=xY B λx s=>uM.2 ((cG.1 s).elim (q x) λh=>by rw[cA.1 h];exact d);grind
 unfold Yq at c;rw[h1]at c;simp only[nI]at c;generalize X[b].2=t at H c
 cases t with
 |true=>
  simp only[go_sem,MP,Ke,CJ d,h3,H,↓j,↓u,h1];simp_all
 |false=>
  simp only[go_sem,MP,Ke,CJ d,h3,H,↓j,h1];simp_all
structure GM where
 Cards:List CardM
 L:List OpM
 I:List Id
 Up:List (List Nat)
 In:List (List Bool)
 deriving DecidableEq,Inhabited
abbrev Sa(l:List Nat):AV:=.ls 1 (l.map λn:Nat=>[iv (n:Int)])
abbrev wI(l:List Bool):AV:=.ls 1 (l.map λb=>[AV.v (.bool b)])
def GM.A(g:GM):O_:=[.ls 5 (g.Cards.map CardM.A),.ls 27 (g.L.map OpM.A),ids g.I,.ls 1 (g.Up.map λl=>[Sa l]),.ls 1 (g.In.map λl=>[wI l])]
def GM.A_def(g:GM):g.A=[.ls 5 (g.Cards.map CardM.A),.ls 27 (g.L.map OpM.A),ids g.I,.ls 1 (g.Up.map λl=>[Sa l]),.ls 1 (g.In.map λl=>[wI l])]:=fI rfl rfl
def GM.g0(g:GM):g.A[0]?=some (.ls 5 (g.Cards.map CardM.A)):=fI rfl rfl
def GM.g1(g:GM):g.A[1]?=some (.ls 27 (g.L.map OpM.A)):=fI rfl rfl
def GM.g2(g:GM):g.A[2]?=some (ids g.I):=fI rfl rfl
def GM.g3(g:GM):g.A[3]?=some (.ls 1 (g.Up.map λl=>[Sa l])):=fI rfl rfl
def GM.g4(g:GM):g.A[4]?=some (.ls 1 (g.In.map λl=>[wI l])):=fI rfl rfl
def GM.len(g:GM):g.A.length=5:=fI rfl rfl
def GM.t5(g:GM):g.A.take 5=g.A:=fI rfl rfl
def GM.ids0(g:GM):iZ g.A=[]:=fI rfl rfl
attribute [go_sem] GM.g0 GM.g1 GM.g2 GM.g3 GM.g4 GM.len GM.t5 GM.ids0
def GM.one0(g:GM):g.A.all gS=true:=by simp[GM.A,gS]
def GM.one(g:GM):g.A.all gS=true:=GM.one0 g
def GM.rn(L:V_)(g:GM):xF L g.A=g.A:=fI rfl rfl
def GM.bk(L:V_)(n:Nat)(g:GM):EJ L n g.A=g.A:=fI rfl rfl
def GM.sl(i k:Nat)(es:N_)(g:GM):IB i k es g.A=g.A:=fI rfl rfl
attribute [go_sem] GM.one GM.rn GM.bk GM.sl
structure GM.ok(g:GM):Prop where
 n:g.L.length<=1000
 cn:g.Cards.length<=1000
 cs:∀c∈g.Cards,c.ok
 ops:∀o∈g.L,o.ok
 i:g.I.length=g.L.length
 is:∀x∈g.I,x.ok
 un:g.Up.length=g.L.length
 up:∀u∈g.Up,u.length<=1000/\∀k∈u,k<g.L.length
 inn:g.In.length=g.L.length
 ins:∀r∈g.In,r.length=g.L.length
def aW(I:D_)(x:Id):Int:=qX (λy=>decide (y=x)) I
def gM(cs:List CardM)(d:Int):CardM×Bool:=match cs.find? (λc=>c.Device==d) with|some c=>(c,true)|none=>(default,false)
def OG(c:List V_)(up:V_)(a:List Bool)(i:Nat):List Bool :=
 if(if decide (i∈up) then a.set i true else a).getD i false then(c.getD i []).foldl (λb k=>b.set k true) (if decide (i∈up) then a.set i true else a) else(if decide (i∈up) then a.set i true else a)
def Kx(b:List V_)(up:V_):Nat->List Bool->List Bool|0,a=>a|i+1,a=>Kx b up i (OG b up a i)
def oL(g:GM)(up:V_):List Bool:=Kx g.Up up g.L.length (List.replicate g.L.length false)
def I0(o:OpM)(e:OpM×Bool):Bool:=e.2&&e.1.By==o.By
def FT(L:List OpM)(o:OpM)(a:List Bool):Bool :=
 (L.zip a).all (λe=>!(I0 o e)||decide (e.1.Seq<o.Seq))&&((o.Seq==1)||(L.zip a).any λe=>I0 o e&&e.1.Seq==o.Seq-1)
def Pu(I:D_)(l:D_):Option V_:=if l.all (λx=>decide (0<=aW I x)) then some (l.map λx=>(aW I x).toNat) else none
def J0(g:GM)(o:OpM)(up:V_):Bool:=up.all λi=>(up.all λk=>!((g.In.getD i []).getD k false))&&!decide (o.At<(g.L.getD i default).At)
def OpM.e1(o:OpM):(o.A.drop 1)[0]?=some (iv o.Seq):=fI rfl rfl
def OpM.e2(o:OpM):(o.A.drop 2)[0]?=some (iv o.Kind):=fI rfl rfl
def OpM.e3(o:OpM):(o.A.drop 3)[0]?=some (iv o.At):=fI rfl rfl
def OpM.e4(o:OpM):(o.A.drop 4)[0]?=some (ids o.Past):=fI rfl rfl
def OpM.e5(o:OpM):(o.A.drop 5)[0]?=some (iv o.Device):=fI rfl rfl
def OpM.e6(o:OpM):(o.A.drop 6)[0]?=some (iv o.Old):=fI rfl rfl
def OpM.e7(o:OpM):(o.A.drop 7)[0]?=some (iv o.Member):=fI rfl rfl
def OpM.e8(o:OpM):(o.A.drop 8)[0]?=some (iv o.Role):=fI rfl rfl
def OpM.e9(o:OpM):(o.A.drop 9)[0]?=some (.ls 2 (o.Path.map NodeM.A)):=fI rfl rfl
def OpM.e13(o:OpM):(o.A.drop 13)[0]?=some (iv o.N):=fI rfl rfl
def OpM.e14(o:OpM):(o.A.drop 14)[0]?=some (.ls 1 (bl o.Body)):=fI rfl rfl
def OpM.e15(o:OpM):(o.A.drop 15)[0]?=some (.ls 1 (ul o.Refs)):=fI rfl rfl
def OpM.e19(o:OpM):(o.A.drop 19)[0]?=some (rG o.Guards):=fI rfl rfl
def OpM.e20(o:OpM):(o.A.drop 20)[0]?=some (iv o.Need):=fI rfl rfl
def OpM.e21(o:OpM):(o.A.drop 21)[0]?=some (iv o.Wait):=fI rfl rfl
def OpM.e22(o:OpM):(o.A.drop 22)[0]?=some (F5 o.Boxes):=fI rfl rfl
def OpM.e23(o:OpM):(o.A.drop 23)[0]?=some (uv o.Pub):=fI rfl rfl
def OpM.e24(o:OpM):(o.A.drop 24)[0]?=some (.ls 4 (o.Hist.map SealM.A)):=fI rfl rfl
def OpM.e25(o:OpM):(o.A.drop 25)[0]?=some (uv o.SR):=fI rfl rfl
def OpM.e26(o:OpM):(o.A.drop 26)[0]?=some (uv o.SS):=fI rfl rfl
attribute [go_sem] OpM.e1 OpM.e2 OpM.e3 OpM.e4 OpM.e5 OpM.e6 OpM.e7 OpM.e8 OpM.e9 OpM.e13 OpM.e14 OpM.e15 OpM.e19 OpM.e20 OpM.e21 OpM.e22 OpM.e23 OpM.e24 OpM.e25 OpM.e26
structure VM where
 Of:Id
 By:Int
 Device:Int
 At:Int
 deriving DecidableEq,Inhabited
structure MM where
 N:Int
 Role:Int
 Is:Bool
 ID:Id
 Guards:List Int
 Need:Int
 Wait:Int
 Obj:Bool
 Last:Int
 deriving DecidableEq,Inhabited
structure RM where
 Cards:List CardM
 In:List Int
 Gone:List Int
 L:List MM
 Back:Int
 V:List VM
 deriving DecidableEq,Inhabited
def VM.A(v:VM):O_:=[iv v.Of.a,iv v.Of.b,.v (.int .u64 v.Of.c),iv v.By,iv v.Device,iv v.At]
def MM.A(m:MM):O_:=[iv m.N,iv m.Role,.v (.bool m.Is),iv m.ID.a,iv m.ID.b,.v (.int .u64 m.ID.c),rG m.Guards,iv m.Need,iv m.Wait,.v (.bool m.Obj),iv m.Last]
def RM.A(r:RM):O_:=[.ls 5 (r.Cards.map CardM.A),rG r.In,rG r.Gone,.ls 11 (r.L.map MM.A),iv r.Back,.ls 6 (r.V.map VM.A)]
def eI(r:RM)(d:Int):Int:=match r.Cards.find? (λc=>c.Device==d) with|some c=>c.Member|none=>0
def jL(r:RM)(n:Int):Int:=qX (λm=>m.N==n) r.L
def sD(r:RM)(n:Int):Int:=if jL r n<0 then 0 else(r.L.getD (jL r n).toNat default).Role
def aB6(r:RM)(d:Int):Bool:=decide (d∈r.In)||decide (d∈r.Gone)
def lZ(r:RM)(d:Int):Bool:=decide (0<eI r d)&&!aB6 r d
def pZ(r:RM)(x:Id):Int:=qX (λm=>m.Is&&decide (m.ID=x)) r.L
def kR(out:B_)(x:Int):Nat:=(out.takeWhile λy=>decide (y<=x)).length
def Sz(out:B_)(x:Int):B_:=out.take (kR out x)++([x]++out.drop (kR out x))
def C0(l:B_):B_:=l.foldl Sz []
def RF(out:B_)(x:Int):(Sz out x).Perm (x::out):=by show(out.take (kR out x)++x::out.drop (kR out x)).Perm (x::out);grind[List.take_append_drop]
def Ow:∀(l out:B_),(l.foldl Sz out).Perm (l++out)|[],out=>.refl _|x::l,out=>by refine(Ow l _).trans (((RF out x).append_left l).trans ?_);simp
def Hl(l:B_):(C0 l).Perm l:=by have:=Ow l [];rwa[jO]at this
def XZ(r:RM)(x:Id)(d:Int):B_:=C0 ((r.V.filter λv=>decide (v.Of=x)&&(v.Device==d)).map (·.At))
def Ll(r:RM)(n d:Int):Int×Int :=
 if jL r n<0 then(0,4) else
 let m:=r.L.getD (jL r n).toNat default
 if !m.Is then(0,4) else
 let a:=XZ r m.ID d
 if(a.length:Int)<m.Need then(0,26) else
 if m.Obj&&decide (a.getD 0 0<=m.Last) then(0,28) else(IntKind.i64.wrap (a.getD (m.Need-1).toNat 0+m.Wait),0)
def kD(r:RM)(o:OpM):Int×Int :=
 let a:=pZ r o.Of
 if a<0 then(-1,25) else
 if !decide (o.By∈(r.L.getD a.toNat default).Guards) then(-1,14) else(a,0)
def JI(r:RM)(o:OpM)(m:Int)(rules:Bool):Int :=
 if o.Device≠0 then(if !decide (o.Device∈r.In) then 17 else if !rules&&eI r o.Device !=m then 14 else 0) else
 if jL r o.Member<0 then 16 else if !rules&&o.Member !=m then 14 else 0
def C1(r:RM)(o:OpM):Int :=
 let g:=kD r o
 if g.2≠0 then g.2 else
 let n:=(r.L.getD g.1.toNat default).N
 if o.Kind==11&&eI r o.Device !=n then 16 else
 if o.Kind==13&&(!decide (o.Old∈r.In)||eI r o.Old !=n||eI r o.Device !=n) then 17 else
 if !lZ r o.Device then 17 else
 if o.Kind==11 then 0 else
 let d:=Ll r n o.Device
 if d.2==0&&decide (o.At<d.1) then 27 else d.2
def mT(r:RM)(o:OpM):Int :=
 let m:=eI r o.By
 if o.Kind==1 then(if m==0 then 17 else if 0<r.In.length\/0<r.Gone.length then 5 else 0) else
 if !decide (o.By∈r.In) then 15 else
 let rules:=sD r m==3
 if o.Kind==2 then(if !lZ r o.Device then 17 else if !rules&&eI r o.Device !=m then 14 else 0) else
 if o.Kind==3 then JI r o m rules else
 if o.Kind==5 then(if !rules then 14 else if jL r o.Member<0 then 16 else 0) else
 if o.Kind==6 then(if sD r m<2 then 14 else 0) else
 if o.Kind==8 then(if !rules&&eI r o.Of.a !=m then 14 else 0) else
 if o.Kind==9 then(if o.Guards.all λd=>decide (d∈r.In) then 0 else 17) else
 if o.Kind==10||o.Kind==12 then(if jL r m<0 then 25 else if !(r.L.getD (jL r m).toNat default).Is||!decide ((r.L.getD (jL r m).toNat default).ID=o.Of) then 25 else 0) else
 if o.Kind==11||o.Kind==13 then C1 r o else 0
def mU(r:RM)(d role:Int):RM :=
 if !lZ r d then r else
 {r with In:=r.In++[d],L:=if jL r (eI r d)<0 then r.L++[⟨eI r d,role,false,⟨0,0,0⟩,[],0,0,false,0⟩] else r.L}
def Fh(r:RM):List VM:=r.V.filter λv=>decide (0<=pZ r v.Of)
def lN(r:RM)(d:Int):RM :=
 if !decide (d∈r.In) then r else
 let n:=eI r d
 let i:=r.In.filter λx=>x !=d
 let b:={r with In:=i,Gone:=r.Gone++[d]}
 if i.any λx=>eI r x==n then b else
 let a:={b with L:=r.L.filter λm=>m.N !=n}
 {a with V:=Fh a}
def BN(r:RM)(o:OpM)(x:Id):RM :=
 let k:=jL r (eI r o.By)
 if k<0 then r else
 let m:=r.L.getD k.toNat default
 let a:={r with L:=r.L.set k.toNat ⟨m.N,m.Role,true,x,o.Guards,o.Need,o.Wait,false,0⟩}
 {a with V:=Fh a}
def iQ(r:RM)(o:OpM):RM :=
 if(kD r o).2≠0 then r else
 let same:=λv:VM=>decide (v.Of=o.Of)&&(v.By==o.By&&v.Device==o.Device)
 {r with V:=r.V.filter (λv=>!same v)++[⟨o.Of,o.By,o.Device,(r.V.filter same).foldl (λa v=>min a v.At) o.At⟩]}
def BS(r:RM)(o:OpM)(x:Id):RM :=
 if o.Kind==1 then(if 0<r.In.length\/0<r.Gone.length\/eI r o.By=0 then r else {mU r o.By 3 with Back:=o.Need}) else
 if o.Kind==2 then mU r o.Device o.Role else
 if o.Kind==3 then(if o.Device=0 then r.In.filter (λd=>eI r d==o.Member) else [o.Device]).foldl lN r else
 if o.Kind==5 then(if jL r o.Member<0 then r else {r with L:=r.L.set (jL r o.Member).toNat { (r.L.getD (jL r o.Member).toNat default) with Role:=o.Role} }) else
 if o.Kind==9 then BN r o x else
 if o.Kind==11 then iQ r o else
 if o.Kind==12 then
  let k:=jL r (eI r o.By)
  if k<0 then r else
  let m:=r.L.getD k.toNat default
  if m.Is&&decide (m.ID=o.Of) then {r with L:=r.L.set k.toNat {m with Obj:=true,Last:=max m.Last o.At} } else r
 else
 if o.Kind==13 then
  let k:=pZ r o.Of
  if k<0 then r else
  let n:=(r.L.getD k.toNat default).N
  if decide (o.Old∈r.In)&&(eI r o.Old==n&&eI r o.Device==n) then lN (mU r o.Device (sD r (eI r o.Device))) o.Old else r
 else r
def RM.new(cs:List CardM):RM:=⟨cs,[],[],[],0,[]⟩
end Hud
