import Derived.Test.YtdichbeaekjibaaGreatDoorLib06
set_option linter.all false
set_option maxHeartbeats 40000000
namespace Hud
open Go
section
variable{G:L_}
def tR(n lo a:Int):aA PQ G bM [iv n,iv lo,iv a] [] λr T=>r=.v (.bool (oI n lo a))/\T=[]:=by refine aC WQ ?_;unfold oI;cases h:decide (lo<=n)<;>simp only[go_sem,ge_iff_le,h,mF,aC1]
def Bt(n:Nat):aA PQ G jS [uv n] [] λr T=>r=.v (.bool (HK n))/\T=[]:=by refine aC Np ?_;unfold HK;cases h:decide ((1:Int)<=(n:Int))<;>simp only[go_sem,ge_iff_le,h,mF,aC1]
def MC(n:Int):aA PQ G Da [.v (.int .u64 n)] [] λr T=>r=.v (.bool (okM n))/\T=[]:=by refine aC WR ?_;unfold okM;simp only[go_sem]
def Dg(x:Id):aA PQ G fC [.ag x.A] [] λr T=>r=.v (.bool (jP x))/\T=[]:=by refine aC Pj ?_;unfold jP;simp only[go_sem,Id.A_def];apply cX (tR x.a 1 12);cases h1:oI x.a 1 12;simp only[go_sem,aC1];simp only[go_sem];apply cX (tR x.b 1 2147483647);cases h2:oI x.b 1 2147483647;simp only[go_sem,aC1,mF];simp only[go_sem];apply cX (MC x.c);simp only[go_sem,mF]
def FF(n lo a:Int):aA PQ G dP [iv n,iv lo,iv a] [] λr T=>r=.v (.bool (oI n lo a))/\T=[]:=by refine aC UH ?_;unfold oI;cases h:decide (lo<=n)<;>simp only[go_sem,ge_iff_le,h,mF,aC1]
def Dh(n:Nat):aA PQ G kQ [uv n] [] λr T=>r=.v (.bool (HK n))/\T=[]:=by refine aC LO ?_;unfold HK;cases h:decide ((1:Int)<=(n:Int))<;>simp only[go_sem,ge_iff_le,h,mF,aC1]
def Nt(n:Int):aA PQ G xV [.v (.int .u64 n)] [] λr T=>r=.v (.bool (okM n))/\T=[]:=by refine aC UI ?_;unfold okM;simp only[go_sem]
def FG(x:Id):aA PQ G jT [.ag x.A] [] λr T=>r=.v (.bool (jP x))/\T=[]:=by refine aC Nj ?_;unfold jP;simp only[go_sem,Id.A_def];apply cX (FF x.a 1 12);cases h1:oI x.a 1 12;simp only[go_sem,aC1];simp only[go_sem];apply cX (FF x.b 1 2147483647);cases h2:oI x.b 1 2147483647;simp only[go_sem,aC1,mF];simp only[go_sem];apply cX (Nt x.c);simp only[go_sem,mF]
def Nu(b:BoxM):aA PQ G wF [.ag b.A] [] λr T=>r=.v (.bool (wA b))/\T=[]:=by refine aC Pk ?_;unfold wA BoxM.A;simp only[go_sem];apply cX (Bt b.To);cases h1:HK b.To;simp only[go_sem,aC1];simp only[go_sem];apply cX (Bt b.Eph);cases h2:HK b.Eph;simp only[go_sem,aC1,mF];simp only[go_sem];apply cX (MC (b.Body:Int));cases h3:okM (b.Body:Int);simp only[go_sem,aC1,mF];simp only[go_sem];apply cX (MC (b.Tag:Int));simp only[go_sem,mF]
end
def MP(D:List (Int×Bool)):AObj:=.map false (D.map λe=>[.int .i64 e.1]) (D.map λe=>.v (.bool e.2)) (List.range D.length) D.length
abbrev aHH(m:Nat)(e:Int×Nat×Bool):HOper:=⟨none,.mup false [.int .i64] (.tmp m) (.const (.int .i64 e.1)) (.tmp e.2.1),none⟩
def UJ{k:Int}:∀(D:List (Int×Bool))(i:Nat),k∉D.map (·.1)->aBC [.int .i64] [.int .i64 k] (D.map λe=>[.int .i64 e.1]) i=some none
 |[],_,_=>rfl
 |e::D,i,h=>by
  simp only[fG,cS,not_or]at h;have h1:(k==e.1)=false:=by simpa using h.1
  simp only[fG,aBC,rJ,and_self,if_true,h1,aC1];exact UJ D (i+1) h.2
def aCG{T:aK}{i:Nat}(a:i<T.length)(o:AObj):cR (T.set i (some o)) i=some o:=by grind[cR]
def aFe(D:List (Int×Bool))(e:Int×Bool):AObj.map false ((D.map λe=>[.int .i64 e.1])++[[.int .i64 e.1]]) ((D.map λe=>AV.v (.bool e.2))++[.v (.bool e.2)]) (List.range D.length++[D.length]) (D.length+1)=MP (D++[e]):=by simp only[MP,bZ,fG,uP,dZ,sE,gQ,pQ,QH]
def Yp{T:aK}{i:Nat}(f:i<T.length){ev:Operand->AV}{m:Nat}{D:List (Int×Bool)}{e:Int×Nat×Bool}(c:ev (.tmp m)=.mp i)(d:ev (.const (.int .i64 e.1))=iv e.1)(a:ev (.tmp e.2.1)=.v (.bool e.2.2))(b:e.1∉D.map (·.1)):
 cE (T.set i (some (MP D))) ev (.mup false [.int .i64] (.tmp m) (.const (.int .i64 e.1)) (.tmp e.2.1))=some (.v undef,T.set i (some (MP (D++[(e.1,e.2.2)])))):=by
 have h1:LF false [.int .i64] (iv e.1)=some [.int .i64 e.1]:=by simp[LF,rJ]
 simp only[cE,c,aCG f,d,a,h1];simp only[MP,if_true,UJ D 0 b,List.set_set];rw[<-MP,<-aFe D (e.1,e.2.2)]
def Gw{α:Type}:∀(l:List α)(j:Nat)(h:j<l.length),(l[j]::l.eraseIdx j).Perm l|x::l,0,_=>by simp|x::l,j+1,h=>by simp only[List.getElem_cons_succ,X7];exact(List.Perm.swap _ _ _).trans ((Gw l j x_).cons x)
def Nv {P:Program} {G:L_} {g:List HOper} {r:Nat} {s:List (Nat×AV)} {T0:aK} {i m:Nat} {K:St->Prop} (B:i<T0.length) (z:aAD s m=.mp i) (C:∀X,qL G ⟨r,s,T0.set i (some (MP X))⟩ g):
 ∀(n:Nat)(l:List (Int×Nat×Bool))(D:List (Int×Bool)),l.length=n->(∀e∈l,aAD s e.2.1=.v (.bool e.2.2))->(D.map (·.1)++l.map (·.1)).Nodup ->
  (∀X,X.Perm (D++l.map λe=>(e.1,e.2.2))->K ⟨r,s,T0.set i (some (MP X))⟩)->IH P G g n (l.map (aHH m)) ⟨r,s,T0.set i (some (MP D))⟩ K
 |0,l,D,A,_,_,t=>by
  have:l=[]:=Ae A;subst this;exact t D k_
 | n+1,l,D,A,u,y,t=>by
  intro j o b;rw[gE]at b
  cases q:l[j]? with
  |none=>rw[q]at b;simp at b| some e=>
   rw[q]at b;simp only[iX,E_]at b;subst b;obtain⟨d,p⟩:=sV.1 q;have f:e∈l:=l_;have w:(e::l.eraseIdx j).Perm l:=by rw[<-p];exact Gw l j d
   have k:e.1∉D.map (·.1):=λh=>(vQ.1 y).2.2 _ h _ (dF.2 ⟨e,f,rfl⟩) rfl;have a:=Yp (T:=T0) B (ev:=dW G s) (m:=m) (D:=D) (e:=e) (by simpa[dW]using z) rfl (by simpa[dW]using u e f) k;have c:(l.map (aHH m)).eraseIdx j=(l.eraseIdx j).map (aHH m):=CD _ l j;simp only[fY,yF,a,fV];refine⟨C _,?_⟩;rw[c];refine Nv B z C n (l.eraseIdx j) (D++[(e.1,e.2.2)]) (by rw[Rg d];omega) (λx E=>u x (List.mem_of_mem_eraseIdx E)) ?_ λX F=>t X (F.trans ?_);refine(List.Perm.nodup_iff ?_).2 y;rw[bZ,eB];apply YB _;have:=w.map (·.1);simpa using this;rw[eB];apply YB _;have:=w.map λe:Int×Nat×Bool=>(e.1,e.2.2)
   simpa using this
def aGW{T:aK}{i j a la:Nat}{c:V_}{X:List (Int×Bool)}{K:AV->aK->Prop}(r:cR T i=some (.mit (some j) a c la))(s:cR T j=some (MP X))(h1:a<=la)(h2:X.length<=a)
 (g:(∀b,b<X.length->b∈c)->K (.v (.tuple #[.bool false])) T)
 (n:∀b(h:b<X.length),b∉c->K (.tup [.v (.bool true),.v (.int .i64 X[b].1),.v (.bool X[b].2)]) (T.set i (some (.mit (some j) a (c++[b]) X.length)))):@aCA T (.ptr i 0) ⟨K⟩:=by
 simp only[aCA,r,s,MP];refine⟨h1,λb d=>CV (uM.1 d) h2,λh=>g λb d=>h b (uM.2 d),λe k v b f m d q=>?_⟩;rw[gE]at f m
 cases p:X[e]? with
 |none=>rw[p]at f;simp at f|some x=>
  obtain⟨l,o⟩:=sV.1 p;rw[p]at f m;simp only[iX,E_]at f m;rw[aBQ l]at d;simp only[E_]at d;subst d;have:=n e l q;rw[o]at this;rw[<-f,<-m];exact this
def CJ{n b:Nat}(h:b<n):(List.range n).findIdx? (· == b)=some b:=by grind[List.findIdx?_eq_some_iff_getElem]
def Yq(a:Nat)(e:Int×Bool):Nat:=if e.2 then a ||| e.1.toNat else a
def aCH(a:Nat)(x y:Int×Bool):Yq (Yq a x) y=Yq (Yq a y) x:=by grind[Yq,Bool.or_assoc]
def sC(X:List (Int×Bool)):Nat:=X.foldl Yq 0
def Nw{X Y:List (Int×Bool)}(h:X.Perm Y):sC X=sC Y:=h.foldl_eq' (λx _ y _ z=>aCH z x y) 0
def Io(X:List (Int×Bool))(a:V_):List (Int×Bool):=a.map λb=>X.getD b (0,false)
def aFf{X:List (Int×Bool)}{a:V_}(c:a.Nodup)(d:∀b∈a,b<X.length)(e:∀b,b<X.length->b∈a):(Io X a).Perm X:=by
 have h1:a.Perm (List.range X.length):=(aBH c aBT).2 λb=>l_;have h2:Io X (List.range X.length)=X:=by unfold Io;refine Ki k_ λi h1 h2=>?_;simp_all
 have:=h1.map λb=>X.getD b (0,false);rwa[show(List.range X.length).map (λb=>X.getD b (0,false))=X from h2]at this
def aHI{P:Program}{G:L_}{b a:List HOper}{next:HD}{st:St}{K:St->Prop}{n:Nat}(c:a.length=n)(h:IH P G b n a st λs=>@hdC P G next s ⟨K⟩):@hdC P G (.perm b a next) st ⟨K⟩:=by subst c;exact h
def aCI(a b:Nat)(d:a<65536)(c:b<65536):bV .or (.int .i64 (a:Int)) (.int .i64 (b:Int))=some (.int .i64 ((a ||| b:Nat):Int)):=by
 have e:a ||| b<65536:=TX (n:=16) d c;have h1:(BitVec.ofInt IntKind.i64.bits (a:Int) ||| BitVec.ofInt IntKind.i64.bits (b:Int)).toNat=a ||| b:=by
  have ea:(BitVec.ofInt 64 (a:Int)).toNat=a:=i_;have f:(BitVec.ofInt 64 (b:Int)).toNat=b:=i_;show(BitVec.ofInt 64 (a:Int) ||| BitVec.ofInt 64 (b:Int)).toNat=a ||| b;grind
 simp only[bV,if_true,h1];rw[aJ o_ o_]
def aHJ{a:Nat}{e:Int×Bool}(b:a<65536)(c:e.1.toNat<65536):Yq a e<65536:=by unfold Yq;split;exact TX (n:=16) b c;exact b
def WS:∀(l:List (Int×Bool))(a:Nat),a<65536->(∀e∈l,e.1.toNat<65536)->l.foldl Yq a<65536|[],_,h,_=>h|e::l,a,h,b=>WS l _ (aHJ h (b e EV)) λx c=>b x (GU _ c)
def xY:∀{M L:V_},M.Nodup->(∀y∈M,y∈L)->M.length<=L.length|[],_,_,_=>pR _|y::M,L,b,h=>by rw[BU]at b;have h1:=xY (M:=M) (L:=L.erase y) b.2 λz a=>(List.mem_erase_of_ne (λe:z=y=>b.1 (by rw[e]at a;exact a))).2 (h z (GU _ a));grind
def aAe(a b:Nat)(e:a<65536)(d:b<65536):bV .and (.int .i64 (a:Int)) (.int .i64 (b:Int))=some (.int .i64 ((a &&& b:Nat):Int)):=by
 have c:a &&& b<=a:=aBW;have h1:(BitVec.ofInt IntKind.i64.bits (a:Int) &&& BitVec.ofInt IntKind.i64.bits (b:Int)).toNat=a &&& b:=by
  have ea:(BitVec.ofInt 64 (a:Int)).toNat=a:=i_;have f:(BitVec.ofInt 64 (b:Int)).toNat=b:=i_;show(BitVec.ofInt 64 (a:Int) &&& BitVec.ofInt 64 (b:Int)).toNat=a &&& b;grind
 simp only[bV,if_true,h1];rw[aJ o_ o_]
def qX{α:Type}(p:α->Bool)(l:List α):Int:=match l.findIdx? p with|some i=>(i:Int)|none=>-1
def lD{α:Type}{p:α->Bool}{l:List α}(h:∀j(a:j<l.length),p l[j]=false):qX p l=-1:=by unfold qX;rw[Md.2 λx b=>by obtain⟨j,a,rfl⟩:=CU b;simp[h j a]]
def mC{α:Type}{p:α->Bool}{l:List α}{i:Nat}(b:i<l.length)(h:∀j(a:j<l.length),j<i->p l[j]=false)(h1:p l[i]=true):qX p l=(i:Int):=by unfold qX;rw[Ad.2 ⟨b,h1,λj a=>by simp[h j o_ a]⟩]
def mN{α:Type}(p:α->Bool)(l:List α):decide ((0:Int)<=qX p l)=l.any p:=by grind[qX]
def qY:V_:=[0,2064,32793,21,16,12,480,640,512,31744,8704,8705,512,33299]
def vV(k:Int):Nat:=qY.getD k.toNat 0
def nE(a b:Nat):Nat:=(BitVec.ofNat 64 a &&& ~~~(BitVec.ofNat 64 b)).toNat
def FH(o:OpM):List (Int×Bool):=
 [(1,oI o.Device (if o.Kind=3 then 0 else 1) 12),(2,oI o.Old 1 12),(4,if o.Kind=3 then(oI o.Member 1 8&&(o.Device==0))||((o.Member==0)&&(o.Device !=0)) else oI o.Member 1 8),(8,oI o.Role 1 3),(64,oI o.N 0 2147483647),(4096,oI o.Wait 0 2147483647),
  (2048,oI o.Need (if o.Kind=1 then 0 else 1) (if o.Kind=1 then 20 else o.Guards.length)),(32,jP o.Epoch),(512,jP o.Of),(16384,HK o.Pub)]
def Pm(h:Nat)(X:List (Int×Bool)):Bool:=X.all λe=>(h &&& e.1.toNat==0)||e.2
def FI(n:NodeM):Bool:=HK n.Pub&&n.Boxes.all wA
def FJ(x:SealM):Bool:=jP x.Of
def yS(n:Int):Bool:=oI n 1 12
def SF(n:Nat):Bool:=okM (n:Int)
def CK(o:OpM)(h:Nat):Bool :=
 (oI o.By 1 12&&oI o.Seq 1 2147483647&&oI o.At 0 2147483647)&&(Pm h (FH o)&&(o.Guards.all yS&&(o.Refs.all SF&&(o.Past.all jP&&(o.Path.all FI&&(o.Boxes.all wA&&o.Hist.all FJ))))))
def ED(o:OpM):Bool :=
 (decide ((o.Past.length:Int)>12)||decide ((o.Path.length:Int)>5)||!(o.Path.all λn=>decide ((n.Boxes.length:Int)<=12))||decide ((o.Body.length:Int)>208)||decide ((o.Refs.length:Int)>8)||decide ((o.Hist.length:Int)>20)||!(o.Hist.all λx=>decide ((x.Body.length:Int)<=208))||decide ((o.Guards.length:Int)>6)) ||
 (if o.Kind==7 then !oI (o.Body.length:Int) 1 20 else if o.Kind==9 then(o.Boxes.length:Int)!=(o.Guards.length:Int) else if o.Kind==10 then !oI (o.Boxes.length:Int) 1 6 else if o.Kind==11 then(o.Boxes.length:Int)!=1 else false)
def nT{α:Type}(a:α->α->Bool):List α->Bool|x::y::l=>a x y&&nT a (y::l)|_=>true
def aCJ(o:OpM):Bool:=nT Id.lt o.Past&&nT (λa b:Int=>decide (a<b)) o.Guards
def vF(o:OpM):Int :=
 if o.Kind<1\/13<o.Kind then 1
 else if nE (sC (jQ o)) (vV o.Kind)≠0 then 1
 else if CK o (vV o.Kind)=false then 8
 else if ED o then 2
 else if aCJ o=false then 6
 else if decide (o.Past.length=0)≠decide (o.Kind=1) then 10 else 0
def Ip(k:Int):Bool:=k==1||k==2||k==3||k==4||k==13
def Qk(o:OpM):Bool :=
 let k:=o.Kind
 let SJ:=k==7||k==8||k==12||k==10||k==11||k==13
 !(o.Device !=0&&k !=2&&k !=3&&k !=11&&k !=13) &&
 !((o.Old !=0&&k !=13)||(o.Member !=0&&k !=3&&k !=5)||(o.Role !=0&&k !=2&&k !=5)) &&
 !(decide ((o.Path.length:Int)>0)&&!Ip k) &&
 !(k !=6&&((!(o.Epoch.a==0&&(o.Epoch.b==0&&o.Epoch.c==0)))||o.N !=0||decide ((o.Refs.length:Int)>0))) &&
 !((decide ((o.Body.length:Int)>0)&&k !=6&&k !=7)||((!(o.Of.a==0&&(o.Of.b==0&&o.Of.c==0)))&&!SJ)) &&
 !(k !=9&&(decide ((o.Guards.length:Int)>0)||o.Wait !=0||(o.Pub:Int)!=0)) &&
 !((o.Need !=0&&k !=9&&k !=1)||(decide ((o.Boxes.length:Int)>0)&&k !=9&&k !=10&&k !=11)) &&
 (((o.Hist.length:Int)==0)||k==2||k==13)
def fP(o:OpM):Bool :=
 (oI o.By 1 12&&oI o.Seq 1 2147483647&&oI o.At 0 2147483647) &&
 (if o.Kind=1 then oI o.Need 0 20
  else if o.Kind=2 then oI o.Device 1 12&&oI o.Role 1 3
  else if o.Kind=3 then(oI o.Device 1 12&&o.Member==0)||(o.Device==0&&oI o.Member 1 8)
  else if o.Kind=5 then oI o.Member 1 8&&oI o.Role 1 3
  else if o.Kind=6 then jP o.Epoch&&oI o.N 0 2147483647
  else if o.Kind=9 then oI o.Need 1 o.Guards.length&&oI o.Wait 0 2147483647&&HK o.Pub
  else if o.Kind=11 then jP o.Of&&oI o.Device 1 12
  else if o.Kind=13 then jP o.Of&&oI o.Device 1 12&&oI o.Old 1 12
  else if o.Kind=4 then true
  else jP o.Of)
def uA(o:OpM):Bool:=o.Guards.all yS&&(o.Refs.all SF&&(o.Past.all jP&&(o.Path.all FI&&(o.Hist.all FJ&&o.Boxes.all wA))))
def jB(o:OpM):Int :=
 if o.Kind<1\/13<o.Kind then 1
 else if Qk o=false then 1
 else if(fP o&&uA o)=false then 8
 else if ED o then 2
 else if nT Id.lt o.Past=false then 6
 else if nT (λa b:Int=>decide (a<b)) o.Guards=false then 6
 else if decide (o.Past.length=0)≠decide (o.Kind=1) then 10 else 0
def Gx(i:Nat):∀(X:List (Int×Bool))(a:Nat),(X.foldl Yq a).testBit i=(a.testBit i||X.any λe=>e.2&&e.1.toNat.testBit i)|[],a=>by simp|e::X,a=>by simp only[CW,List.any_cons,Gx i X];grind[Yq,Bool.or_assoc]
def UK{a b:Nat}(d:a<65536)(e:b<65536):nE a b=0↔∀i,i<16->a.testBit i=true->b.testBit i=true:=by
 have c:∀i,(nE a b).testBit i=(decide (i<64)&&(a.testBit i&&!b.testBit i)):=λi=>by grind[nE,BitVec.testBit_toNat,BitVec.getLsbD_ofNat]
 constructor;grind;intro h;refine Nat.eq_of_testBit_eq λi=>?_;rw[c,aBK];rcases eD i 16 with h1|h1;simp_all;rw[Nat.testBit_lt_two_pow (CV d (uR d_ (Gl d_ h1)))];simp
def Nx(o:OpM):sC (jQ o)<65536:=WS _ 0 d_ λe a=>by simp only[jQ,cS,pP,or_false]at a;rcases a with rfl|rfl|rfl|rfl|rfl|rfl|rfl|rfl|rfl|rfl|rfl|rfl|rfl|rfl|rfl|rfl<;>simp
def WT:V_:=[0,1,2,3,4,5,6,7,8,9,10,11,12,13,14,15]
def SG(k:Int):vV k<65536:=by
 unfold vV qY;rcases eD k.toNat 14 with h|h;generalize k.toNat=n at *
 have:∀n,n<14->[0,2064,32793,21,16,12,480,640,512,31744,8704,8705,512,33299].getD n 0<65536:=d_;exact this n h;rw[rH,sX x_];decide
def FK(o:OpM):List (Bool×Nat):=((jQ o).map (·.2)).zip WT
def UL(o:OpM):jQ o=(FK o).map λe=>(((2^e.2:Nat):Int),e.1):=rfl
def SH(o:OpM)(m:Nat)(a:m<65536):(nE (sC (jQ o)) m=0)↔(FK o).all (λe=>!e.1||m.testBit e.2)=true:=by
 rw[UK (Nx o) a];have h1:∀i,(sC (jQ o)).testBit i=(FK o).any λe=>e.1&&decide (e.2=i):=λi=>by unfold sC;rw[Gx,UL,aBK,EH,List.any_map];congr 1;funext e;simp only[Function.comp,nI,Nat.testBit_two_pow]
 have h2:∀e∈FK o,e.2<16:=λe b=>by have:=(List.of_mem_zip (show(e.1,e.2)∈_ from b)).2;simp only[WT,cS,pP,or_false]at this;omega
 grind
def Yr{k:Int}(h1:¬k<1)(h2:¬13<k):k=1\/k=2\/k=3\/k=4\/k=5\/k=6\/k=7\/k=8\/k=9\/k=10\/k=11\/k=12\/k=13:=o_
def aHK(o:OpM):((o.Hist.length:Int)==0)=!(decide ((o.Hist.length:Int)>0)):=l_
def SI(o:OpM)(h1:¬o.Kind<1)(h2:¬13<o.Kind):(nE (sC (jQ o)) (vV o.Kind)=0)↔Qk o=true:=by
 rw[SH o _ (SG _)];unfold Qk;rw[aHK];simp only[FK,jQ,WT,fG,uP,List.zip_cons_cons,List.zip_nil_right,List.all_cons,aGL,yH];generalize(o.Device !=0)=u;generalize(o.Old !=0)=t;generalize(o.Member !=0)=s;generalize(o.Role !=0)=r;generalize(decide ((o.Path.length:Int)>0))=q;generalize(!(o.Epoch.a==0&&(o.Epoch.b==0&&o.Epoch.c==0)))=p;generalize(o.N !=0)=n;generalize(decide ((o.Body.length:Int)>0))=m;generalize(decide ((o.Refs.length:Int)>0))=l;generalize(!(o.Of.a==0&&(o.Of.b==0&&o.Of.c==0)))=k;generalize(decide ((o.Guards.length:Int)>0))=j;generalize(o.Need !=0)=i;generalize(o.Wait !=0)=g;generalize(decide ((o.Boxes.length:Int)>0))=f;generalize((o.Pub:Int)!=0)=e;generalize(decide ((o.Hist.length:Int)>0))=d;rcases Yr h1 h2 with h|h|h|h|h|h|h|h|h|h|h|h|h<;>rw[h]
 all_goals
  simp only[Ip,show ∀a b:Int,(a==b)=decide (a=b) from λ_ _=>rfl]
  simp[vV,qY,Nat.testBit,Nat.shiftRight_eq_div_pow]
  try grind
def Pn(o:OpM)(h1:¬o.Kind<1)(h2:¬13<o.Kind):CK o (vV o.Kind)=(fP o&&uA o):=by
 have a:(o.Guards.all yS&&(o.Refs.all SF&&(o.Past.all jP&&(o.Path.all FI&&(o.Boxes.all wA&&o.Hist.all FJ)))))=uA o:=by grind[uA]
 unfold CK fP;rw[a,aGD (oI o.By 1 12&&oI o.Seq 1 2147483647&&oI o.At 0 2147483647)];congr 1;congr 1;unfold Pm FH;rcases Yr h1 h2 with h|h|h|h|h|h|h|h|h|h|h|h|h<;>rw[h]
 all_goals
  simp[vV,qY]
  try grind
 unfold oI;rw[CT];simp;omega
def Aq(o:OpM):vF o=jB o:=by unfold vF jB;by_cases h0:o.Kind<1\/13<o.Kind;omega;rw[if_neg h0,if_neg h0];have h1:¬o.Kind<1:=λh=>h0 (.inl h);have h2:¬13<o.Kind:=λh=>h0 (.inr h);have a:=SI o h1 h2;rw[Pn o h1 h2];grind[aCJ]
section
open W
def Ny:cF Bi []=some ⟨15,[(2,none)],S [R0 2 1 [M (kc (.const (.pointer none)))],R 4 5 [0] [b (q2 [zS,.map none,zS] (c1 cT v0) (x (.mkm true))),J 3 v8],R0 9 5 [c2 kK (l (f 0 (y v3))) (kc (.func tG))],R 14 1 [3] [A 2 v3],.ret]⟩:=s_
def LS:cF mJ []=some ⟨14,[(4,none)],S [R0 4 1 [M z],R 6 2 [1] [c1 bF v1,J 5 v7],R 8 5 [0] [v5,q1 [.pointer none] v0,c2 bK t8 (x (.bmo lL 1 [zt 10]))],R 13 1 [5] [A 4 v5],.ret]⟩:=s_
def yZ:cF bY []=some ⟨29,[(4,some (some 27)),(5,none)],S [R 5 1 [1] [J 3 (b t1),al zO,M F],D 9 6 [3,16,15,8] [l (f 1 (y v0)),L 3 t3,x (.lku true [.int .i64,.int .i64,.int .u64] z0 (zt 12) (zt 13) true),J 8 v14,J 15 (e 0 t8),e 1 t8,J 6 v15,v16],S [R 17 1 [7] [o v7],If 18 [0,6] (S [R0 19 1 [s 27 t4 (x (.bld zO [])),A 5 F],.ret])],R 20 9 [0,6] [s 27 t4 (c1 pO (L 27 (f 0 (i 35 (l (f 2 (y v0))) v6)))),A 5 T],.ret]⟩:=s_
def Di:cF sI []=some ⟨9,[(2,none)],S [R0 2 1 [M z],R 4 2 [0] [c1 qU v0,J 3 v5],R0 6 2 [c1 kO v3],R 8 1 [3] [A 2 v3],.ret]⟩:=s_
def aE5:cF cT [(2,none,5)]=some ⟨8,[(2,none)],S [R0 2 1 [M z],S [R0 3 1 [v0,x (.nilS false 1 (zt 3))],If 4 [0] (S [S [iz 2,ow 2 5],.ret])],S [R 5 3 [0] [A 2 (a 5 40 (x (.bsl 5 [] [] 0)) v0)],ow 2 5],.ret]⟩:=s_
def Jv:cF tG []=some ⟨10,[(4,none)],S [R 4 1 [0,1] [J 2 (b t0),b t1,M w0],R 5 5 [2,3] [sb (l (f 0 t2)) (l (f 0 t3)),J 4 v9],.ret]⟩:=s_
def Jw:cF pO []=some ⟨72,[(2,some (some 27))],S [R 1 0 [0] [b t0,al zO],D 5 20 [] [l (f 4 t1),J 8 (l (f 14 t1)),J 11 (l (f 15 t1)),J 14 (l (f 19 t1)),J 17 (l (f 22 t1)),J 7 (K [zl 18 17,zf 17 1 22,zl 15 14,zf 14 1 19,zl 12 11,zf 11 1 15,zl 9 8,zf 8 1 14] (c1 bF t6)),J 20 (f 4 t1),J 10 (K [zf 20 1 4,zl 18 17,zf 17 1 22,zl 15 14,zf 14 1 19,zl 12 11,zf 11 1 15] (c1 fO t9)),J 13 (K [zf 20 1 4,zl 18 17,zf 17 1 22,zl 15 14,zf 14 1 19] (c1 fU (t 12))),J 16 (K [zf 20 1 4,zl 18 17,zf 17 1 22] (c1 eU (t 15))),J 19 (K [zf 20 1 4] (c1 dC (t 18))),s 1 (t 20) t7,J 21 (s 1 (f 14 t1) (t 10)),s 1 (f 15 t1) (t 13),s 1 (f 19 t1) (t 16),s 1 (f 22 t1) (t 19)],D 25 8 [] [l (f 9 t1),J 28 (l (f 24 t1)),J 27 (K [zl 29 28,zf 28 1 24] (c1 gZ (t 26))),J 31 (f 9 t1),J 30 (K [zf 31 1 9] (c1 fJ (t 29))),s 1 (t 31) (t 27),J 32 (s 1 (f 24 t1) (t 30))],S [R0 33 2 [n (l (f 9 t1)),M w0],ra 0 36 (t 35) 37 [36,35] 51 (S [R0 38 1 [A 3 v36],D 39 12 [3] [l (f 9 t1),v3,K [zm 41 3,zl 40 39,zf 39 1 9] (c1 dC (l (f 1 (i 2 (l (f 9 t1)) v3)))),s 1 (f 1 (i 2 (t 40) (t 41))) (t 48)]])],S [R0 52 2 [n (l (f 24 t1)),M w0],ra 2 55 (t 54) 56 [55,54] 70 (S [R0 57 1 [A 4 (v 55)],D 58 12 [4] [l (f 24 t1),v4,K [zm 60 4,zl 59 58,zf 58 1 24] (c1 fO (l (f 3 (i 4 (l (f 24 t1)) v4)))),s 1 (f 3 (i 4 (t 59) (t 60))) (t 67)]])],R 71 1 [1] [s 27 t2 (L 27 t1)],.ret]⟩:=s_
def EO:cF oQ []=some ⟨24,[(4,some (some 5)),(5,none)],S [R0 5 1 [J 4 (al zC),M F],S [R 8 3 [0] [n (l (f 0 (y v0))),M w0],ra 0 13 (t 12) 14 [11,13,12,1] 22 (S [R0 15 2 [L 5 (i 5 (t 11) (t 13)),J 7 (s 5 (al zC) (t 16))],R0 17 3 [eq (l (f 0 t7)) v1],Iz 20 [13,1,11,12] (S [R 21 1 [7] [s 5 t4 (L 5 t7),A 5 T],.ret]) [7]])],R0 23 1 [s 5 t4 (x (.bld zC [])),A 5 F],.ret]⟩:=s_
def Dj:cF nB []=some ⟨10,[(4,none)],S [R 4 1 [0,1] [J 2 (b t0),b t1,M z],R 5 5 [3,2] [c2 bE (c1 bF (l (f 4 t3))) (x (.clo dX [zt 2])),J 4 v9],.ret]⟩:=s_
def HV:cF yN []=some ⟨16,[],D 4 12 [0,1] [v0,qu v1 (w 64),y t4,B .or (l (x (.iadA (zt 7) (zt 6) 4 1))) (B .shl (u 1) (rm v1 (w 64))),y t4,s 1 (x (.iadA (zt 14) (zt 6) 4 1)) (t 13)]⟩:=s_
def Gc:cF nM []=some ⟨20,[],S [R 3 0 [1] [b t1],i0 5,ra 0 5 (w 4) 6 [5,3,0] 19 (S [R0 7 1 [A 4 v5],D 8 11 [4] [v0,v4,y t8,l (x (.iadA (zt 10) (zt 9) 4 1)),v4,B .or (t 12) (l (x (.iadA (zt 3) (zt 13) 4 1))),y t8,s 1 (x (.iadA (zt 17) (zt 9) 4 1)) (t 16)]])]⟩:=s_
def Ar:cF pE []=some ⟨16,[(4,none)],S [R0 4 1 [M F],R 5 11 [0,1] [v0,qu v1 (w 64),y t5,eq (B .and (B .shr (l (x (.iadA (zt 8) (zt 7) 4 1))) (rm v1 (w 64))) (u 1)) (u 1),J 4 v15],.ret]⟩:=s_
def EP:cF lL []=some ⟨28,[(6,none)],S [R 6 1 [0,1,2] [J 3 (b t0),b t1,b t2,M w0],i0 7,bw 0 (S [R0 9 3 [c2 wC (L 3 t4) (L 3 t5),J 8 v11],Ie 8 [7] (E0 [A 7 (w (-1))]) [] (S [R0 13 3 [c2 wC (L 3 t5) (L 3 t4),J 12 v15],If 12 [7] (E0 [A 7 w1])])]),D 16 12 [3,4,5,7] [l (f 0 t3),L 3 t4,J 20 (l (f 0 t3)),L 3 t5,J 25 v7,J 19 (K [zm 25 7,zv 22 3 5,zl 21 20,zf 20 3 0] (c2 nC (t 17) (t 18))),J 23 (K [zm 25 7] (c2 nC (t 21) (t 22))),K [zm 25 7] (c2 jW (t 19) (t 23)),J 26 (A 6 (c1 zX (j2 [z0,z0] (t 24) (t 25))))],.ret]⟩:=s_
def As:cF nP []=some ⟨5,[(2,none)],S [R0 2 1 [M z],R 3 2 [0] [c2 iB z v0,J 2 v4],.ret]⟩:=s_
def Ck:cF qU []=some ⟨5,[(2,none)],S [R0 2 1 [M z],R 3 2 [0] [c2 kP z v0,J 2 v4],.ret]⟩:=s_
def sL:cF gZ [(2,none,2)]=some ⟨8,[(2,none)],S [R0 2 1 [M z],S [R0 3 1 [v0,x (.nilS false 1 (zt 3))],If 4 [0] (S [S [iz 2,ow 2 2],.ret])],S [R 5 3 [0] [A 2 (a 2 32 (x (.bsl 2 [] [] 0)) v0)],ow 2 2],.ret]⟩:=s_
def pU:cF fJ [(2,none,4)]=some ⟨8,[(2,none)],S [R0 2 1 [M z],S [R0 3 1 [v0,x (.nilS false 1 (zt 3))],If 4 [0] (S [S [iz 2,ow 2 4],.ret])],S [R 5 3 [0] [A 2 (a 4 48 (x (.bsl 4 [] [] 0)) v0)],ow 2 4],.ret]⟩:=s_
def CL:cF dX []=some ⟨16,[(3,none)],S [R 3 1 [0] [J 2 (b t0),M F],D 7 6 [1,2,4,14,13,6] [l (f 1 (y (l t1))),L 3 t2,x (.lku true [.int .i64,.int .i64,.int .u64] z0 (zt 10) (zt 11) true),J 6 v12,J 13 (e 0 t6),e 1 t6,J 4 v13,v14],R 15 1 [5] [A 3 v5],.ret]⟩:=s_
def Dk:cF nC []=some ⟨25,[(4,none)],S [R 4 1 [1] [J 3 (b t1),M w0],S [D 8 6 [3,15,14,7] [l (f 1 (y v0)),L 3 t3,x (.lku true [.int .i64,.int .i64,.int .u64] z0 (zt 11) (zt 12) true),J 7 v13,J 14 (e 0 t7),e 1 t7,J 5 v14,v15],R 0 0 [6] [A 16 t6],Iz 16 [] (S [R 17 8 [0,5] [A 4 (l (f 34 (i 35 (l (f 2 (y v0))) v5)))],.ret]) [0,5]],i0 4,.ret]⟩:=s_
def sM:cF iB [(2,some 0,1)]=some ⟨13,[(4,none)],S [S [R 2 0 [0] [b t0,A 4 z],oc 2 0 1],S [R 0 0 [1] [A 6 t1],bw 0 (.rng (zt 6) [7] [2] (.seq (.reg [⟨some 5,.mov (zt 7),none⟩]) (.kill [7])) (.block 1 (.seq (.reg [⟨some 8,.ld none (zt 2),none⟩,⟨some 9,.mov (zt 5),none⟩,⟨some 10,.bsl 1 [zU] [(0,(1,zt 9))] 1,none⟩,⟨some 11,.app (zt 8) (zt 10) 1 8,none⟩,⟨none,.st 1 (zt 2) (zt 11),none⟩]) (.kill [2,5,11,10,9,8]))))],R 12 1 [2] [A 4 (l t2)],.ret]⟩:=s_
def Iq:cF vC []=some ⟨17,[(4,none)],S [R0 4 1 [M F],R 5 12 [0,1] [O (N (c1 kH v0) (o (c1 kH v1))) (ls v0 v1),J 4 v16],.ret]⟩:=s_
def pH:cF fE []=some ⟨9,[(4,none)],S [R0 4 1 [M F],R 5 4 [0,1] [ge (c2 gC v0 v1) w0,J 4 v8],.ret]⟩:=s_
def lV:cF dI []=some ⟨9,[(4,none)],S [R0 4 1 [M F],R 5 4 [0,1] [ge (c2 gY v0 v1) w0,J 4 v8],.ret]⟩:=s_
def gK:cF bD []=some ⟨9,[(4,none)],S [R0 4 1 [M F],R 5 4 [0,1] [ge (c2 bB v0 v1) w0,J 4 v8],.ret]⟩:=s_
def oE:cF dY []=some ⟨9,[(4,none)],S [R0 4 1 [M F],R 5 4 [0,1] [ge (c2 fM v0 v1) w0,J 4 v8],.ret]⟩:=s_
def mO:cF dJ []=some ⟨9,[(4,none)],S [R0 4 1 [M F],R 5 4 [0,1] [ge (c2 dU v0 v1) w0,J 4 v8],.ret]⟩:=s_
def qZ:cF gC []=some ⟨19,[(4,none)],S [R0 4 1 [M w0],S [R0 6 1 [n v0,M w0],ra 0 8 t7 9 [8,7,0,1] 18 (S [R0 10 1 [A 5 v8],R0 11 5 [d1 v1 (L 4 (i 4 v0 v5))],Iz 16 [8,1,0,7] (S [R 17 1 [5] [A 4 v5],.ret]) [5]])],E0 [A 4 (w (-1))],.ret]⟩:=s_
def nU:cF gY []=some ⟨19,[(4,none)],S [R0 4 1 [M w0],S [R0 6 1 [n v0,M w0],ra 0 8 t7 9 [8,7,0,1] 18 (S [R0 10 1 [A 5 v8],R0 11 5 [d1 v1 (l (i 1 v0 v5))],Iz 16 [8,1,0,7] (S [R 17 1 [5] [A 4 v5],.ret]) [5]])],E0 [A 4 (w (-1))],.ret]⟩:=s_
def pV:cF fM []=some ⟨19,[(4,none)],S [R0 4 1 [M w0],S [R0 6 1 [n v0,M w0],ra 0 8 t7 9 [8,7,0,1] 18 (S [R0 10 1 [A 5 v8],R0 11 5 [d1 v1 (L 2 (i 2 v0 v5))],Iz 16 [8,1,0,7] (S [R 17 1 [5] [A 4 v5],.ret]) [5]])],E0 [A 4 (w (-1))],.ret]⟩:=s_
def nV:cF dU []=some ⟨19,[(4,none)],S [R0 4 1 [M w0],S [R0 6 1 [n v0,M w0],ra 0 8 t7 9 [8,7,0,1] 18 (S [R0 10 1 [A 5 v8],R0 11 5 [d1 v1 (L 4 (i 4 v0 v5))],Iz 16 [8,1,0,7] (S [R 17 1 [5] [A 4 v5],.ret]) [5]])],E0 [A 4 (w (-1))],.ret]⟩:=s_
def yT:cF fO [(2,none,1)]=some ⟨8,[(2,none)],S [R0 2 1 [M z],S [R0 3 1 [v0,x (.nilS false 1 (zt 3))],If 4 [0] (S [S [iz 2,ow 2 1],.ret])],S [R 5 3 [0] [A 2 (a 1 1 (x (.bsl 1 [] [] 0)) v0)],ow 2 1],.ret]⟩:=s_
def Au:cF eU [(2,none,1)]=some ⟨8,[(2,none)],S [R0 2 1 [M z],S [R0 3 1 [v0,x (.nilS false 1 (zt 3))],If 4 [0] (S [S [iz 2,ow 2 1],.ret])],S [R 5 3 [0] [A 2 (a 1 8 (x (.bsl 1 [] [] 0)) v0)],ow 2 1],.ret]⟩:=s_
def uB:cF dC [(2,none,4)]=some ⟨8,[(2,none)],S [R0 2 1 [M z],S [R0 3 1 [v0,x (.nilS false 1 (zt 3))],If 4 [0] (S [S [iz 2,ow 2 4],.ret])],S [R 5 3 [0] [A 2 (a 4 32 (x (.bsl 4 [] [] 0)) v0)],ow 2 4],.ret]⟩:=s_
def FL:cF uW []=some ⟨234,[(4,none)],S [R 4 1 [1] [J 3 (b t1),M w0],S [R0 23 2 [A 5 (c1 HR (L 27 t3))],R0 25 1 [ne v5 w0],Iz 26 [3,0] (S [R 27 1 [5] [A 4 v5],.ret]) [5]],S [.regd (zq (zv 28 27 3) (zq (zv 30 27 3) (zA (zo 29 (.call (.func pO) [zt 28])) [zv 30 27 3] (zA (zo 31 (.call (.func Ik) [zt 30])) [] (zq (zo 32 (.bld zN [(0,(27,zt 29)),(27,(3,zt 31)),(34,(1,zw 1))])) (zA (zo 6 (.alloc zN)) [zo 32 (.bld zN [(0,(27,zt 29)),(27,(3,zt 31)),(34,(1,zw 1))])] (zA (⟨none,.st 35 (zt 6) (zt 32),none⟩) [] (.done true) .no) .no)) (zA (zo 6 (.alloc zN)) [zv 30 27 3] (zA (zo 31 (.call (.func Ik) [zt 30])) [] (zq (zo 32 (.bld zN [(0,(27,zt 29)),(27,(3,zt 31)),(34,(1,zw 1))])) (zA (⟨none,.st 35 (zt 6) (zt 32),none⟩) [] (.done true) .no)) .no) .no)) (zA (zo 6 (.alloc zN)) [zv 30 27 3,zv 28 27 3] (zA (zo 29 (.call (.func pO) [zt 28])) [zv 30 27 3] (zA (zo 31 (.call (.func Ik) [zt 30])) [] (zq (zo 32 (.bld zN [(0,(27,zt 29)),(27,(3,zt 31)),(34,(1,zw 1))])) (zA (⟨none,.st 35 (zt 6) (zt 32),none⟩) [] (.done true) .no)) .no) .no) .no)))),.kill [32,31,30,29,28]],S [D 34 7 [7,42,41,33] [l (f 1 (y v0)),L 3 (f 27 t6),x (.lku true [.int .i64,.int .i64,.int .u64] z0 (zt 37) (zt 39) true),J 33 v40,J 41 (e 0 (t 33)),e 1 (t 33),A 7 (t 41),A 8 (t 42)],R 0 0 [8] [A 43 t8],If 43 [0,3,6] (S [E0 [A 4 (w 5)],.ret])],S [R0 44 5 [ge (n (l (f 2 (y v0)))) (w 200)],If 49 [0,3,6] (S [E0 [A 4 w3],.ret])],R 51 4 [56,55,50] [c2 oQ v0 (l (f 0 t3)),J 50 (v 54),J 55 (e 0 (t 50)),e 1 (t 50),J 9 (s 5 (al zC) (t 55)),A 10 (t 56)],S [R 57 1 [10] [o v10],If 58 [9,3,0,6] (S [E0 [A 4 (w 17)],.ret])],S [R 59 3 [9] [o (c2 E1 (L 5 t9) (L 27 t3))],If 62 [3,0,6] (S [E0 [A 4 (w 12)],.ret])],S [R0 63 10 [N (eq (l (f 2 t3)) w1) (gt (n (l (f 2 (y v0)))) w0)],If 73 [0,3,6] (S [E0 [A 4 w1],.ret])],S [R0 74 4 [gt (n (c2 nB v0 (L 27 t3))) w0],If 78 [3,0,6] (S [E0 [A 4 (w 10)],.ret])],E 11 [al zU4,al zU4],i0 13,S [R0 79 1 [n (l (f 4 t3)),M w0],ra 0 82 (t 81) 83 [80,82,81] 125 (S [R0 84 2 [L 3 (i 3 (t 80) (t 82)),J 15 (s 3 (al zI) (t 85))],D 86 11 [] [l (f 2 (y v0)),l (f 1 (y v0)),L 3 (t 15),A 16 (i 35 (t 89) (x (.lku true [.int .i64,.int .i64,.int .u64] z0 (zt 93) (zt 94) false)))],D 97 7 [15] [l (f 1 (y v0)),L 3 (t 15),c2 yN (t 11) (x (.lku true [.int .i64,.int .i64,.int .u64] z0 (zt 100) (zt 101) false))],R0 104 5 [c2 nM (t 12) (L 4 (f 30 (y v16)))],R0 109 7 [A 13 (mm true v13 (l (f 3 (f 0 (y v16)))))],D 116 9 [16] [mm true (l (f 34 t6)) (ad (l (f 34 (y v16))) w1),s 1 (f 34 t6) (t 123)]])],R0 126 1 [L 4 (t 11),J 17 (s 4 (al zU4) (t 126))],S [i0 127,ra 2 127 (w 4) 128 [127] 138 (S [R0 129 1 [A 18 (v 127)],D 130 8 [18] [v18,l (x (.iadA (zt 17) (zt 130) 4 1)),v18,B .and (t 132) (l (x (.iadA (zt 12) (zt 133) 4 1))),s 1 (x (.iadA (zt 17) (zt 130) 4 1)) (t 136)]])],S [R 139 8 [17,13] [O (ea true [.int .u64,.int .u64,.int .u64,.int .u64] (L 4 (t 17)) (x (.bld zU4 []))) (ls (l (f 3 t3)) v13)],If 147 [12,6,0,3,11] (S [E0 [A 4 (w 6)],.ret])],R 148 2 [12] [L 4 (t 12),s 4 (f 30 t6) (t 148)],R 150 3 [11] [c2 nM (f 30 t6) (L 4 (t 11))],i0 19,E0 [A 20 F],S [R0 153 4 [n (l (f 2 (y v0))),M w0],ra 4 158 (t 157) 159 [158,157] 199 (S [R0 160 1 [A 21 (v 158)],R0 161 6 [A 22 (i 35 (l (f 2 (y v0))) v21)],D 167 12 [21] [N (eq (l (f 0 (f 0 (y v22)))) (l (f 0 t3))) (c2 pE (f 30 t6) v21)],Iz 179 [] (S [R0 180 7 [A 19 (mm true v19 (l (f 1 (f 0 (y v22)))))],D 187 12 [22] [Ah 20 (O v20 (eq (l (f 1 (f 0 (y v22)))) (sb (l (f 1 t3)) w1)))]]) [22]])],S [R 200 12 [19,3,20] [O (ge v19 (l (f 1 t3))) (N (gt (l (f 1 t3)) w1) (o v20))],If 212 [0,6] (S [E0 [A 4 (w 11)],.ret])],D 213 11 [] [l (f 1 (y v0)),L 3 (f 27 t6),n (l (f 2 (y v0))),Yh (.mup true [.int .i64,.int .i64,.int .u64] (zt 216) (zt 218) (zt 223))],D 224 10 [0,6] [v0,l (f 2 (y v0)),K [zl 228 227,zf 227 226 2,zo 226 (.nilc (zt 225)),zm 225 0,zm 224 0] (ba 35 zN (L 35 t6)),K [zm 224 0] (a 35 392 (t 228) (t 230)),s 1 (f 2 (y (t 224))) (t 231)],i0 4,.ret]⟩:=s_
end
section
open W
def iD:cF bE [(4,none,3)]=some ⟨42,[(4,none)],S [R0 4 1 [M z],R0 8 3 [A 5 (c2 bB v0 v1)],S [R0 11 1 [eq v5 (w (-1))],If 12 [5,1] (S [S [R 13 1 [0] [A 4 v0],ow 4 3],.ret])],S [R0 14 2 [A 6 (ad v5 w1)],fo 0 16 3 (ls v6 (n v0)) [6,1] 6 (S [R0 22 4 [L 3 (i 3 v0 v6),J 7 (s 3 (al zI) (t 25))],R0 26 3 [o (d1 v1 (L 3 t7))],Iz 29 [] (S [R 30 4 [7] [v0,v5,L 3 t7,s 3 (i 3 (t 30) (t 31)) (t 32)],R0 34 2 [A 5 (ad v5 w1)]]) [7]])],R0 36 3 [v0,v5,x (.slc (zt 36) (some (zt 37)) none 3),Y (.clr (zt 38) 3 zI)],S [R 39 3 [0,5] [v0,v5,A 4 (x (.slc (zt 39) none (some (zt 40)) 3))],ow 4 3],.ret]⟩:=s_
def aE3:cF bF [(2,none,3)]=some ⟨8,[(2,none)],S [R0 2 1 [M z],S [R0 3 1 [v0,x (.nilS false 1 (zt 3))],If 4 [0] (S [S [iz 2,ow 2 3],.ret])],S [R 5 3 [0] [A 2 (a 3 24 (x (.bsl 3 [] [] 0)) v0)],ow 2 3],.ret]⟩:=s_
def pI:cF bJ []=some ⟨9,[(4,none)],S [R 4 1 [1] [J 3 (b t1),M F],R 5 4 [0,3] [ge (c2 gB v0 (L 3 t3)) w0,J 4 v8],.ret]⟩:=s_
def vG:cF fU [(2,none,1)]=some ⟨8,[(2,none)],S [R0 2 1 [M z],S [R0 3 1 [v0,x (.nilS false 1 (zt 3))],If 4 [0] (S [S [iz 2,ow 2 1],.ret])],S [R 5 3 [0] [A 2 (a 1 8 (x (.bsl 1 [] [] 0)) v0)],ow 2 1],.ret]⟩:=s_
def cJ:cF bB []=some ⟨19,[(4,none)],S [R0 4 1 [M w0],S [R0 6 1 [n v0,M w0],ra 0 8 t7 9 [8,7,0,1] 18 (S [R0 10 1 [A 5 v8],R0 11 5 [d1 v1 (L 3 (i 3 v0 v5))],Iz 16 [8,1,0,7] (S [R 17 1 [5] [A 4 v5],.ret]) [5]])],E0 [A 4 (w (-1))],.ret]⟩:=s_
def rB:cF gB []=some ⟨19,[(4,none)],S [R 4 1 [1] [J 3 (b t1),M w0],S [R0 6 1 [n v0,M w0],ra 0 8 t7 9 [8,7,0,3] 18 (S [R0 10 1 [A 5 v8],D 11 5 [] [ea false [.int .i64,.int .i64,.int .u64] (L 3 t3) (L 3 (i 3 v0 v5))],Iz 16 [8,3,0,7] (S [R 17 1 [5] [A 4 v5],.ret]) [5]])],E0 [A 4 (w (-1))],.ret]⟩:=s_
def qJ:cF fS []=some ⟨9,[(4,none)],S [R0 4 1 [M F],R 5 4 [0,1] [ge (c2 iC v0 v1) w0,J 4 v8],.ret]⟩:=s_
def sO:cF iC []=some ⟨19,[(4,none)],S [R0 4 1 [M w0],S [R0 6 1 [n v0,M w0],ra 0 8 t7 9 [8,7,0,1] 18 (S [R0 10 1 [A 5 v8],R0 11 5 [d1 v1 (l (i 1 v0 v5))],Iz 16 [8,1,0,7] (S [R 17 1 [5] [A 4 v5],.ret]) [5]])],E0 [A 4 (w (-1))],.ret]⟩:=s_
end
def GC{α:Type}(m:α->Bool)(l:List α):(!(l.any λx=>!m x))=l.all m:=l_
section
variable{G:L_}
def WU(f:Nat)(m:BoxM->Bool)(x:BoxM)(h:aA PQ G f [.ag x.A] [] λr T=>r=.v (.bool (m x))/\T=[]):aA PQ G jH [.ag x.A,.ptr 0 0] [some (.box [.cl f []])] λr T=>r=.v (.bool (!m x))/\T=[some (.box [.cl f []])]:=by refine aC EN ?_;simp only[go_sem,BoxM.A];apply cX h;simp only[go_sem]
def aAf(f:Nat)(m:BoxM->Bool)(l:List BoxM)(g:l.length<2^63-1)(h:∀x∈l,aA PQ G f [.ag x.A] [] λr T=>r=.v (.bool (m x))/\T=[]):
 aA PQ G gC [F5 l,.cl jH [.ptr 0 0]] [some (.box [.cl f []])] λr T=>r=iv (qX (λx=>!m x) l)/\T=[some (.box [.cl f []])]:=by
 apply aC qZ;simp only[go_sem,aP];refine aQ l.length (λi=>⟨1,[(0,F5 l),(1,.cl jH [.ptr 0 0]),(7,iv l.length),(8,iv i)],[some (.box [.cl f []])]⟩) (λi=>∀j(a:j<l.length),j<i->(!m l[j])=false) ?_ J_ ?_ ?_;simp only[go_sem];intro i b c;have e:(l.map BoxM.A)[i]?=some [uv l[i].To,uv l[i].Eph,uv l[i].Body,uv l[i].Tag]:=aO _ l i b;simp only[go_sem,aT b,e];apply aG [0] (aB _) d_ k_ rfl rfl (WU f m l[i] (h _ (eQ b)));rintro r k ⟨rfl,rfl⟩
 cases d:m l[i]with
 |true=>
  simp only[go_sem,fQ i o_];grind
 |false=>
  simp only[go_sem];rw[mC b c e_]
 intro c;simp only[go_sem,aS (bP _)];rw[lD λj a=>c j a a]
def aAg(f:Nat)(m:BoxM->Bool)(l:List BoxM)(a:l.length<2^63-1)(h:∀x∈l,aA PQ G f [.ag x.A] [] λr T=>r=.v (.bool (m x))/\T=[]):
 aA PQ G fE [F5 l,.cl jH [.ptr 0 0]] [some (.box [.cl f []])] λr T=>r=.v (.bool (l.any λx=>!m x))/\T=[some (.box [.cl f []])]:=by
 apply aC pH;simp only[go_sem];apply aG [0] (aB _) d_ k_ rfl rfl (aAf f m l a h);rintro r b ⟨rfl,rfl⟩;simp only[go_sem,ge_iff_le,mN]
def Ql(f:Nat)(m:BoxM->Bool)(l:List BoxM)(a:l.length<2^63-1)(h:∀x∈l,aA PQ G f [.ag x.A] [] λr T=>r=.v (.bool (m x))/\T=[]):
 aA PQ G nO [F5 l,.cl f []] [] λr T=>r=.v (.bool (l.all m))/\T=[]:=by
 apply aC Gb;simp only[go_sem];apply aG [0] (aB _) d_ k_ rfl rfl (aAg f m l a h);rintro r b ⟨rfl,rfl⟩;simp only[go_sem,GC]
def WV(f:Nat)(m:Int->Bool)(x:Int)(h:aA PQ G f [iv x] [] λr T=>r=.v (.bool (m x))/\T=[]):aA PQ G nR [iv x,.ptr 0 0] [some (.box [.cl f []])] λr T=>r=.v (.bool (!m x))/\T=[some (.box [.cl f []])]:=by refine aC Im ?_;simp only[go_sem];apply cX h;simp only[go_sem]
def aAh(f:Nat)(m:Int->Bool)(l:B_)(g:l.length<2^63-1)(h:∀x∈l,aA PQ G f [iv x] [] λr T=>r=.v (.bool (m x))/\T=[]):
 aA PQ G gY [rG l,.cl nR [.ptr 0 0]] [some (.box [.cl f []])] λr T=>r=iv (qX (λx=>!m x) l)/\T=[some (.box [.cl f []])]:=by
 apply aC nU;simp only[go_sem,aP];refine aQ l.length (λi=>⟨1,[(0,rG l),(1,.cl nR [.ptr 0 0]),(7,iv l.length),(8,iv i)],[some (.box [.cl f []])]⟩) (λi=>∀j(a:j<l.length),j<i->(!m l[j])=false) ?_ J_ ?_ ?_;simp only[go_sem];intro i b c;have e:(l.map λn=>[iv n])[i]?=some [iv l[i]]:=aO _ l i b;simp only[go_sem,aT b,e];apply aG [0] (aB _) d_ k_ rfl rfl (WV f m l[i] (h _ (eQ b)));rintro r k ⟨rfl,rfl⟩
 cases d:m l[i]with
 |true=>
  simp only[go_sem,fQ i o_];grind
 |false=>
  simp only[go_sem];rw[mC b c e_]
 intro c;simp only[go_sem,aS (bP _)];rw[lD λj a=>c j a a]
def aAi(f:Nat)(m:Int->Bool)(l:B_)(a:l.length<2^63-1)(h:∀x∈l,aA PQ G f [iv x] [] λr T=>r=.v (.bool (m x))/\T=[]):
 aA PQ G dI [rG l,.cl nR [.ptr 0 0]] [some (.box [.cl f []])] λr T=>r=.v (.bool (l.any λx=>!m x))/\T=[some (.box [.cl f []])]:=by
 apply aC lV;simp only[go_sem];apply aG [0] (aB _) d_ k_ rfl rfl (aAh f m l a h);rintro r b ⟨rfl,rfl⟩;simp only[go_sem,ge_iff_le,mN]
def aAj(f:Nat)(m:Int->Bool)(l:B_)(a:l.length<2^63-1)(h:∀x∈l,aA PQ G f [iv x] [] λr T=>r=.v (.bool (m x))/\T=[]):
 aA PQ G AA [rG l,.cl f []] [] λr T=>r=.v (.bool (l.all m))/\T=[]:=by
 apply aC LQ;simp only[go_sem];apply aG [0] (aB _) d_ k_ rfl rfl (aAi f m l a h);rintro r b ⟨rfl,rfl⟩;simp only[go_sem,GC]
def WW(f:Nat)(m:Nat->Bool)(x:Nat)(h:aA PQ G f [uv x] [] λr T=>r=.v (.bool (m x))/\T=[]):aA PQ G jY [uv x,.ptr 0 0] [some (.box [.cl f []])] λr T=>r=.v (.bool (!m x))/\T=[some (.box [.cl f []])]:=by refine aC FE ?_;simp only[go_sem];apply cX h;simp only[go_sem]
def aAk(f:Nat)(m:Nat->Bool)(l:V_)(g:l.length<2^63-1)(h:∀x∈l,aA PQ G f [uv x] [] λr T=>r=.v (.bool (m x))/\T=[]):
 aA PQ G iC [.ls 1 (ul l),.cl jY [.ptr 0 0]] [some (.box [.cl f []])] λr T=>r=iv (qX (λx=>!m x) l)/\T=[some (.box [.cl f []])]:=by
 apply aC sO;simp only[go_sem,aP];refine aQ l.length (λi=>⟨1,[(0,.ls 1 (ul l)),(1,.cl jY [.ptr 0 0]),(7,iv l.length),(8,iv i)],[some (.box [.cl f []])]⟩) (λi=>∀j(a:j<l.length),j<i->(!m l[j])=false) ?_ J_ ?_ ?_;simp only[go_sem];intro i b c;have e:(ul l)[i]?=some [uv l[i]]:=aO _ l i b;simp only[go_sem,aT b,e];apply aG [0] (aB _) d_ k_ rfl rfl (WW f m l[i] (h _ (eQ b)));rintro r k ⟨rfl,rfl⟩
 cases d:m l[i]with
 |true=>
  simp only[go_sem,fQ i o_];grind
 |false=>
  simp only[go_sem];rw[mC b c e_]
 intro c;simp only[go_sem,aS (bP _)];rw[lD λj a=>c j a a]
def aAl(f:Nat)(m:Nat->Bool)(l:V_)(a:l.length<2^63-1)(h:∀x∈l,aA PQ G f [uv x] [] λr T=>r=.v (.bool (m x))/\T=[]):
 aA PQ G fS [.ls 1 (ul l),.cl jY [.ptr 0 0]] [some (.box [.cl f []])] λr T=>r=.v (.bool (l.any λx=>!m x))/\T=[some (.box [.cl f []])]:=by
 apply aC qJ;simp only[go_sem];apply aG [0] (aB _) d_ k_ rfl rfl (aAk f m l a h);rintro r b ⟨rfl,rfl⟩;simp only[go_sem,ge_iff_le,mN]
def aAm(f:Nat)(m:Nat->Bool)(l:V_)(a:l.length<2^63-1)(h:∀x∈l,aA PQ G f [uv x] [] λr T=>r=.v (.bool (m x))/\T=[]):
 aA PQ G tN [.ls 1 (ul l),.cl f []] [] λr T=>r=.v (.bool (l.all m))/\T=[]:=by
 apply aC HU;simp only[go_sem];apply aG [0] (aB _) d_ k_ rfl rfl (aAl f m l a h);rintro r b ⟨rfl,rfl⟩;simp only[go_sem,GC]
def aAn(f:Nat)(m:Id->Bool)(x:Id)(h:aA PQ G f [.ag x.A] [] λr T=>r=.v (.bool (m x))/\T=[]):aA PQ G gU [.ag x.A,.ptr 0 0] [some (.box [.cl f []])] λr T=>r=.v (.bool (!m x))/\T=[some (.box [.cl f []])]:=by refine aC Cj ?_;simp only[go_sem,Id.A_def];apply cX h;simp only[go_sem]
def aCK(f:Nat)(m:Id->Bool)(l:D_)(o:l.length<2^63-1)(h:∀x∈l,aA PQ G f [.ag x.A] [] λr T=>r=.v (.bool (m x))/\T=[]):
 aA PQ G bB [ids l,.cl gU [.ptr 0 0]] [some (.box [.cl f []])] λr T=>r=iv (qX (λx=>!m x) l)/\T=[some (.box [.cl f []])]:=by
 apply aC cJ;simp only[go_sem,aP];refine aQ l.length (λi=>⟨1,[(0,ids l),(1,.cl gU [.ptr 0 0]),(7,iv l.length),(8,iv i)],[some (.box [.cl f []])]⟩) (λi=>∀j(d:j<l.length),j<i->(!m l[j])=false) ?_ k6 ?_ ?_;simp only[go_sem];intro i e g;have n:(l.map Id.A)[i]?=some [.v (.int .i64 l[i].a),.v (.int .i64 l[i].b),.v (.int .u64 l[i].c)]:=aO _ l i e;simp only[go_sem,aT e,n];apply aG [0] (aB _) d_ k_ rfl rfl (aAn f m l[i] (h _ (eQ e)));rintro r p ⟨rfl,rfl⟩
 cases k:m l[i]with
 |true=>
  simp only[go_sem,fQ i o_];grind
 |false=>
  simp only[go_sem];rw[mC e g (by rw[k];rfl)]
 intro g;simp only[go_sem,aS (bP _)];rw[lD λj d=>g j d d]
def aCL(f:Nat)(m:Id->Bool)(l:D_)(a:l.length<2^63-1)(h:∀x∈l,aA PQ G f [.ag x.A] [] λr T=>r=.v (.bool (m x))/\T=[]):
 aA PQ G bD [ids l,.cl gU [.ptr 0 0]] [some (.box [.cl f []])] λr T=>r=.v (.bool (l.any λx=>!m x))/\T=[some (.box [.cl f []])]:=by
 apply aC gK;simp only[go_sem];apply aG [0] (aB _) d_ k_ rfl rfl (aCK f m l a h);rintro r b ⟨rfl,rfl⟩;simp only[go_sem,ge_iff_le,mN]
def aCM(f:Nat)(m:Id->Bool)(l:D_)(a:l.length<2^63-1)(h:∀x∈l,aA PQ G f [.ag x.A] [] λr T=>r=.v (.bool (m x))/\T=[]):
 aA PQ G oR [ids l,.cl f []] [] λr T=>r=.v (.bool (l.all m))/\T=[]:=by
 apply aC EM;simp only[go_sem];apply aG [0] (aB _) d_ k_ rfl rfl (aCL f m l a h);rintro r b ⟨rfl,rfl⟩;simp only[go_sem,GC]
def UM(f:Nat)(m:NodeM->Bool)(x:NodeM)(h:aA PQ G f [.ag x.A] [] λr T=>r=.v (.bool (m x))/\T=[]):aA PQ G iV [.ag x.A,.ptr 0 0] [some (.box [.cl f []])] λr T=>r=.v (.bool (!m x))/\T=[some (.box [.cl f []])]:=by refine aC Df ?_;simp only[go_sem,NodeM.A];apply cX h;simp only[go_sem]
def WX(f:Nat)(m:NodeM->Bool)(l:List NodeM)(g:l.length<2^63-1)(h:∀x∈l,aA PQ G f [.ag x.A] [] λr T=>r=.v (.bool (m x))/\T=[]):
 aA PQ G fM [.ls 2 (l.map NodeM.A),.cl iV [.ptr 0 0]] [some (.box [.cl f []])] λr T=>r=iv (qX (λx=>!m x) l)/\T=[some (.box [.cl f []])]:=by
 apply aC pV;simp only[go_sem,aP];refine aQ l.length (λi=>⟨1,[(0,.ls 2 (l.map NodeM.A)),(1,.cl iV [.ptr 0 0]),(7,iv l.length),(8,iv i)],[some (.box [.cl f []])]⟩) (λi=>∀j(a:j<l.length),j<i->(!m l[j])=false) ?_ J_ ?_ ?_;simp only[go_sem];intro i b c;have e:(l.map NodeM.A)[i]?=some [uv l[i].Pub,F5 l[i].Boxes]:=aO _ l i b;simp only[go_sem,aT b,e];apply aG [0] (aB _) d_ k_ rfl rfl (UM f m l[i] (h _ (eQ b)));rintro r k ⟨rfl,rfl⟩
 cases d:m l[i]with
 |true=>
  simp only[go_sem,fQ i o_];grind
 |false=>
  simp only[go_sem];rw[mC b c e_]
 intro c;simp only[go_sem,aS (bP _)];rw[lD λj a=>c j a a]
def WY(f:Nat)(m:NodeM->Bool)(l:List NodeM)(a:l.length<2^63-1)(h:∀x∈l,aA PQ G f [.ag x.A] [] λr T=>r=.v (.bool (m x))/\T=[]):
 aA PQ G dY [.ls 2 (l.map NodeM.A),.cl iV [.ptr 0 0]] [some (.box [.cl f []])] λr T=>r=.v (.bool (l.any λx=>!m x))/\T=[some (.box [.cl f []])]:=by
 apply aC oE;simp only[go_sem];apply aG [0] (aB _) d_ k_ rfl rfl (WX f m l a h);rintro r b ⟨rfl,rfl⟩;simp only[go_sem,ge_iff_le,mN]
def Nz(f:Nat)(m:NodeM->Bool)(l:List NodeM)(a:l.length<2^63-1)(h:∀x∈l,aA PQ G f [.ag x.A] [] λr T=>r=.v (.bool (m x))/\T=[]):
 aA PQ G jX [.ls 2 (l.map NodeM.A),.cl f []] [] λr T=>r=.v (.bool (l.all m))/\T=[]:=by
 apply aC FD;simp only[go_sem];apply aG [0] (aB _) d_ k_ rfl rfl (WY f m l a h);rintro r b ⟨rfl,rfl⟩;simp only[go_sem,GC]
def UN(f:Nat)(m:SealM->Bool)(x:SealM)(h:aA PQ G f [.ag x.A] [] λr T=>r=.v (.bool (m x))/\T=[]):aA PQ G fW [.ag x.A,.ptr 0 0] [some (.box [.cl f []])] λr T=>r=.v (.bool (!m x))/\T=[some (.box [.cl f []])]:=by refine aC CI ?_;simp only[go_sem,SealM.A];apply cX h;simp only[go_sem]
def WZ(f:Nat)(m:SealM->Bool)(l:List SealM)(o:l.length<2^63-1)(h:∀x∈l,aA PQ G f [.ag x.A] [] λr T=>r=.v (.bool (m x))/\T=[]):
 aA PQ G dU [.ls 4 (l.map SealM.A),.cl fW [.ptr 0 0]] [some (.box [.cl f []])] λr T=>r=iv (qX (λx=>!m x) l)/\T=[some (.box [.cl f []])]:=by
 apply aC nV;simp only[go_sem,aP];refine aQ l.length (λi=>⟨1,[(0,.ls 4 (l.map SealM.A)),(1,.cl fW [.ptr 0 0]),(7,iv l.length),(8,iv i)],[some (.box [.cl f []])]⟩) (λi=>∀j(d:j<l.length),j<i->(!m l[j])=false) ?_ k6 ?_ ?_;simp only[go_sem];intro i e g;have n:(l.map SealM.A)[i]?=some [.v (.int .i64 l[i].Of.a),.v (.int .i64 l[i].Of.b),.v (.int .u64 l[i].Of.c),.ls 1 (bl l[i].Body)]:=aO _ l i e;simp only[go_sem,aT e,n];apply aG [0] (aB _) d_ k_ rfl rfl (UN f m l[i] (h _ (eQ e)));rintro r p ⟨rfl,rfl⟩
 cases k:m l[i]with
 |true=>
  simp only[go_sem,fQ i o_];grind
 |false=>
  simp only[go_sem];rw[mC e g (by rw[k];rfl)]
 intro g;simp only[go_sem,aS (bP _)];rw[lD λj d=>g j d d]
def Wa(f:Nat)(m:SealM->Bool)(l:List SealM)(a:l.length<2^63-1)(h:∀x∈l,aA PQ G f [.ag x.A] [] λr T=>r=.v (.bool (m x))/\T=[]):
 aA PQ G dJ [.ls 4 (l.map SealM.A),.cl fW [.ptr 0 0]] [some (.box [.cl f []])] λr T=>r=.v (.bool (l.any λx=>!m x))/\T=[some (.box [.cl f []])]:=by
 apply aC mO;simp only[go_sem];apply aG [0] (aB _) d_ k_ rfl rfl (WZ f m l a h);rintro r b ⟨rfl,rfl⟩;simp only[go_sem,ge_iff_le,mN]
def N0(f:Nat)(m:SealM->Bool)(l:List SealM)(a:l.length<2^63-1)(h:∀x∈l,aA PQ G f [.ag x.A] [] λr T=>r=.v (.bool (m x))/\T=[]):
 aA PQ G iU [.ls 4 (l.map SealM.A),.cl f []] [] λr T=>r=.v (.bool (l.all m))/\T=[]:=by
 apply aC De;simp only[go_sem];apply aG [0] (aB _) d_ k_ rfl rfl (Wa f m l a h);rintro r b ⟨rfl,rfl⟩;simp only[go_sem,GC]
end
section
variable{G:L_}
def aCN(k:Int):aA PQ G Dc [iv k] [] λr T=>r=.v (.bool (Ip k))/\T=[]:=by
 apply aC LN;unfold Ip;simp only[go_sem]
 repeat' (refine aL (λh=>?_) (λh=>?_)<;>(try simp only[vP,lI,sF]at h)<;>simp only[go_sem,h])
 all_goals simp[*]
def SJ(o:OpM):Bool:=o.Kind==7||o.Kind==8||o.Kind==12||o.Kind==10||o.Kind==11||o.Kind==13
def Ys(o:OpM):Bool:=o.Device !=0&&o.Kind !=2&&o.Kind !=3&&o.Kind !=11&&o.Kind !=13
def Yt(o:OpM):Bool:=(o.Old !=0&&o.Kind !=13)||(o.Member !=0&&o.Kind !=3&&o.Kind !=5)||(o.Role !=0&&o.Kind !=2&&o.Kind !=5)
def Yu(o:OpM):Bool:=decide ((o.Path.length:Int)>0)&&!Ip o.Kind
def Yv(o:OpM):Bool:=o.Kind !=6&&((!(o.Epoch.a==0&&(o.Epoch.b==0&&o.Epoch.c==0)))||o.N !=0||decide ((o.Refs.length:Int)>0))
def Yw(o:OpM):Bool:=((decide ((o.Body.length:Int)>0))&&o.Kind !=6&&o.Kind !=7)||((!(o.Of.a==0&&(o.Of.b==0&&o.Of.c==0)))&&!SJ o)
def Yx(o:OpM):Bool:=o.Kind !=9&&(decide ((o.Guards.length:Int)>0)||o.Wait !=0||(o.Pub:Int)!=0)
def Yy(o:OpM):Bool:=(o.Need !=0&&o.Kind !=9&&o.Kind !=1)||(decide ((o.Boxes.length:Int)>0)&&o.Kind !=9&&o.Kind !=10&&o.Kind !=11)
def xZ(o:OpM):Qk o=(!Ys o&&!Yt o&&!Yu o&&!Yv o&&!Yw o&&!Yx o&&!Yy o&&(((o.Hist.length:Int)==0)||o.Kind==2||o.Kind==13)):=rfl
def aHL(o:OpM):aA PQ G DY [.ag o.A] [] λr T=>r=.v (.bool (Qk o))/\T=[]:=by
 apply aC Pf;dsimp only[go_sem];rw[L9];have a:sB 0 [AV.ag o.A]=[(0,.ag o.A)]:=rfl;rw[bC];refine cB (λs=>s=⟨0,[(1,.ptr 0 0)],[some (.box o.A)]⟩) ?_ ?_;simp only[go_sem];rintro s rfl;rw[bC];refine cB (λs=>s=⟨0,[(3,iv o.Kind),(1,.ptr 0 0)],[some (.box o.A)]⟩) ?_ ?_;simp only[go_sem];rintro s rfl;rw[bC];refine cB (λs=>s=⟨0,[(4,.v (.bool (SJ o))),(3,iv o.Kind),(1,.ptr 0 0)],[some (.box o.A)]⟩) ?_ ?_
 ·simp only[go_sem]
  repeat' (refine aL (λh=>?_) (λh=>?_)<;>(try simp only[vP,lI,sF]at h)<;>simp only[go_sem,h,undef])
  all_goals simp only[SJ, *,Ed,EI,EH,Bool.or_self]
 rintro s rfl;rw[bC];refine cB (λs=>s=⟨0,[(4,.v (.bool (SJ o))),(3,iv o.Kind),(1,.ptr 0 0)],[some (.box o.A)]⟩/\Ys o=false) ?_ ?_
 ·simp only[go_sem]
  repeat' (refine aL (λh=>?_) (λh=>?_)<;>(try simp only[vP,lI,sF]at h)<;>simp only[go_sem,h,undef])
  all_goals first|(rw[xZ];simp_all[Ys])|simp_all[Ys]
 rintro s ⟨rfl,h1⟩;rw[bC];refine cB (λs=>s=⟨0,[(4,.v (.bool (SJ o))),(3,iv o.Kind),(1,.ptr 0 0)],[some (.box o.A)]⟩/\Yt o=false) ?_ ?_
 ·simp only[go_sem]
  repeat' (refine aL (λh=>?_) (λh=>?_)<;>(try simp only[vP,lI,sF]at h)<;>simp only[go_sem,h,undef])
  all_goals first|(rw[xZ];simp_all[Yt])|simp_all[Yt]
 rintro s ⟨rfl,h2⟩;rw[bC];refine cB (λs=>s=⟨0,[(4,.v (.bool (SJ o))),(3,iv o.Kind),(1,.ptr 0 0)],[some (.box o.A)]⟩/\Yu o=false) ?_ ?_
 ·simp only[go_sem,aP]
  repeat' (refine aL (λh=>?_) (λh=>?_)<;>(try simp only[vP,lI,sF]at h)<;>simp only[go_sem,h,undef])
  all_goals (try (refine cX (aCN o.Kind) ?_;simp only[go_sem]))
  repeat' (refine aL (λh=>?_) (λh=>?_)<;>(try simp only[vP,lI,sF]at h)<;>simp only[go_sem,h])
  all_goals first|(rw[xZ];simp_all[Yu])|simp_all[Yu]
 rintro s ⟨rfl,h3⟩;rw[bC];refine cB (λs=>s=⟨0,[(4,.v (.bool (SJ o))),(3,iv o.Kind),(1,.ptr 0 0)],[some (.box o.A)]⟩/\Yv o=false) ?_ ?_
 ·simp only[go_sem]
  repeat' (refine aL (λh=>?_) (λh=>?_)<;>(try simp only[vP,lI,sF]at h)<;>simp only[go_sem,aP,h,undef])
  all_goals first|(rw[xZ];simp_all[Yv])|simp_all[Yv]
 rintro s ⟨rfl,h4⟩;rw[bC];refine cB (λs=>s=⟨0,[(3,iv o.Kind),(1,.ptr 0 0)],[some (.box o.A)]⟩/\Yw o=false) ?_ ?_
 ·simp only[go_sem,aP]
  repeat' (refine aL (λh=>?_) (λh=>?_)<;>(try simp only[vP,lI,sF]at h)<;>simp only[go_sem,h,undef])
  all_goals first|(rw[xZ];simp_all[Yw])|simp_all[Yw]
 rintro s ⟨rfl,h5⟩;rw[bC];refine cB (λs=>s=⟨0,[(3,iv o.Kind),(1,.ptr 0 0)],[some (.box o.A)]⟩/\Yx o=false) ?_ ?_
 ·simp only[go_sem]
  repeat' (refine aL (λh=>?_) (λh=>?_)<;>(try simp only[vP,lI,sF]at h)<;>simp only[go_sem,aP,h,undef])
  all_goals first|(rw[xZ];simp_all[Yx])|simp_all[Yx]
 rintro s ⟨rfl,h6⟩;rw[bC];refine cB (λs=>s=⟨0,[(3,iv o.Kind),(1,.ptr 0 0)],[some (.box o.A)]⟩/\Yy o=false) ?_ ?_
 ·simp only[go_sem]
  repeat' (refine aL (λh=>?_) (λh=>?_)<;>(try simp only[vP,lI,sF]at h)<;>simp only[go_sem,aP,h,undef])
  all_goals first|(rw[xZ];simp_all[Yy])|simp_all[Yy]
 rintro s ⟨rfl,b⟩;simp only[go_sem,aP]
 repeat' (refine aL (λh=>?_) (λh=>?_)<;>(try simp only[vP,lI,sF]at h)<;>simp only[go_sem,h,undef])
 all_goals rw[xZ];simp_all
end
section
open W
def Jx:cF CF []=some ⟨26,[(4,none)],S [R0 4 1 [M F],S [R0 6 4 [ne (n v0) (n v1)],If 10 [1,0] (S [E0 [A 4 F],.ret])],S [i0 5,fo 0 11 3 (ls v5 (n v0)) [0,5,1] 5 (S [D 17 8 [] [ea true [.int .i64,.int .i64,.int .u64] (L 3 (i 3 v0 v5)) (L 3 (i 3 v1 v5))],If 25 [5,1,0] (S [E0 [A 4 F],.ret])])],E0 [A 4 T],.ret]⟩:=s_
def N1:cF oK []=some ⟨18,[(4,none)],S [R 4 1 [1] [J 3 (b t1),M F],S [i0 5,fo 0 6 3 (ls v5 (n v0)) [0,5,3] 5 (S [D 12 5 [] [ea false [.int .i64,.int .i64,.int .u64] (L 3 (i 3 v0 v5)) (L 3 t3)],If 17 [5,3,0] (S [E0 [A 4 T],.ret])])],E0 [A 4 F],.ret]⟩:=s_
def SK:cF wC []=some ⟨23,[(4,none)],S [R 4 1 [0,1] [J 2 (b t0),b t1,M F],D 5 18 [2,3] [l (f 0 t2),l (f 0 t3),J 10 (l (f 1 t2)),l (f 1 t3),J 15 (l (f 2 t2)),l (f 2 t3),J 9 (K [zl 18 17,zf 17 3 2,zl 16 15,zf 15 2 2,zl 13 12,zf 12 3 1,zl 11 10,zf 10 2 1] (c2 jW t6 t8)),J 14 (K [zl 18 17,zf 17 3 2,zl 16 15,zf 15 2 2] (c2 jW (t 11) (t 13))),J 19 (ls (c1 zX (j3 [z0,z0,z0] t9 (t 14) (c2 qV (t 16) (t 18)))) w0),J 4 v22],.ret]⟩:=s_
def LT:cF rO [(2,none,3),(3,none,3),(6,none,3)]=some ⟨48,[(2,none)],S [R0 2 1 [M z],S [iz 3,ow 3 3],S [i0 4,fo 0 7 3 (ls v4 (n v0)) [4,0] 4 (S [R0 13 2 [A 5 (n v3)],lo 2 (S [S [R0 15 1 [gt v5 w0],Ie 16 [] .skip [] (ex 2)],bw 3 (S [S [D 17 10 [] [o (c2 DR (L 3 (i 3 v0 v4)) (L 3 (i 3 v3 (sb v5 w1))))],If 27 [] (ex 2)],R0 28 2 [A 5 (sb v5 w1)]])]),S [iz 6,ow 6 3],S [R0 30 5 [v6,v3,v5,A 6 (a 3 24 (t 30) (x (.slc (zt 31) none (some (zt 32)) 3)))],ow 6 3],S [R0 35 7 [A 6 (a 3 24 v6 (ba 3 zI (L 3 (i 3 v0 v4))))],ow 6 3],R 42 5 [6,5] [v6,v3,v5,A 3 (a 3 24 (t 42) (x (.slc (zt 43) (some (zt 44)) none 3)))],ow 3 3])],S [R 47 1 [3] [A 2 v3],ow 2 3],.ret]⟩:=s_
def LU:cF zX []=some ⟨18,[(2,none)],S [R0 2 1 [M w0],i0 3,S [R 7 0 [0] [A 6 t0,n t6,A 8 w0],ra 0 8 t7 9 [6,8,7] 16 (S [R0 10 2 [A 5 (l (i 1 t6 t8))],R0 12 2 [ne v5 v3],Iz 14 [8,3,6,7] (S [R 15 1 [5] [A 2 v5],.ret]) [5]])],R 17 1 [3] [A 2 v3],.ret]⟩:=s_
def FM:cF jW []=some ⟨20,[(4,none)],S [R0 4 1 [M w0],R0 7 2 [A 5 (c1 kH v0)],R0 9 2 [A 6 (c1 kH v1)],S [R 0 0 [5] [A 11 t5],If 11 [0,1] (S [S [R 0 0 [6] [A 12 t6],If 12 [] (S [i0 4,.ret])],E0 [A 4 (w (-1))],.ret])],S [R 0 0 [6] [A 13 t6],If 13 [0,1] (S [E0 [A 4 w1],.ret])],S [R0 14 2 [ls v0 v1],If 16 [0,1] (S [E0 [A 4 (w (-1))],.ret])],S [R 17 2 [0,1] [gt v0 v1],If 19 [] (S [E0 [A 4 w1],.ret])],i0 4,.ret]⟩:=s_
def Cl:cF qV []=some ⟨20,[(4,none)],S [R0 4 1 [M w0],R0 7 2 [A 5 (c1 oT v0)],R0 9 2 [A 6 (c1 oT v1)],S [R 0 0 [5] [A 11 t5],If 11 [0,1] (S [S [R 0 0 [6] [A 12 t6],If 12 [] (S [i0 4,.ret])],E0 [A 4 (w (-1))],.ret])],S [R 0 0 [6] [A 13 t6],If 13 [0,1] (S [E0 [A 4 w1],.ret])],S [R0 14 2 [ls v0 v1],If 16 [0,1] (S [E0 [A 4 (w (-1))],.ret])],S [R 17 2 [0,1] [gt v0 v1],If 19 [] (S [E0 [A 4 w1],.ret])],i0 4,.ret]⟩:=s_
def Po:cF DR []=some ⟨30,[(4,none)],S [R 4 1 [0,1] [J 2 (b t0),b t1,M F],S [R0 5 4 [ne (l (f 0 t2)) (l (f 0 t3))],If 9 [] (S [R 10 5 [2,3] [A 4 (ls (l (f 0 t2)) (l (f 0 t3)))],.ret])],S [R0 15 4 [ne (l (f 1 t2)) (l (f 1 t3))],If 19 [] (S [R 20 5 [2,3] [A 4 (ls (l (f 1 t2)) (l (f 1 t3)))],.ret])],R 25 5 [2,3] [A 4 (ls (l (f 2 t2)) (l (f 2 t3)))],.ret]⟩:=s_
end
end Hud
