import Derived.Test.YtfbnbkidnmhhoaaGreatDoorLib06
set_option linter.all false
set_option maxHeartbeats 40000000
namespace Hud
open Go
section
variable{G:L_}
def tR(n a b:Int):aA PQ G bM [iv n,iv a,iv b] [] λr T=>r=.v (.bool (oI n a b))/\T=[]:=by refine aC WQ ?_;unfold oI;cases h:decide (a<=n)<;>simp only[go_sem,ge_iff_le,h,mF,lR]
def Bt(n:Nat):aA PQ G jS [uv n] [] λr T=>r=.v (.bool (HK n))/\T=[]:=by refine aC Np ?_;unfold HK;cases h:decide ((1:Int)<=(n:Int))<;>simp only[go_sem,ge_iff_le,h,mF,lR]
def MC(n:Int):aA PQ G Da [.v (.int .u64 n)] [] λr T=>r=.v (.bool (okM n))/\T=[]:=by refine aC WR ?_;unfold okM;simp only[go_sem]
def Dg(x:Id):aA PQ G fC [.ag x.A] [] λr T=>r=.v (.bool (jP x))/\T=[]:=by refine aC Pj ?_;unfold jP;simp only[go_sem,Id.A_def];apply cX (tR x.a 1 12);cases d:oI x.a 1 12;simp only[go_sem,lR];simp only[go_sem];apply cX (tR x.b 1 2147483647);cases h2:oI x.b 1 2147483647;simp only[go_sem,lR,mF];simp only[go_sem];apply cX (MC x.c);simp only[go_sem,mF]
def FF(n a b:Int):aA PQ G dP [iv n,iv a,iv b] [] λr T=>r=.v (.bool (oI n a b))/\T=[]:=by refine aC UH ?_;unfold oI;cases h:decide (a<=n)<;>simp only[go_sem,ge_iff_le,h,mF,lR]
def Dh(n:Nat):aA PQ G kQ [uv n] [] λr T=>r=.v (.bool (HK n))/\T=[]:=by refine aC LO ?_;unfold HK;cases h:decide ((1:Int)<=(n:Int))<;>simp only[go_sem,ge_iff_le,h,mF,lR]
def Nt(n:Int):aA PQ G xV [.v (.int .u64 n)] [] λr T=>r=.v (.bool (okM n))/\T=[]:=by refine aC UI ?_;unfold okM;simp only[go_sem]
def FG(x:Id):aA PQ G jT [.ag x.A] [] λr T=>r=.v (.bool (jP x))/\T=[]:=by refine aC Nj ?_;unfold jP;simp only[go_sem,Id.A_def];apply cX (FF x.a 1 12);cases d:oI x.a 1 12;simp only[go_sem,lR];simp only[go_sem];apply cX (FF x.b 1 2147483647);cases h2:oI x.b 1 2147483647;simp only[go_sem,lR,mF];simp only[go_sem];apply cX (Nt x.c);simp only[go_sem,mF]
def Nu(b:BoxM):aA PQ G wF [.ag b.A] [] λr T=>r=.v (.bool (wA b))/\T=[]:=by refine aC Pk ?_;unfold wA BoxM.A;simp only[go_sem];apply cX (Bt b.To);cases c:HK b.To;simp only[go_sem,lR];simp only[go_sem];apply cX (Bt b.Eph);cases h2:HK b.Eph;simp only[go_sem,lR,mF];simp only[go_sem];apply cX (MC (b.Body:Int));cases a:okM (b.Body:Int);simp only[go_sem,lR,mF];simp only[go_sem];apply cX (MC (b.Tag:Int));simp only[go_sem,mF]
end
def MP(D:List (Int×Bool)):AObj:=.map false (D.map λe=>[.int .i64 e.1]) (D.map λe=>.v (.bool e.2)) (List.range D.length) D.length
abbrev aHH(m:Nat)(e:Int×Nat×Bool):HOper:=⟨none,.mup false [.int .i64] (.tmp m) (.const (.int .i64 e.1)) (.tmp e.2.1),none⟩
def UJ{k:Int}:∀(D:List (Int×Bool))(i:Nat),k∉D.map (·.1)->aK4 [.int .i64] [.int .i64 k] (D.map λe=>[.int .i64 e.1]) i=some none
 |[],_,_=>rfl
 |e::D,i,h=>by
  simp only[fG,cS,not_or]at h;have a:(k==e.1)=false:=by simpa using h.1
  simp only[fG,aK4,rJ,and_self,if_true,a,lR];exact UJ D (i+1) h.2
def aCG{T:aK}{i:Nat}(a:i<T.length)(o:AObj):cR (T.set i (some o)) i=some o:=by grind[cR]
def aFe(D:List (Int×Bool))(e:Int×Bool):AObj.map false ((D.map λe=>[.int .i64 e.1])++[[.int .i64 e.1]]) ((D.map λe=>AV.v (.bool e.2))++[.v (.bool e.2)]) (List.range D.length++[D.length]) (D.length+1)=MP (D++[e]):=by simp only[MP,bZ,fG,uP,dZ,sE,gQ,pQ,QH]
def Yp{T:aK}{i:Nat}(f:i<T.length){ev:Operand->AV}{m:Nat}{D:List (Int×Bool)}{e:Int×Nat×Bool}(c:ev (.tmp m)=.mp i)(d:ev (.const (.int .i64 e.1))=iv e.1)(a:ev (.tmp e.2.1)=.v (.bool e.2.2))(b:e.1∉D.map (·.1)):
 cE (T.set i (some (MP D))) ev (.mup false [.int .i64] (.tmp m) (.const (.int .i64 e.1)) (.tmp e.2.1))=some (.v undef,T.set i (some (MP (D++[(e.1,e.2.2)])))):=by
 have g:LF false [.int .i64] (iv e.1)=some [.int .i64 e.1]:=by simp[LF,rJ]
 simp only[cE,c,aCG f,d,a,g];simp only[MP,if_true,UJ D 0 b,List.set_set];rw[<-MP,<-aFe D (e.1,e.2.2)]
def Gw{α:Type}:∀(l:List α)(j:Nat)(h:j<l.length),(l[j]::l.eraseIdx j).Perm l|x::l,0,_=>by simp|x::l,j+1,h=>by simp only[List.getElem_cons_succ,X7];exact(List.Perm.swap _ _ _).trans ((Gw l j n_).cons x)
def Nv {P:Program} {G:L_} {g:List HOper} {r:Nat} {s:List (Nat×AV)} {T0:aK} {i m:Nat} {K:St->Prop} (B:i<T0.length) (z:bA s m=.mp i) (C:∀X,qL G ⟨r,s,T0.set i (some (MP X))⟩ g):
 ∀(n:Nat)(l:List (Int×Nat×Bool))(D:List (Int×Bool)),l.length=n->(∀e∈l,bA s e.2.1=.v (.bool e.2.2))->(D.map (·.1)++l.map (·.1)).Nodup ->
  (∀X,X.Perm (D++l.map λe=>(e.1,e.2.2))->K ⟨r,s,T0.set i (some (MP X))⟩)->IH P G g n (l.map (aHH m)) ⟨r,s,T0.set i (some (MP D))⟩ K
 |0,l,D,A,_,_,t=>by
  have:l=[]:=Ae A;subst this;exact t D k_
 | n+1,l,D,A,u,y,t=>by
  intro j o b;rw[gE]at b
  cases q:l[j]? with
  |none=>rw[q]at b;simp at b| some e=>
   rw[q]at b;simp only[iX,O7]at b;subst b;obtain⟨d,p⟩:=aQ6.1 q;have f:e∈l:=m_;have w:(e::l.eraseIdx j).Perm l:=by rw[<-p];exact Gw l j d
   have k:e.1∉D.map (·.1):=λh=>(vQ.1 y).2.2 _ h _ (dF.2 ⟨e,f,rfl⟩) rfl;have a:=Yp (T:=T0) B (ev:=dW G s) (m:=m) (D:=D) (e:=e) (by simpa[dW]using z) rfl (by simpa[dW]using u e f) k;have c:(l.map (aHH m)).eraseIdx j=(l.eraseIdx j).map (aHH m):=CD _ l j;simp only[fY,yF,a,fV];refine⟨C _,?_⟩;rw[c];refine Nv B z C n (l.eraseIdx j) (D++[(e.1,e.2.2)]) (by rw[Rg d];omega) (λx E=>u x (List.mem_of_mem_eraseIdx E)) ?_ λX F=>t X (F.trans ?_);refine(List.Perm.nodup_iff ?_).2 y;rw[bZ,lq2];apply YB _;have:=w.map (·.1);simpa using this;rw[lq2];apply YB _;have:=w.map λe:Int×Nat×Bool=>(e.1,e.2.2)
   simpa using this
def aGW{T:aK}{i j a q:Nat}{c:O3}{X:List (Int×Bool)}{K:AV->aK->Prop}(s:cR T i=some (.mit (some j) a c q))(t:cR T j=some (MP X))(u:a<=q)(h2:X.length<=a)
 (g:(∀b,b<X.length->b∈c)->K (.v (.tuple #[.bool false])) T)
 (n:∀b(h:b<X.length),b∉c->K (.tup [.v (.bool true),.v (.int .i64 X[b].1),.v (.bool X[b].2)]) (T.set i (some (.mit (some j) a (c++[b]) X.length)))):@aCA T (.ptr i 0) ⟨K⟩:=by
 simp only[aCA,s,t,MP];refine⟨u,λb d=>CV (uM.1 d) h2,λh=>g λb d=>h b (uM.2 d),λe k v b f m d r=>?_⟩;rw[gE]at f m
 cases p:X[e]? with
 |none=>rw[p]at f;simp at f|some x=>
  obtain⟨l,o⟩:=aQ6.1 p;rw[p]at f m;simp only[iX,O7]at f m;rw[aBQ l]at d;simp only[O7]at d;subst d;have:=n e l r;rw[o]at this;rw[<-f,<-m];exact this
def CJ{n b:Nat}(h:b<n):(List.range n).findIdx? (· == b)=some b:=by grind[List.findIdx?_eq_some_iff_getElem]
def Yq(a:Nat)(e:Int×Bool):Nat:=if e.2 then a ||| e.1.toNat else a
def aCH(a:Nat)(x y:Int×Bool):Yq (Yq a x) y=Yq (Yq a y) x:=by grind[Yq,Bool.or_assoc]
def aLK(X:List (Int×Bool)):Nat:=X.foldl Yq 0
def Nw{X Y:List (Int×Bool)}(h:X.Perm Y):aLK X=aLK Y:=h.foldl_eq' (λx _ y _ z=>aCH z x y) 0
def Io(X:List (Int×Bool))(a:O3):List (Int×Bool):=a.map λb=>X.getD b (0,false)
def aFf{X:List (Int×Bool)}{a:O3}(d:a.Nodup)(e:∀b∈a,b<X.length)(f:∀b,b<X.length->b∈a):(Io X a).Perm X:=by
 have c:a.Perm (List.range X.length):=(aBH d aBT).2 λb=>m_;have h2:Io X (List.range X.length)=X:=by unfold Io;refine Ki k_ λi c h2=>?_;simp_all
 have:=c.map λb=>X.getD b (0,false);rwa[show(List.range X.length).map (λb=>X.getD b (0,false))=X from h2]at this
def aHI{P:Program}{G:L_}{b a:List HOper}{next:HD}{st:St}{K:St->Prop}{n:Nat}(c:a.length=n)(h:IH P G b n a st λs=>@PV P G next s ⟨K⟩):@PV P G (.perm b a next) st ⟨K⟩:=by subst c;exact h
def aCI(a b:Nat)(d:a<65536)(c:b<65536):bV .or (.int .i64 (a:Int)) (.int .i64 (b:Int))=some (.int .i64 ((a ||| b:Nat):Int)):=by
 have f:a ||| b<65536:=TX (n:=16) d c;have e:(BitVec.ofInt IntKind.i64.bits (a:Int) ||| BitVec.ofInt IntKind.i64.bits (b:Int)).toNat=a ||| b:=by
  have h:(BitVec.ofInt 64 (a:Int)).toNat=a:=c_;have g:(BitVec.ofInt 64 (b:Int)).toNat=b:=c_;show(BitVec.ofInt 64 (a:Int) ||| BitVec.ofInt 64 (b:Int)).toNat=a ||| b;grind
 simp only[bV,if_true,e];rw[aJ o_ o_]
def aHJ{a:Nat}{e:Int×Bool}(b:a<65536)(c:e.1.toNat<65536):Yq a e<65536:=by unfold Yq;split;exact TX (n:=16) b c;exact b
def WS:∀(l:List (Int×Bool))(a:Nat),a<65536->(∀e∈l,e.1.toNat<65536)->l.foldl Yq a<65536|[],_,h,_=>h|e::l,a,h,b=>WS l _ (aHJ h (b e EV)) λx c=>b x (GU _ c)
def xY:∀{M L:O3},M.Nodup->(∀y∈M,y∈L)->M.length<=L.length|[],_,_,_=>pR _|y::M,L,b,h=>by rw[BU]at b;have c:=xY (M:=M) (L:=L.erase y) b.2 λz a=>(List.mem_erase_of_ne (λe:z=y=>b.1 (by rw[e]at a;exact a))).2 (h z (GU _ a));grind
def aAe(a b:Nat)(f:a<65536)(e:b<65536):bV .and (.int .i64 (a:Int)) (.int .i64 (b:Int))=some (.int .i64 ((a &&& b:Nat):Int)):=by
 have d:a &&& b<=a:=aBW;have c:(BitVec.ofInt IntKind.i64.bits (a:Int) &&& BitVec.ofInt IntKind.i64.bits (b:Int)).toNat=a &&& b:=by
  have h:(BitVec.ofInt 64 (a:Int)).toNat=a:=c_;have g:(BitVec.ofInt 64 (b:Int)).toNat=b:=c_;show(BitVec.ofInt 64 (a:Int) &&& BitVec.ofInt 64 (b:Int)).toNat=a &&& b;grind
 simp only[bV,if_true,c];rw[aJ o_ o_]
def qX{α:Type}(p:α->Bool)(l:List α):Int:=match l.findIdx? p with|some i=>(i:Int)|none=>-1
def lD{α:Type}{p:α->Bool}{l:List α}(h:∀j(a:j<l.length),p l[j]=false):qX p l=-1:=by unfold qX;rw[Md.2 λx b=>by obtain⟨j,a,rfl⟩:=CU b;simp[h j a]]
def mC{α:Type}{p:α->Bool}{l:List α}{i:Nat}(b:i<l.length)(h:∀j(a:j<l.length),j<i->p l[j]=false)(c:p l[i]=true):qX p l=(i:Int):=by unfold qX;rw[Ad.2 ⟨b,c,λj a=>by simp[h j o_ a]⟩]
def mN{α:Type}(p:α->Bool)(l:List α):decide ((0:Int)<=qX p l)=l.any p:=by grind[qX]
def qY:O3:=[0,2064,32793,21,16,12,480,640,512,31744,8704,8705,512,33299]
def vV(k:Int):Nat:=qY.getD k.toNat 0
def nE(a b:Nat):Nat:=(BitVec.ofNat 64 a &&& ~~~(BitVec.ofNat 64 b)).toNat
def FH(o:OpM):List (Int×Bool):=
 [(1,oI o.Device (if o.Kind=3 then 0 else 1) 12),(2,oI o.Old 1 12),(4,if o.Kind=3 then(oI o.Member 1 8&&(o.Device==0))||((o.Member==0)&&(o.Device !=0)) else oI o.Member 1 8),(8,oI o.Role 1 3),(64,oI o.N 0 2147483647),(4096,oI o.Wait 0 2147483647),
  (2048,oI o.Need (if o.Kind=1 then 0 else 1) (if o.Kind=1 then 20 else o.Guards.length)),(32,jP o.Epoch),(512,jP o.Of),(16384,HK o.Pub)]
def Pm(h:Nat)(X:List (Int×Bool)):Bool:=X.all λe=>(h &&& e.1.toNat==0)||e.2
def FI(n:NodeM):Bool:=HK n.Pub&&n.Boxes.all wA
def FJ(x:SealM):Bool:=jP x.Of
def yS(n:Int):Bool:=oI n 1 12
def SF(n:Nat):Bool:=okM (n:Int)
def CK(o:OpM)(h:Nat):Bool :=
 (oI o.By 1 12&&oI o.Seq 1 2147483647&&oI o.At 0 2147483647)&&(Pm h (FH o)&&(o.Guards.all yS&&(o.Refs.all SF&&(o.Past.all jP&&(o.Path.all FI&&(o.Boxes.all wA&&o.Hist.all FJ))))))
def ED(o:OpM):Bool :=
 (decide ((o.Past.length:Int)>12)||decide ((o.Path.length:Int)>5)||!(o.Path.all λn=>decide ((n.Boxes.length:Int)<=12))||decide ((o.Body.length:Int)>208)||decide ((o.Refs.length:Int)>8)||decide ((o.Hist.length:Int)>20)||!(o.Hist.all λx=>decide ((x.Body.length:Int)<=208))||decide ((o.Guards.length:Int)>6)) ||
 (if o.Kind==7 then !oI (o.Body.length:Int) 1 20 else if o.Kind==9 then(o.Boxes.length:Int)!=(o.Guards.length:Int) else if o.Kind==10 then !oI (o.Boxes.length:Int) 1 6 else if o.Kind==11 then(o.Boxes.length:Int)!=1 else false)
def nT{α:Type}(a:α->α->Bool):List α->Bool|x::y::l=>a x y&&nT a (y::l)|_=>true
def aCJ(o:OpM):Bool:=nT Id.lt o.Past&&nT (λa b:Int=>decide (a<b)) o.Guards
def vF(o:OpM):Int :=
 if o.Kind<1\/13<o.Kind then 1
 else if nE (aLK (jQ o)) (vV o.Kind)≠0 then 1
 else if CK o (vV o.Kind)=false then 8
 else if ED o then 2
 else if aCJ o=false then 6
 else if decide (o.Past.length=0)≠decide (o.Kind=1) then 10 else 0
def Ip(k:Int):Bool:=k==1||k==2||k==3||k==4||k==13
def Qk(o:OpM):Bool :=
 let k:=o.Kind
 let SJ:=k==7||k==8||k==12||k==10||k==11||k==13
 !(o.Device !=0&&k !=2&&k !=3&&k !=11&&k !=13) &&
 !((o.Old !=0&&k !=13)||(o.Member !=0&&k !=3&&k !=5)||(o.Role !=0&&k !=2&&k !=5)) &&
 !(decide ((o.Path.length:Int)>0)&&!Ip k) &&
 !(k !=6&&((!(o.Epoch.a==0&&(o.Epoch.b==0&&o.Epoch.c==0)))||o.N !=0||decide ((o.Refs.length:Int)>0))) &&
 !((decide ((o.Body.length:Int)>0)&&k !=6&&k !=7)||((!(o.Of.a==0&&(o.Of.b==0&&o.Of.c==0)))&&!SJ)) &&
 !(k !=9&&(decide ((o.Guards.length:Int)>0)||o.Wait !=0||(o.Pub:Int)!=0)) &&
 !((o.Need !=0&&k !=9&&k !=1)||(decide ((o.Boxes.length:Int)>0)&&k !=9&&k !=10&&k !=11)) &&
 (((o.Hist.length:Int)==0)||k==2||k==13)
def fP(o:OpM):Bool :=
 (oI o.By 1 12&&oI o.Seq 1 2147483647&&oI o.At 0 2147483647) &&
 (if o.Kind=1 then oI o.Need 0 20
  else if o.Kind=2 then oI o.Device 1 12&&oI o.Role 1 3
  else if o.Kind=3 then(oI o.Device 1 12&&o.Member==0)||(o.Device==0&&oI o.Member 1 8)
  else if o.Kind=5 then oI o.Member 1 8&&oI o.Role 1 3
  else if o.Kind=6 then jP o.Epoch&&oI o.N 0 2147483647
  else if o.Kind=9 then oI o.Need 1 o.Guards.length&&oI o.Wait 0 2147483647&&HK o.Pub
  else if o.Kind=11 then jP o.Of&&oI o.Device 1 12
  else if o.Kind=13 then jP o.Of&&oI o.Device 1 12&&oI o.Old 1 12
  else if o.Kind=4 then true
  else jP o.Of)
def uA(o:OpM):Bool:=o.Guards.all yS&&(o.Refs.all SF&&(o.Past.all jP&&(o.Path.all FI&&(o.Hist.all FJ&&o.Boxes.all wA))))
def jB(o:OpM):Int :=
 if o.Kind<1\/13<o.Kind then 1
 else if Qk o=false then 1
 else if(fP o&&uA o)=false then 8
 else if ED o then 2
 else if nT Id.lt o.Past=false then 6
 else if nT (λa b:Int=>decide (a<b)) o.Guards=false then 6
 else if decide (o.Past.length=0)≠decide (o.Kind=1) then 10 else 0
def Gx(i:Nat):∀(X:List (Int×Bool))(a:Nat),(X.foldl Yq a).testBit i=(a.testBit i||X.any λe=>e.2&&e.1.toNat.testBit i)|[],a=>by simp|e::X,a=>by simp only[CW,List.any_cons,Gx i X];grind[Yq,Bool.or_assoc]
def UK{a b:Nat}(e:a<65536)(f:b<65536):nE a b=0↔∀i,i<16->a.testBit i=true->b.testBit i=true:=by
 have d:∀i,(nE a b).testBit i=(decide (i<64)&&(a.testBit i&&!b.testBit i)):=λi=>by grind[nE,BitVec.testBit_toNat,BitVec.getLsbD_ofNat]
 constructor;grind;intro h;refine Nat.eq_of_testBit_eq λi=>?_;rw[d,aBK];rcases eD i 16 with c|c;simp_all;rw[Nat.testBit_lt_two_pow (CV e (uR s_ (Gl s_ c)))];simp
def Nx(o:OpM):aLK (jQ o)<65536:=WS _ 0 s_ λe a=>by simp only[jQ,cS,pP,or_false]at a;rcases a with rfl|rfl|rfl|rfl|rfl|rfl|rfl|rfl|rfl|rfl|rfl|rfl|rfl|rfl|rfl|rfl<;>simp
def WT:O3:=[0,1,2,3,4,5,6,7,8,9,10,11,12,13,14,15]
def SG(k:Int):vV k<65536:=by
 unfold vV qY;rcases eD k.toNat 14 with h|h;generalize k.toNat=n at *
 have:∀n,n<14->[0,2064,32793,21,16,12,480,640,512,31744,8704,8705,512,33299].getD n 0<65536:=s_;exact this n h;rw[rH,sX n_];decide
def FK(o:OpM):List (Bool×Nat):=((jQ o).map (·.2)).zip WT
def UL(o:OpM):jQ o=(FK o).map λe=>(((2^e.2:Nat):Int),e.1):=rfl
def SH(o:OpM)(m:Nat)(a:m<65536):(nE (aLK (jQ o)) m=0)↔(FK o).all (λe=>!e.1||m.testBit e.2)=true:=by
 rw[UK (Nx o) a];have c:∀i,(aLK (jQ o)).testBit i=(FK o).any λe=>e.1&&decide (e.2=i):=λi=>by unfold aLK;rw[Gx,UL,aBK,EH,List.any_map];congr 1;funext e;simp only[Function.comp,nI,Nat.testBit_two_pow]
 have h2:∀e∈FK o,e.2<16:=λe b=>by have:=(List.of_mem_zip (show(e.1,e.2)∈_ from b)).2;simp only[WT,cS,pP,or_false]at this;omega
 grind
def Yr{k:Int}(a:¬k<1)(h2:¬13<k):k=1\/k=2\/k=3\/k=4\/k=5\/k=6\/k=7\/k=8\/k=9\/k=10\/k=11\/k=12\/k=13:=o_
def aHK(o:OpM):((o.Hist.length:Int)==0)=!(decide ((o.Hist.length:Int)>0)):=m_
def SI(o:OpM)(d:¬o.Kind<1)(h2:¬13<o.Kind):(nE (aLK (jQ o)) (vV o.Kind)=0)↔Qk o=true:=by
 rw[SH o _ (SG _)];unfold Qk;rw[aHK];simp only[FK,jQ,WT,fG,uP,List.zip_cons_cons,List.zip_nil_right,List.all_cons,aGL,yH];generalize(o.Device !=0)=v;generalize(o.Old !=0)=u;generalize(o.Member !=0)=t;generalize(o.Role !=0)=s;generalize(decide ((o.Path.length:Int)>0))=r;generalize(!(o.Epoch.a==0&&(o.Epoch.b==0&&o.Epoch.c==0)))=q;generalize(o.N !=0)=p;generalize(decide ((o.Body.length:Int)>0))=n;generalize(decide ((o.Refs.length:Int)>0))=m;generalize(!(o.Of.a==0&&(o.Of.b==0&&o.Of.c==0)))=l;generalize(decide ((o.Guards.length:Int)>0))=k;generalize(o.Need !=0)=j;generalize(o.Wait !=0)=i;generalize(decide ((o.Boxes.length:Int)>0))=g;generalize((o.Pub:Int)!=0)=f;generalize(decide ((o.Hist.length:Int)>0))=e;rcases Yr d h2 with h|h|h|h|h|h|h|h|h|h|h|h|h<;>rw[h]
 all_goals
  simp only[Ip,show ∀a b:Int,(a==b)=decide (a=b) from λ_ _=>rfl]
  simp[vV,qY,Nat.testBit,Nat.shiftRight_eq_div_pow]
  try grind
def Pn(o:OpM)(b:¬o.Kind<1)(h2:¬13<o.Kind):CK o (vV o.Kind)=(fP o&&uA o):=by
 have a:(o.Guards.all yS&&(o.Refs.all SF&&(o.Past.all jP&&(o.Path.all FI&&(o.Boxes.all wA&&o.Hist.all FJ)))))=uA o:=by grind[uA]
 unfold CK fP;rw[a,aGD (oI o.By 1 12&&oI o.Seq 1 2147483647&&oI o.At 0 2147483647)];congr 1;congr 1;unfold Pm FH;rcases Yr b h2 with h|h|h|h|h|h|h|h|h|h|h|h|h<;>rw[h]
 all_goals
  simp[vV,qY]
  try grind
 unfold oI;rw[aO8];simp;omega
def Aq(o:OpM):vF o=jB o:=by unfold vF jB;by_cases a:o.Kind<1\/13<o.Kind;omega;rw[if_neg a,if_neg a];have b:¬o.Kind<1:=λh=>a (.inl h);have h2:¬13<o.Kind:=λh=>a (.inr h);have c:=SI o b h2;rw[Pn o b h2];grind[aCJ]
end Hud
namespace Hud
set_option maxRecDepth 99999
open Go
def aQ7:=eVf (cF aN8 [(4,none,27),(5,none,27)])
def aQ8:=eVf (cF aJf [])
def aOR:=eVf (cF VM [])
def Ny:=eVf (cF Bi [])
def LS:=eVf (cF mJ [])
def yZ:=eVf (cF bY [])
def aQ9:=eVf (cF aNh [])
def aOA:=eVf (cF aLL [(4,none,3),(5,none,3)])
def aOB:=eVf (cF aET [])
def sK:=eVf (cF cT [(2,none,5)])
def Jv:=eVf (cF tG [])
def Jw:=eVf (cF pO [])
def EO:=eVf (cF oQ [])
def Dj:=eVf (cF aJ3 [])
def HV:=eVf (cF yN [])
def Gc:=eVf (cF nM [])
def Ar:=eVf (cF pE [])
def EP:=eVf (cF lL [])
def As:=eVf (cF nP [])
def aOh:=eVf (cF aE2 [])
def sL:=eVf (cF gZ [(2,none,2)])
def pU:=eVf (cF fJ [(2,none,4)])
def CL:=eVf (cF dX [])
def Dk:=eVf (cF aJ5 [])
def sM:=eVf (cF iB [(2,some 0,1)])
def pH:=eVf (cF fE [])
def aM5:=eVf (cF dI [])
def gK:=eVf (cF bD [])
def oE:=eVf (cF dY [])
def mO:=eVf (cF dJ [])
def qZ:=eVf (cF gC [])
def aMA:=eVf (cF gY [])
def pV:=eVf (cF fM [])
def aJ6:=eVf (cF dU [])
def yT:=eVf (cF fO [(2,none,1)])
def Au:=eVf (cF aES [(2,none,1)])
def uB:=eVf (cF dC [(2,none,4)])
def FL:=eVf (cF uW [])
end Hud
namespace Hud
set_option maxRecDepth 99999
open Go
def aQo:=eVf (cF aKm [(5,some 1,1)])
def aMn:=eVf (cF Z1 [])
def iD:=eVf (cF bE [(4,none,3)])
def rA:=eVf (cF bF [(2,none,3)])
def pI:=eVf (cF bJ [])
def aPH:=eVf (cF aOg [])
def aLV:=eVf (cF aCZ [(2,none,1)])
def aOS:=eVf (cF aMd [(10,none,1),(11,none,1)])
def aPv:=eVf (cF aMe [(4,none,1)])
def vG:=eVf (cF fU [(2,none,1)])
def aOT:=eVf (cF aHf [(2,none,1)])
def aQa:=eVf (cF aOz [])
def aPw:=eVf (cF aMf [])
def cJ:=eVf (cF bB [])
def rB:=eVf (cF aAD [])
def aPh:=eVf (cF aE3 [])
def qJ:=eVf (cF fS [])
def aOC:=eVf (cF aCE [])
def sO:=eVf (cF iC [])
end Hud
namespace Hud
open Go
variable{G:L_}
def GC{α:Type}(m:α->Bool)(l:List α):(!(l.any λx=>!m x))=l.all m:=m_
def WU(f:Nat)(m:BoxM->Bool)(x:BoxM)(h:aA PQ G f [.ag x.A] [] λr T=>r=.v (.bool (m x))/\T=[]):aA PQ G jH [.ag x.A,.ptr 0 0] [some (.box [.cl f []])] λr T=>r=.v (.bool (!m x))/\T=[some (.box [.cl f []])]:=by refine aC EN ?_;simp only[go_sem,BoxM.A];apply cX h;simp only[go_sem]
def aAf(f:Nat)(m:BoxM->Bool)(l:List BoxM)(g:l.length<2^63-1)(h:∀x∈l,aA PQ G f [.ag x.A] [] λr T=>r=.v (.bool (m x))/\T=[]):
 aA PQ G gC [F5 l,.cl jH [.ptr 0 0]] [some (.box [.cl f []])] λr T=>r=iv (qX (λx=>!m x) l)/\T=[some (.box [.cl f []])]:=by
 apply aC qZ;simp only[go_sem,aP];refine aQ l.length (λi=>⟨1,[(0,F5 l),(1,.cl jH [.ptr 0 0]),(7,iv l.length),(8,iv i)],[some (.box [.cl f []])]⟩) (λi=>∀j(a:j<l.length),j<i->(!m l[j])=false) ?_ og ?_ ?_;simp only[go_sem];intro i b c;have e:(l.map BoxM.A)[i]?=some [uv l[i].To,uv l[i].Eph,uv l[i].Body,uv l[i].Tag]:=aO _ l i b;simp only[go_sem,aT b,e];apply aG [0] (aB _) s_ k_ rfl rfl (WU f m l[i] (h _ (eQ b)));rintro r k ⟨rfl,rfl⟩
 cases d:m l[i]with
 |true=>
  simp only[go_sem,fQ i o_];grind
 |false=>
  simp only[go_sem];rw[mC b c i_]
 intro c;simp only[go_sem,aS (bP _)];rw[lD λj a=>c j a a]
def aAg(f:Nat)(m:BoxM->Bool)(l:List BoxM)(a:l.length<2^63-1)(h:∀x∈l,aA PQ G f [.ag x.A] [] λr T=>r=.v (.bool (m x))/\T=[]):
 aA PQ G fE [F5 l,.cl jH [.ptr 0 0]] [some (.box [.cl f []])] λr T=>r=.v (.bool (l.any λx=>!m x))/\T=[some (.box [.cl f []])]:=by
 apply aC pH;simp only[go_sem];apply aG [0] (aB _) s_ k_ rfl rfl (aAf f m l a h);rintro r b ⟨rfl,rfl⟩;simp only[go_sem,ge_iff_le,mN]
def Ql(f:Nat)(m:BoxM->Bool)(l:List BoxM)(a:l.length<2^63-1)(h:∀x∈l,aA PQ G f [.ag x.A] [] λr T=>r=.v (.bool (m x))/\T=[]):
 aA PQ G nO [F5 l,.cl f []] [] λr T=>r=.v (.bool (l.all m))/\T=[]:=by
 apply aC Gb;simp only[go_sem];apply aG [0] (aB _) s_ k_ rfl rfl (aAg f m l a h);rintro r b ⟨rfl,rfl⟩;simp only[go_sem,GC]
def WV(f:Nat)(m:Int->Bool)(x:Int)(h:aA PQ G f [iv x] [] λr T=>r=.v (.bool (m x))/\T=[]):aA PQ G nR [iv x,.ptr 0 0] [some (.box [.cl f []])] λr T=>r=.v (.bool (!m x))/\T=[some (.box [.cl f []])]:=by refine aC Im ?_;simp only[go_sem];apply cX h;simp only[go_sem]
def aAh(f:Nat)(m:Int->Bool)(l:O4)(g:l.length<2^63-1)(h:∀x∈l,aA PQ G f [iv x] [] λr T=>r=.v (.bool (m x))/\T=[]):
 aA PQ G gY [rG l,.cl nR [.ptr 0 0]] [some (.box [.cl f []])] λr T=>r=iv (qX (λx=>!m x) l)/\T=[some (.box [.cl f []])]:=by
 apply aC aMA;simp only[go_sem,aP];refine aQ l.length (λi=>⟨1,[(0,rG l),(1,.cl nR [.ptr 0 0]),(7,iv l.length),(8,iv i)],[some (.box [.cl f []])]⟩) (λi=>∀j(a:j<l.length),j<i->(!m l[j])=false) ?_ og ?_ ?_;simp only[go_sem];intro i b c;have e:(l.map λn=>[iv n])[i]?=some [iv l[i]]:=aO _ l i b;simp only[go_sem,aT b,e];apply aG [0] (aB _) s_ k_ rfl rfl (WV f m l[i] (h _ (eQ b)));rintro r k ⟨rfl,rfl⟩
 cases d:m l[i]with
 |true=>
  simp only[go_sem,fQ i o_];grind
 |false=>
  simp only[go_sem];rw[mC b c i_]
 intro c;simp only[go_sem,aS (bP _)];rw[lD λj a=>c j a a]
def aAi(f:Nat)(m:Int->Bool)(l:O4)(a:l.length<2^63-1)(h:∀x∈l,aA PQ G f [iv x] [] λr T=>r=.v (.bool (m x))/\T=[]):
 aA PQ G dI [rG l,.cl nR [.ptr 0 0]] [some (.box [.cl f []])] λr T=>r=.v (.bool (l.any λx=>!m x))/\T=[some (.box [.cl f []])]:=by
 apply aC aM5;simp only[go_sem];apply aG [0] (aB _) s_ k_ rfl rfl (aAh f m l a h);rintro r b ⟨rfl,rfl⟩;simp only[go_sem,ge_iff_le,mN]
def aAj(f:Nat)(m:Int->Bool)(l:O4)(a:l.length<2^63-1)(h:∀x∈l,aA PQ G f [iv x] [] λr T=>r=.v (.bool (m x))/\T=[]):
 aA PQ G AA [rG l,.cl f []] [] λr T=>r=.v (.bool (l.all m))/\T=[]:=by
 apply aC LQ;simp only[go_sem];apply aG [0] (aB _) s_ k_ rfl rfl (aAi f m l a h);rintro r b ⟨rfl,rfl⟩;simp only[go_sem,GC]
def WW(f:Nat)(m:Nat->Bool)(x:Nat)(h:aA PQ G f [uv x] [] λr T=>r=.v (.bool (m x))/\T=[]):aA PQ G jY [uv x,.ptr 0 0] [some (.box [.cl f []])] λr T=>r=.v (.bool (!m x))/\T=[some (.box [.cl f []])]:=by refine aC FE ?_;simp only[go_sem];apply cX h;simp only[go_sem]
def aAk(f:Nat)(m:Nat->Bool)(l:O3)(g:l.length<2^63-1)(h:∀x∈l,aA PQ G f [uv x] [] λr T=>r=.v (.bool (m x))/\T=[]):
 aA PQ G iC [.ls 1 (ul l),.cl jY [.ptr 0 0]] [some (.box [.cl f []])] λr T=>r=iv (qX (λx=>!m x) l)/\T=[some (.box [.cl f []])]:=by
 apply aC sO;simp only[go_sem,aP];refine aQ l.length (λi=>⟨1,[(0,.ls 1 (ul l)),(1,.cl jY [.ptr 0 0]),(7,iv l.length),(8,iv i)],[some (.box [.cl f []])]⟩) (λi=>∀j(a:j<l.length),j<i->(!m l[j])=false) ?_ og ?_ ?_;simp only[go_sem];intro i b c;have e:(ul l)[i]?=some [uv l[i]]:=aO _ l i b;simp only[go_sem,aT b,e];apply aG [0] (aB _) s_ k_ rfl rfl (WW f m l[i] (h _ (eQ b)));rintro r k ⟨rfl,rfl⟩
 cases d:m l[i]with
 |true=>
  simp only[go_sem,fQ i o_];grind
 |false=>
  simp only[go_sem];rw[mC b c i_]
 intro c;simp only[go_sem,aS (bP _)];rw[lD λj a=>c j a a]
def aAl(f:Nat)(m:Nat->Bool)(l:O3)(a:l.length<2^63-1)(h:∀x∈l,aA PQ G f [uv x] [] λr T=>r=.v (.bool (m x))/\T=[]):
 aA PQ G fS [.ls 1 (ul l),.cl jY [.ptr 0 0]] [some (.box [.cl f []])] λr T=>r=.v (.bool (l.any λx=>!m x))/\T=[some (.box [.cl f []])]:=by
 apply aC qJ;simp only[go_sem];apply aG [0] (aB _) s_ k_ rfl rfl (aAk f m l a h);rintro r b ⟨rfl,rfl⟩;simp only[go_sem,ge_iff_le,mN]
def aAm(f:Nat)(m:Nat->Bool)(l:O3)(a:l.length<2^63-1)(h:∀x∈l,aA PQ G f [uv x] [] λr T=>r=.v (.bool (m x))/\T=[]):
 aA PQ G tN [.ls 1 (ul l),.cl f []] [] λr T=>r=.v (.bool (l.all m))/\T=[]:=by
 apply aC HU;simp only[go_sem];apply aG [0] (aB _) s_ k_ rfl rfl (aAl f m l a h);rintro r b ⟨rfl,rfl⟩;simp only[go_sem,GC]
def aAn(f:Nat)(m:Id->Bool)(x:Id)(h:aA PQ G f [.ag x.A] [] λr T=>r=.v (.bool (m x))/\T=[]):aA PQ G gU [.ag x.A,.ptr 0 0] [some (.box [.cl f []])] λr T=>r=.v (.bool (!m x))/\T=[some (.box [.cl f []])]:=by refine aC Cj ?_;simp only[go_sem,Id.A_def];apply cX h;simp only[go_sem]
def aCK(f:Nat)(m:Id->Bool)(l:O6)(o:l.length<2^63-1)(h:∀x∈l,aA PQ G f [.ag x.A] [] λr T=>r=.v (.bool (m x))/\T=[]):
 aA PQ G bB [ids l,.cl gU [.ptr 0 0]] [some (.box [.cl f []])] λr T=>r=iv (qX (λx=>!m x) l)/\T=[some (.box [.cl f []])]:=by
 apply aC cJ;simp only[go_sem,aP];refine aQ l.length (λi=>⟨1,[(0,ids l),(1,.cl gU [.ptr 0 0]),(7,iv l.length),(8,iv i)],[some (.box [.cl f []])]⟩) (λi=>∀j(d:j<l.length),j<i->(!m l[j])=false) ?_ sg ?_ ?_;simp only[go_sem];intro i e g;have n:(l.map Id.A)[i]?=some [.v (.int .i64 l[i].a),.v (.int .i64 l[i].b),.v (.int .u64 l[i].c)]:=aO _ l i e;simp only[go_sem,aT e,n];apply aG [0] (aB _) s_ k_ rfl rfl (aAn f m l[i] (h _ (eQ e)));rintro r p ⟨rfl,rfl⟩
 cases k:m l[i]with
 |true=>
  simp only[go_sem,fQ i o_];grind
 |false=>
  simp only[go_sem];rw[mC e g (by rw[k];rfl)]
 intro g;simp only[go_sem,aS (bP _)];rw[lD λj d=>g j d d]
def aCL(f:Nat)(m:Id->Bool)(l:O6)(a:l.length<2^63-1)(h:∀x∈l,aA PQ G f [.ag x.A] [] λr T=>r=.v (.bool (m x))/\T=[]):
 aA PQ G bD [ids l,.cl gU [.ptr 0 0]] [some (.box [.cl f []])] λr T=>r=.v (.bool (l.any λx=>!m x))/\T=[some (.box [.cl f []])]:=by
 apply aC gK;simp only[go_sem];apply aG [0] (aB _) s_ k_ rfl rfl (aCK f m l a h);rintro r b ⟨rfl,rfl⟩;simp only[go_sem,ge_iff_le,mN]
def aCM(f:Nat)(m:Id->Bool)(l:O6)(a:l.length<2^63-1)(h:∀x∈l,aA PQ G f [.ag x.A] [] λr T=>r=.v (.bool (m x))/\T=[]):
 aA PQ G oR [ids l,.cl f []] [] λr T=>r=.v (.bool (l.all m))/\T=[]:=by
 apply aC EM;simp only[go_sem];apply aG [0] (aB _) s_ k_ rfl rfl (aCL f m l a h);rintro r b ⟨rfl,rfl⟩;simp only[go_sem,GC]
def UM(f:Nat)(m:NodeM->Bool)(x:NodeM)(h:aA PQ G f [.ag x.A] [] λr T=>r=.v (.bool (m x))/\T=[]):aA PQ G iV [.ag x.A,.ptr 0 0] [some (.box [.cl f []])] λr T=>r=.v (.bool (!m x))/\T=[some (.box [.cl f []])]:=by refine aC Df ?_;simp only[go_sem,NodeM.A];apply cX h;simp only[go_sem]
def WX(f:Nat)(m:NodeM->Bool)(l:List NodeM)(g:l.length<2^63-1)(h:∀x∈l,aA PQ G f [.ag x.A] [] λr T=>r=.v (.bool (m x))/\T=[]):
 aA PQ G fM [.ls 2 (l.map NodeM.A),.cl iV [.ptr 0 0]] [some (.box [.cl f []])] λr T=>r=iv (qX (λx=>!m x) l)/\T=[some (.box [.cl f []])]:=by
 apply aC pV;simp only[go_sem,aP];refine aQ l.length (λi=>⟨1,[(0,.ls 2 (l.map NodeM.A)),(1,.cl iV [.ptr 0 0]),(7,iv l.length),(8,iv i)],[some (.box [.cl f []])]⟩) (λi=>∀j(a:j<l.length),j<i->(!m l[j])=false) ?_ og ?_ ?_;simp only[go_sem];intro i b c;have e:(l.map NodeM.A)[i]?=some [uv l[i].Pub,F5 l[i].Boxes]:=aO _ l i b;simp only[go_sem,aT b,e];apply aG [0] (aB _) s_ k_ rfl rfl (UM f m l[i] (h _ (eQ b)));rintro r k ⟨rfl,rfl⟩
 cases d:m l[i]with
 |true=>
  simp only[go_sem,fQ i o_];grind
 |false=>
  simp only[go_sem];rw[mC b c i_]
 intro c;simp only[go_sem,aS (bP _)];rw[lD λj a=>c j a a]
def WY(f:Nat)(m:NodeM->Bool)(l:List NodeM)(a:l.length<2^63-1)(h:∀x∈l,aA PQ G f [.ag x.A] [] λr T=>r=.v (.bool (m x))/\T=[]):
 aA PQ G dY [.ls 2 (l.map NodeM.A),.cl iV [.ptr 0 0]] [some (.box [.cl f []])] λr T=>r=.v (.bool (l.any λx=>!m x))/\T=[some (.box [.cl f []])]:=by
 apply aC oE;simp only[go_sem];apply aG [0] (aB _) s_ k_ rfl rfl (WX f m l a h);rintro r b ⟨rfl,rfl⟩;simp only[go_sem,ge_iff_le,mN]
def Nz(f:Nat)(m:NodeM->Bool)(l:List NodeM)(a:l.length<2^63-1)(h:∀x∈l,aA PQ G f [.ag x.A] [] λr T=>r=.v (.bool (m x))/\T=[]):
 aA PQ G jX [.ls 2 (l.map NodeM.A),.cl f []] [] λr T=>r=.v (.bool (l.all m))/\T=[]:=by
 apply aC FD;simp only[go_sem];apply aG [0] (aB _) s_ k_ rfl rfl (WY f m l a h);rintro r b ⟨rfl,rfl⟩;simp only[go_sem,GC]
def UN(f:Nat)(m:SealM->Bool)(x:SealM)(h:aA PQ G f [.ag x.A] [] λr T=>r=.v (.bool (m x))/\T=[]):aA PQ G fW [.ag x.A,.ptr 0 0] [some (.box [.cl f []])] λr T=>r=.v (.bool (!m x))/\T=[some (.box [.cl f []])]:=by refine aC CI ?_;simp only[go_sem,SealM.A];apply cX h;simp only[go_sem]
def WZ(f:Nat)(m:SealM->Bool)(l:List SealM)(o:l.length<2^63-1)(h:∀x∈l,aA PQ G f [.ag x.A] [] λr T=>r=.v (.bool (m x))/\T=[]):
 aA PQ G dU [.ls 4 (l.map SealM.A),.cl fW [.ptr 0 0]] [some (.box [.cl f []])] λr T=>r=iv (qX (λx=>!m x) l)/\T=[some (.box [.cl f []])]:=by
 apply aC aJ6;simp only[go_sem,aP];refine aQ l.length (λi=>⟨1,[(0,.ls 4 (l.map SealM.A)),(1,.cl fW [.ptr 0 0]),(7,iv l.length),(8,iv i)],[some (.box [.cl f []])]⟩) (λi=>∀j(d:j<l.length),j<i->(!m l[j])=false) ?_ sg ?_ ?_;simp only[go_sem];intro i e g;have n:(l.map SealM.A)[i]?=some [.v (.int .i64 l[i].Of.a),.v (.int .i64 l[i].Of.b),.v (.int .u64 l[i].Of.c),.ls 1 (bl l[i].Body)]:=aO _ l i e;simp only[go_sem,aT e,n];apply aG [0] (aB _) s_ k_ rfl rfl (UN f m l[i] (h _ (eQ e)));rintro r p ⟨rfl,rfl⟩
 cases k:m l[i]with
 |true=>
  simp only[go_sem,fQ i o_];grind
 |false=>
  simp only[go_sem];rw[mC e g (by rw[k];rfl)]
 intro g;simp only[go_sem,aS (bP _)];rw[lD λj d=>g j d d]
def Wa(f:Nat)(m:SealM->Bool)(l:List SealM)(a:l.length<2^63-1)(h:∀x∈l,aA PQ G f [.ag x.A] [] λr T=>r=.v (.bool (m x))/\T=[]):
 aA PQ G dJ [.ls 4 (l.map SealM.A),.cl fW [.ptr 0 0]] [some (.box [.cl f []])] λr T=>r=.v (.bool (l.any λx=>!m x))/\T=[some (.box [.cl f []])]:=by
 apply aC mO;simp only[go_sem];apply aG [0] (aB _) s_ k_ rfl rfl (WZ f m l a h);rintro r b ⟨rfl,rfl⟩;simp only[go_sem,ge_iff_le,mN]
def N0(f:Nat)(m:SealM->Bool)(l:List SealM)(a:l.length<2^63-1)(h:∀x∈l,aA PQ G f [.ag x.A] [] λr T=>r=.v (.bool (m x))/\T=[]):
 aA PQ G iU [.ls 4 (l.map SealM.A),.cl f []] [] λr T=>r=.v (.bool (l.all m))/\T=[]:=by
 apply aC De;simp only[go_sem];apply aG [0] (aB _) s_ k_ rfl rfl (Wa f m l a h);rintro r b ⟨rfl,rfl⟩;simp only[go_sem,GC]
def aCN(k:Int):aA PQ G Dc [iv k] [] λr T=>r=.v (.bool (Ip k))/\T=[]:=by
 apply aC LN;unfold Ip;simp only[go_sem]
 repeat' (refine aL (λh=>?_) (λh=>?_)<;>(try simp only[vP,lI,sF]at h)<;>simp only[go_sem,h])
 all_goals simp[*]
def SJ(o:OpM):Bool:=o.Kind==7||o.Kind==8||o.Kind==12||o.Kind==10||o.Kind==11||o.Kind==13
def Ys(o:OpM):Bool:=o.Device !=0&&o.Kind !=2&&o.Kind !=3&&o.Kind !=11&&o.Kind !=13
def Yt(o:OpM):Bool:=(o.Old !=0&&o.Kind !=13)||(o.Member !=0&&o.Kind !=3&&o.Kind !=5)||(o.Role !=0&&o.Kind !=2&&o.Kind !=5)
def Yu(o:OpM):Bool:=decide ((o.Path.length:Int)>0)&&!Ip o.Kind
def Yv(o:OpM):Bool:=o.Kind !=6&&((!(o.Epoch.a==0&&(o.Epoch.b==0&&o.Epoch.c==0)))||o.N !=0||decide ((o.Refs.length:Int)>0))
def Yw(o:OpM):Bool:=((decide ((o.Body.length:Int)>0))&&o.Kind !=6&&o.Kind !=7)||((!(o.Of.a==0&&(o.Of.b==0&&o.Of.c==0)))&&!SJ o)
def Yx(o:OpM):Bool:=o.Kind !=9&&(decide ((o.Guards.length:Int)>0)||o.Wait !=0||(o.Pub:Int)!=0)
def Yy(o:OpM):Bool:=(o.Need !=0&&o.Kind !=9&&o.Kind !=1)||(decide ((o.Boxes.length:Int)>0)&&o.Kind !=9&&o.Kind !=10&&o.Kind !=11)
def xZ(o:OpM):Qk o=(!Ys o&&!Yt o&&!Yu o&&!Yv o&&!Yw o&&!Yx o&&!Yy o&&(((o.Hist.length:Int)==0)||o.Kind==2||o.Kind==13)):=rfl
def aHL(o:OpM):aA PQ G DY [.ag o.A] [] λr T=>r=.v (.bool (Qk o))/\T=[]:=by
 apply aC Pf;rw[L9];have a:aLJ 0 [AV.ag o.A]=[(0,.ag o.A)]:=rfl;rw[bC];refine Xs (λs=>s=⟨0,[(1,.ptr 0 0)],[some (.box o.A)]⟩) ?_ ?_;simp only[go_sem];rintro s rfl;rw[bC];refine Xs (λs=>s=⟨0,[(3,iv o.Kind),(1,.ptr 0 0)],[some (.box o.A)]⟩) ?_ ?_;simp only[go_sem];rintro s rfl;rw[bC];refine Xs (λs=>s=⟨0,[(4,.v (.bool (SJ o))),(3,iv o.Kind),(1,.ptr 0 0)],[some (.box o.A)]⟩) ?_ ?_
 ·simp only[go_sem]
  repeat' (refine aL (λh=>?_) (λh=>?_)<;>(try simp only[vP,lI,sF]at h)<;>simp only[go_sem,h,undef])
  all_goals simp only[SJ, *,Ed,EI,EH,Bool.or_self]
 rintro s rfl;rw[bC];refine Xs (λs=>s=⟨0,[(4,.v (.bool (SJ o))),(3,iv o.Kind),(1,.ptr 0 0)],[some (.box o.A)]⟩/\Ys o=false) ?_ ?_
 ·simp only[go_sem]
  repeat' (refine aL (λh=>?_) (λh=>?_)<;>(try simp only[vP,lI,sF]at h)<;>simp only[go_sem,h,undef])
  all_goals first|(rw[xZ];simp_all[Ys])|simp_all[Ys]
 rintro s ⟨rfl,g⟩;rw[bC];refine Xs (λs=>s=⟨0,[(4,.v (.bool (SJ o))),(3,iv o.Kind),(1,.ptr 0 0)],[some (.box o.A)]⟩/\Yt o=false) ?_ ?_
 ·simp only[go_sem]
  repeat' (refine aL (λh=>?_) (λh=>?_)<;>(try simp only[vP,lI,sF]at h)<;>simp only[go_sem,h,undef])
  all_goals first|(rw[xZ];simp_all[Yt])|simp_all[Yt]
 rintro s ⟨rfl,h2⟩;rw[bC];refine Xs (λs=>s=⟨0,[(4,.v (.bool (SJ o))),(3,iv o.Kind),(1,.ptr 0 0)],[some (.box o.A)]⟩/\Yu o=false) ?_ ?_
 ·simp only[go_sem,aP]
  repeat' (refine aL (λh=>?_) (λh=>?_)<;>(try simp only[vP,lI,sF]at h)<;>simp only[go_sem,h,undef])
  all_goals (try (refine cX (aCN o.Kind) ?_;simp only[go_sem]))
  repeat' (refine aL (λh=>?_) (λh=>?_)<;>(try simp only[vP,lI,sF]at h)<;>simp only[go_sem,h])
  all_goals first|(rw[xZ];simp_all[Yu])|simp_all[Yu]
 rintro s ⟨rfl,f⟩;rw[bC];refine Xs (λs=>s=⟨0,[(4,.v (.bool (SJ o))),(3,iv o.Kind),(1,.ptr 0 0)],[some (.box o.A)]⟩/\Yv o=false) ?_ ?_
 ·simp only[go_sem]
  repeat' (refine aL (λh=>?_) (λh=>?_)<;>(try simp only[vP,lI,sF]at h)<;>simp only[go_sem,aP,h,undef])
  all_goals first|(rw[xZ];simp_all[Yv])|simp_all[Yv]
 rintro s ⟨rfl,e⟩;rw[bC];refine Xs (λs=>s=⟨0,[(3,iv o.Kind),(1,.ptr 0 0)],[some (.box o.A)]⟩/\Yw o=false) ?_ ?_
 ·simp only[go_sem,aP]
  repeat' (refine aL (λh=>?_) (λh=>?_)<;>(try simp only[vP,lI,sF]at h)<;>simp only[go_sem,h,undef])
  all_goals first|(rw[xZ];simp_all[Yw])|simp_all[Yw]
 rintro s ⟨rfl,d⟩;rw[bC];refine Xs (λs=>s=⟨0,[(3,iv o.Kind),(1,.ptr 0 0)],[some (.box o.A)]⟩/\Yx o=false) ?_ ?_
 ·simp only[go_sem]
  repeat' (refine aL (λh=>?_) (λh=>?_)<;>(try simp only[vP,lI,sF]at h)<;>simp only[go_sem,aP,h,undef])
  all_goals first|(rw[xZ];simp_all[Yx])|simp_all[Yx]
 rintro s ⟨rfl,c⟩;rw[bC];refine Xs (λs=>s=⟨0,[(3,iv o.Kind),(1,.ptr 0 0)],[some (.box o.A)]⟩/\Yy o=false) ?_ ?_
 ·simp only[go_sem]
  repeat' (refine aL (λh=>?_) (λh=>?_)<;>(try simp only[vP,lI,sF]at h)<;>simp only[go_sem,aP,h,undef])
  all_goals first|(rw[xZ];simp_all[Yy])|simp_all[Yy]
 rintro s ⟨rfl,b⟩;simp only[go_sem,aP]
 repeat' (refine aL (λh=>?_) (λh=>?_)<;>(try simp only[vP,lI,sF]at h)<;>simp only[go_sem,h,undef])
 all_goals rw[xZ];simp_all
end Hud
namespace Hud
set_option maxRecDepth 99999
open Go
def aQp:=eVf (cF aM2 [(4,none,3)])
def aQb:=eVf (cF aM9 [])
def Jx:=eVf (cF CF [])
def aR7:=eVf (cF aMz [(5,none,3)])
def aQq:=eVf (cF aM1 [])
def aQr:=eVf (cF oK [])
def SK:=eVf (cF wC [])
def aPl:=eVf (cF aJI [])
def aPI:=eVf (cF aGd [(3,none,1)])
def aPJ:=eVf (cF aOf [])
def LT:=eVf (cF rO [(2,none,3),(3,none,3),(6,none,3)])
def LU:=eVf (cF zX [])
def FM:=eVf (cF jW [])
def Cl:=eVf (cF qV [])
def aOa:=eVf (cF aMc [])
def aOU:=eVf (cF aC1 [])
def aNR:=eVf (cF aN4 [])
def Po:=eVf (cF DR [])
def aPi:=eVf (cF aGg [])
end Hud
