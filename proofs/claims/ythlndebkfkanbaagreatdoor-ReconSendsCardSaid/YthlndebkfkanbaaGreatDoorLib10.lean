import Derived.Test.YthlndebkfkanbaaGreatDoorLib09
set_option linter.all false
namespace Hud
open Go
section
def MP (D:List (Int×Bool)):AObj:=.map false (D.map λe=>[.int .i64 e.1]) (D.map λe=>.v (.bool e.2)) (List.range D.length) D.length
abbrev aEw (m:Nat) (e:Int×Nat×Bool):HOper:=⟨none,.mup false [.int .i64] (.tmp m) (.const (.int .i64 e.1)) (.tmp e.2.1),none⟩
def Ra {k:Int}:∀ (D:List (Int×Bool)) (i:Nat),k∉D.map (·.1)→nN [.int .i64] [.int .i64 k] (D.map λe=>[.int .i64 e.1]) i=some none
 | [],_,_=>rfl
 | e::D,i,h=>by
  simp only [cN,gK,not_or] at h;have h1:(k==e.1)=false:=by simpa using h.1
  simp only [cN,nN,pZ,and_self,if_true,h1,nG];exact Ra D (i+1) h.2
def Zv {T:aQ} {i:Nat} (hi:i<T.length) (o:AObj):cR (T.set i (some o)) i=some o:=by
 unfold cR;rw [List.getElem?_set_self hi]
def aCc (D:List (Int×Bool)) (e:Int×Bool):AObj.map false ((D.map λe=>[.int .i64 e.1])++[[.int .i64 e.1]]) ((D.map λe=>AV.v (.bool e.2))++[.v (.bool e.2)]) (List.range D.length++[D.length]) (D.length+1)=MP (D++[e]):=by
 simp only [MP,gQ,cN,eQ,dU,kS,kI,rW,Nc]
def Vo {T:aQ} {i:Nat} (hi:i<T.length) {ev:Operand→AV} {m:Nat} {D:List (Int×Bool)} {e:Int×Nat×Bool} (hm:ev (.tmp m)=.mp i) (hk:ev (.const (.int .i64 e.1))=.v (.int .i64 e.1)) (hv:ev (.tmp e.2.1)=.v (.bool e.2.2)) (hn:e.1∉D.map (·.1)) :
  bK (T.set i (some (MP D))) ev (.mup false [.int .i64] (.tmp m) (.const (.int .i64 e.1)) (.tmp e.2.1))=some (.v undef,T.set i (some (MP (D++[(e.1,e.2.2)])))):=by
 have h1:KZ false [.int .i64] (.v (.int .i64 e.1))=some [.int .i64 e.1]:=by simp [KZ,pZ]
 simp only [bK,hm,Zv hi,hk,hv,h1];simp only [MP,if_true,Ra D 0 hn,List.set_set];rw [←MP,←aCc D (e.1,e.2.2)]
def FB {α:Type}:∀ (l:List α) (j:Nat) (h:j<l.length),(l[j]::l.eraseIdx j).Perm l
 | x::l,0,_=>by simp
 | x::l,j+1,h=>by
  simp only [List.getElem_cons_succ,aDw];exact (List.Perm.swap _ _ _).trans ((FB l j (by simpa using h)).cons x)
def Lf {P:Program} {G:Nat→Option (List AV)} {chk:List HOper} {r:Nat} {s:List (Nat×AV)} {T0:aQ} {i m:Nat} {K:St→Prop} (hi:i<T0.length) (hm:aU s m=.mp i) (hc:∀ X,mT G ⟨r,s,T0.set i (some (MP X))⟩ chk) :
  ∀ (n:Nat) (l:List (Int×Nat×Bool)) (D:List (Int×Bool)),l.length=n→(∀ e∈l,aU s e.2.1=.v (.bool e.2.2))→(D.map (·.1)++l.map (·.1)).Nodup →
   (∀ X,X.Perm (D++l.map λe=>(e.1,e.2.2))→K ⟨r,s,T0.set i (some (MP X))⟩)→GP P G chk n (l.map (aEw m)) ⟨r,s,T0.set i (some (MP D))⟩ K
 | 0,l,D,hl,_,_,hK=>by
  have:l=[]:=CR hl;subst this;exact hK D (by simp)
 | n+1,l,D,hl,hv,hn,hK=>by
  intro j o ho;rw [eD] at ho
  cases hj:l[j]? with
  | none=>rw [hj] at ho;simp at ho
  | some e =>
   rw [hj] at ho;simp only [kZ,Option.some.injEq] at ho;subst ho;obtain ⟨hjl,hje⟩:=HM.1 hj;have hel:e∈l:=by rw [←hje];exact jY hjl
   have hp:(e::l.eraseIdx j).Perm l:=by
    rw [←hje];exact FB l j hjl
   have hnD:e.1∉D.map (·.1):=λh=>(HN.1 hn).2.2 _ h _ (dE.2 ⟨e,hel,rfl⟩) rfl;have hstep:=Vo (T:=T0) hi (ev:=bX G s) (m:=m) (D:=D) (e:=e) (by simpa [bX] using hm) rfl (by simpa [bX] using hv e hel) hnD;have hmap:(l.map (aEw m)).eraseIdx j=(l.eraseIdx j).map (aEw m):=AK _ l j;simp only [eC,tI,hstep,dT];refine ⟨hc _,?_⟩;rw [hmap];refine Lf hi hm hc n (l.eraseIdx j) (D++[(e.1,e.2.2)]) (by rw [aDo hjl];omega) (λx hx=>hv x (List.mem_of_mem_eraseIdx hx)) ?_ λX hX=>hK X (hX.trans ?_)
   ·refine (List.Perm.nodup_iff ?_).2 hn;rw [gQ,eE];refine Uz _ ?_;have:=hp.map (·.1);simpa using this
   ·rw [eE];refine Uz _ ?_;have:=hp.map λe:Int×Nat×Bool=>(e.1,e.2.2)
    simpa using this
def aDD {T:aQ} {i j since la:Nat} {seen:List Nat} {X:List (Int×Bool)} {K:AV→aQ→Prop} (hT:cR T i=some (.mit (some j) since seen la)) (hM:cR T j=some (MP X)) (h1:since≤la) (h2:X.length≤since)
  (hend:(∀ b,b<X.length→b∈seen)→K (.v (.tuple #[.bool false])) T)
  (hgo:∀ b (h:b<X.length),b∉seen→K (.tup [.v (.bool true),.v (.int .i64 X[b].1),.v (.bool X[b].2)]) (T.set i (some (.mit (some j) since (seen++[b]) X.length)))):@aEh T (.ptr i 0) ⟨K⟩:=by
 simp only [aEh,hT,hM,MP];refine ⟨h1,λb hb=>CU (rV.1 hb) h2,λh=>hend λb hb=>h b (rV.2 hb),λe k v b hk hv hb hs=>?_⟩;rw [eD] at hk hv
 cases he:X[e]? with
 | none=>rw [he] at hk;simp at hk
 | some x =>
  obtain ⟨hel,hex⟩:=HM.1 he;rw [he] at hk hv;simp only [kZ,Option.some.injEq] at hk hv;rw [Yv hel] at hb;simp only [Option.some.injEq] at hb;subst hb;have:=hgo e hel hs;rw [hex] at this;rw [←hk,←hv];exact this
def AR {n b:Nat} (h:b<n):(List.range n).findIdx? (· == b)=some b:=by
 rw [WY];refine ⟨by simpa using h,by simp,λk hk=>by simp;omega⟩
def Vp (a:Nat) (e:Int×Bool):Nat:=if e.2 then a ||| e.1.toNat else a
def Zw (a:Nat) (x y:Int×Bool):Vp (Vp a x) y=Vp (Vp a y) x:=by
 unfold Vp;cases x.2<;>cases y.2<;>simp;refine Yn λi=>?_;simp only [VJ,Bool.or_assoc];rw [Bool.or_comm (x.1.toNat.testBit i)]
def nT (X:List (Int×Bool)):Nat:=X.foldl Vp 0
def Lg {X Y:List (Int×Bool)} (h:X.Perm Y):nT X=nT Y:=h.foldl_eq' (λx _ y _ z=>Zw z x y) 0
def Gs (X:List (Int×Bool)) (seen:List Nat):List (Int×Bool):=seen.map λb=>X.getD b (0,false)
def aCd {X:List (Int×Bool)} {seen:List Nat} (hn:seen.Nodup) (hs:∀ b∈seen,b<X.length) (ha:∀ b,b<X.length→b∈seen):(Gs X seen).Perm X:=by
 have h1:seen.Perm (List.range X.length):=(aDp hn Y4).2 λb=>by
  rw [rV];exact ⟨hs b,ha b⟩
 have h2:Gs X (List.range X.length)=X:=by
  unfold Gs;refine VC (by simp) λi h1 h2=>?_;simp at h1;simp [fG,h1]
 have:=h1.map λb=>X.getD b (0,false);rwa [show (List.range X.length).map (λb=>X.getD b (0,false))=X from h2] at this
def aEx {P:Program} {G:Nat→Option (List AV)} {chk ops:List HOper} {next:HD} {st:St} {K:St→Prop} {n:Nat} (hn:ops.length=n) (h:GP P G chk n ops st λs=>@Mz P G next s ⟨K⟩):@Mz P G (.perm chk ops next) st ⟨K⟩:=by
 subst hn;exact h
def Zx (a b:Nat) (ha:a<65536) (hb:b<65536):aZ .or (.int .i64 (a:Int)) (.int .i64 (b:Int))=some (.int .i64 ((a ||| b:Nat):Int)):=by
 have hc:a ||| b<65536:=Qi (n:=16) ha hb;have h1:(BitVec.ofInt IntKind.i64.bits (a:Int) ||| BitVec.ofInt IntKind.i64.bits (b:Int)).toNat=a ||| b:=by
  have ea:(BitVec.ofInt 64 (a:Int)).toNat=a:=by simp [Cf];omega
  have eb:(BitVec.ofInt 64 (b:Int)).toNat=b:=by simp [Cf];omega
  show (BitVec.ofInt 64 (a:Int) ||| BitVec.ofInt 64 (b:Int)).toNat=a ||| b;rw [VG,ea,eb]
 simp only [aZ,if_true,h1];rw [aJ (by omega) (by omega)]
def aEy {a:Nat} {e:Int×Bool} (ha:a<65536) (he:e.1.toNat<65536):Vp a e<65536:=by
 unfold Vp;split
 ·exact Qi (n:=16) ha he
 ·exact ha
def Tc:∀ (l:List (Int×Bool)) (a:Nat),a<65536→(∀ e∈l,e.1.toNat<65536)→l.foldl Vp a<65536
 | [],_,h,_=>h
 | e::l,a,h,hl=>Tc l _ (aEy h (hl e FO)) λx hx=>hl x (FL _ hx)
def vA:∀ {M L:List Nat},M.Nodup→(∀ y∈M,y∈L)→M.length≤L.length
 | [],_,_,_=>xC _
 | y::M,L,hn,h=>by
  rw [KM] at hn;have h1:=vA (M:=M) (L:=L.erase y) hn.2 λz hz=>(List.mem_erase_of_ne (λe:z=y=>hn.1 (by rw [e] at hz;exact hz))).2 (h z (FL _ hz));have h2:=List.length_erase_of_mem (h y FO);have h3:=List.length_pos_of_mem (h y FO);rw [kS];omega
def XJ (a b:Nat) (ha:a<65536) (hb:b<65536):aZ .and (.int .i64 (a:Int)) (.int .i64 (b:Int))=some (.int .i64 ((a &&& b:Nat):Int)):=by
 have hc:a &&& b≤a:=Y8;have h1:(BitVec.ofInt IntKind.i64.bits (a:Int) &&& BitVec.ofInt IntKind.i64.bits (b:Int)).toNat=a &&& b:=by
  have ea:(BitVec.ofInt 64 (a:Int)).toNat=a:=by simp [Cf];omega
  have eb:(BitVec.ofInt 64 (b:Int)).toNat=b:=by simp [Cf];omega
  show (BitVec.ofInt 64 (a:Int) &&& BitVec.ofInt 64 (b:Int)).toNat=a &&& b;rw [KR,ea,eb]
 simp only [aZ,if_true,h1];rw [aJ (by omega) (by omega)]
end
section
def DK {α:Type} (p:α→Bool) (l:List α):Int:=match l.findIdx? p with | some i=>(i:Int) | none=>-1
def uB {α:Type} {p:α→Bool} {l:List α} (h:∀ j (hj:j<l.length),p l[j]=false):DK p l=-1:=by
 unfold DK;rw [Uu.2 λx hx=>by obtain ⟨j,hj,rfl⟩:=AH hx;simp [h j hj]]
def uC {α:Type} {p:α→Bool} {l:List α} {i:Nat} (hi:i<l.length) (h:∀ j (hj:j<l.length),j<i→p l[j]=false) (h1:p l[i]=true):DK p l=(i:Int):=by
 unfold DK;rw [WY.2 ⟨hi,h1,λj hj=>by simp [h j (by omega) hj]⟩]
def B3 {α:Type} (p:α→Bool) (l:List α):decide ((0:Int)≤DK p l)=l.any p:=by
 unfold DK
 cases h:l.findIdx? p with
 | none =>
  have:=Uu.1 h;have h2:l.any p=false:=by simpa using this
  rw [h2];rfl
 | some i =>
  obtain ⟨h1,h2,h3⟩:=WY.1 h;have h4:l.any p=true:=Nb.2 ⟨_,jY h1,h2⟩;rw [h4];simp
def pU:List Nat:=[0,2064,32793,21,16,12,480,640,512,31744,8704,8705,512,33299]
def rL (k:Int):Nat:=pU.getD k.toNat 0
def kG (a b:Nat):Nat:=(BitVec.ofNat 64 a &&& ~~~(BitVec.ofNat 64 b)).toNat
def DL (o:OpM):List (Int×Bool) :=
  [(1,oG o.Device (if o.Kind=3 then 0 else 1) 12),(2,oG o.Old 1 12),(4,if o.Kind=3 then (oG o.Member 1 8&&(o.Device==0))||((o.Member==0)&&(o.Device !=0)) else oG o.Member 1 8),(8,oG o.Role 1 3),(64,oG o.N 0 2147483647),(4096,oG o.Wait 0 2147483647),
   (2048,oG o.Need (if o.Kind=1 then 0 else 1) (if o.Kind=1 then 20 else o.Guards.length)),(32,iJ o.Epoch),(512,iJ o.Of),(16384,Fd o.Pub)]
def NC (h:Nat) (X:List (Int×Bool)):Bool:=X.all λe=>(h &&& e.1.toNat==0)||e.2
def DM (n:NodeM):Bool:=Fd n.Pub&&n.Boxes.all sD
def DN (x:SealM):Bool:=iJ x.Of
def xR (n:Int):Bool:=oG n 1 12
def PG (n:Nat):Bool:=okM (n:Int)
def AS (o:OpM) (h:Nat):Bool :=
 (oG o.By 1 12&&oG o.Seq 1 2147483647&&oG o.At 0 2147483647)&&(NC h (DL o)&&(o.Guards.all xR&&(o.Refs.all PG&&(o.Past.all iJ&&(o.Path.all DM&&(o.Boxes.all sD&&o.Hist.all DN))))))
def FC (o:OpM):Bool :=
 (decide ((o.Past.length:Int)>12)||decide ((o.Path.length:Int)>5)||!(o.Path.all λn=>decide ((n.Boxes.length:Int)≤12))||decide ((o.Body.length:Int)>208)||decide ((o.Refs.length:Int)>8)||decide ((o.Hist.length:Int)>20)||!(o.Hist.all λx=>decide ((x.Body.length:Int)≤208))||decide ((o.Guards.length:Int)>6)) ||
 (if o.Kind==7 then !oG (o.Body.length:Int) 1 20 else if o.Kind==9 then (o.Boxes.length:Int)!=(o.Guards.length:Int) else if o.Kind==10 then !oG (o.Boxes.length:Int) 1 6 else if o.Kind==11 then (o.Boxes.length:Int)!=1 else false)
def kP {α:Type} (lt:α→α→Bool):List α→Bool
 | x::y::l=>lt x y&&kP lt (y::l)
 | _=>true
def Zy (o:OpM):Bool:=kP Id.lt o.Past&&kP (λa b:Int=>decide (a<b)) o.Guards
def xS (o:OpM):Int :=
 if o.Kind<1∨13<o.Kind then 1
 else if kG (nT (gE o)) (rL o.Kind)≠0 then 1
 else if AS o (rL o.Kind)=false then 8
 else if FC o then 2
 else if Zy o=false then 6
 else if decide (o.Past.length=0)≠decide (o.Kind=1) then 10 else 0
def pF (k:Int):Bool:=k==1||k==2||k==3||k==4||k==13
def Io (o:OpM):Bool :=
 let k:=o.Kind
 let PK:=k==7||k==8||k==12||k==10||k==11||k==13
 !(o.Device !=0&&k !=2&&k !=3&&k !=11&&k !=13) &&
 !((o.Old !=0&&k !=13)||(o.Member !=0&&k !=3&&k !=5)||(o.Role !=0&&k !=2&&k !=5)) &&
 !(decide ((o.Path.length:Int)>0)&&!pF k) &&
 !(k !=6&&((!(o.Epoch.a==0&&(o.Epoch.b==0&&o.Epoch.c==0)))||o.N !=0||decide ((o.Refs.length:Int)>0))) &&
 !((decide ((o.Body.length:Int)>0)&&k !=6&&k !=7)||((!(o.Of.a==0&&(o.Of.b==0&&o.Of.c==0)))&&!PK)) &&
 !(k !=9&&(decide ((o.Guards.length:Int)>0)||o.Wait !=0||(o.Pub:Int)!=0)) &&
 !((o.Need !=0&&k !=9&&k !=1)||(decide ((o.Boxes.length:Int)>0)&&k !=9&&k !=10&&k !=11)) &&
 (((o.Hist.length:Int)==0)||k==2||k==13)
def oL (o:OpM):Bool :=
  (oG o.By 1 12&&oG o.Seq 1 2147483647&&oG o.At 0 2147483647) &&
  (if o.Kind=1 then oG o.Need 0 20
   else if o.Kind=2 then oG o.Device 1 12&&oG o.Role 1 3
   else if o.Kind=3 then (oG o.Device 1 12&&o.Member==0)||(o.Device==0&&oG o.Member 1 8)
   else if o.Kind=5 then oG o.Member 1 8&&oG o.Role 1 3
   else if o.Kind=6 then iJ o.Epoch&&oG o.N 0 2147483647
   else if o.Kind=9 then oG o.Need 1 o.Guards.length&&oG o.Wait 0 2147483647&&Fd o.Pub
   else if o.Kind=11 then iJ o.Of&&oG o.Device 1 12
   else if o.Kind=13 then iJ o.Of&&oG o.Device 1 12&&oG o.Old 1 12
   else if o.Kind=4 then true
   else iJ o.Of)
def xT (o:OpM):Bool:=o.Guards.all xR&&(o.Refs.all PG&&(o.Past.all iJ&&(o.Path.all DM&&(o.Hist.all DN&&o.Boxes.all sD))))
def uD (o:OpM):Int :=
 if o.Kind<1∨13<o.Kind then 1
 else if Io o=false then 1
 else if (oL o&&xT o)=false then 8
 else if FC o then 2
 else if kP Id.lt o.Past=false then 6
 else if kP (λa b:Int=>decide (a<b)) o.Guards=false then 6
 else if decide (o.Past.length=0)≠decide (o.Kind=1) then 10 else 0
def FD (i:Nat):∀ (X:List (Int×Bool)) (a:Nat),(X.foldl Vp a).testBit i=(a.testBit i||X.any λe=>e.2&&e.1.toNat.testBit i)
 | [],a=>by simp
 | e::X,a=>by
  simp only [HO,List.any_cons,FD i X];unfold Vp;cases h:e.2<;>simp [VJ,Bool.or_assoc]
def Rb {a b:Nat} (ha:a<65536) (hb:b<65536):kG a b=0↔∀ i,i<16→a.testBit i=true→b.testBit i=true:=by
 have hx:∀ i,(kG a b).testBit i=(decide (i<64)&&(a.testBit i&&!b.testBit i)):=λi=>by
  unfold kG;rw [BitVec.testBit_toNat,BitVec.getLsbD_and,BitVec.getLsbD_not,BitVec.getLsbD_ofNat,BitVec.getLsbD_ofNat];cases decide (i<64)<;>simp
 constructor
 ·intro h i hi h1;have:=hx i;rw [h,Qj] at this;have h64:i<64:=by omega
  simp [h64,h1] at this;exact this
 ·intro h;refine Yn λi=>?_;rw [hx,Qj];rcases bY i 16 with h1 | h1
  ·have:=h i h1;cases h2:a.testBit i
   ·simp
   ·rw [this h2];simp
  ·rw [Nat.testBit_lt_two_pow (CU ha (nX (by decide) (Ms (by decide) h1)))];simp
def Lh (o:OpM):nT (gE o)<65536:=Tc _ 0 (by decide) λe he=>by
 simp only [gE,gK,pQ,or_false] at he;rcases he with rfl | rfl | rfl | rfl | rfl | rfl | rfl | rfl | rfl | rfl | rfl | rfl | rfl | rfl | rfl | rfl<;>simp
def Td:List Nat:=[0,1,2,3,4,5,6,7,8,9,10,11,12,13,14,15]
def PH (k:Int):rL k<65536:=by
 unfold rL pU;rcases bY k.toNat 14 with h | h
 ·generalize k.toNat=n at *
  have:∀ n,n<14→[0,2064,32793,21,16,12,480,640,512,31744,8704,8705,512,33299].getD n 0<65536:=by decide
  exact this n h
 ·rw [fG,gV (by simpa using h)];decide
def DO (o:OpM):List (Bool×Nat):=((gE o).map (·.2)).zip Td
def Rc (o:OpM):gE o=(DO o).map λe=>(((2^e.2:Nat):Int),e.1):=rfl
def PI (o:OpM) (m:Nat) (hm:m<65536):(kG (nT (gE o)) m=0)↔(DO o).all (λe=>!e.1||m.testBit e.2)=true:=by
 rw [Rb (Lh o) hm];have h1:∀ i,(nT (gE o)).testBit i=(DO o).any λe=>e.1&&decide (e.2=i):=λi=>by
  unfold nT;rw [FD,Rc,Qj,Ci,List.any_map];congr 1;funext e;simp only [Function.comp,KK,Nat.testBit_two_pow]
 have h2:∀ e∈DO o,e.2<16:=λe he=>by
  have:=(List.of_mem_zip (show (e.1,e.2)∈_ from he)).2;simp only [Td,gK,pQ,or_false] at this;omega
 simp only [h1,Nb,kY,eM,decide_eq_true_eq,HR,Cg];constructor
 ·intro h e he;cases hb:e.1
  ·exact .inl rfl
  ·exact .inr (h e.2 (h2 e he) ⟨e,he,hb,rfl⟩)
 ·rintro h i hi ⟨e,he,hb,rfl⟩;exact (h e he).resolve_left (by simp [hb])
def Vq {k:Int} (h1:¬k<1) (h2:¬13<k):k=1∨k=2∨k=3∨k=4∨k=5∨k=6∨k=7∨k=8∨k=9∨k=10∨k=11∨k=12∨k=13:=by omega
def aEz (o:OpM):((o.Hist.length:Int)==0)=!(decide ((o.Hist.length:Int)>0)):=by
 cases o.Hist<;>simp<;>omega
def PJ (o:OpM) (h1:¬o.Kind<1) (h2:¬13<o.Kind):(kG (nT (gE o)) (rL o.Kind)=0)↔Io o=true:=by
 rw [PI o _ (PH _)];unfold Io;rw [aEz];simp only [DO,gE,Td,cN,eQ,List.zip_cons_cons,List.zip_nil_right,List.all_cons,VM,uO];generalize (o.Device !=0)=b0;generalize (o.Old !=0)=b1;generalize (o.Member !=0)=b2;generalize (o.Role !=0)=b3;generalize (decide ((o.Path.length:Int)>0))=b4;generalize (!(o.Epoch.a==0&&(o.Epoch.b==0&&o.Epoch.c==0)))=b5;generalize (o.N !=0)=b6;generalize (decide ((o.Body.length:Int)>0))=b7;generalize (decide ((o.Refs.length:Int)>0))=b8;generalize (!(o.Of.a==0&&(o.Of.b==0&&o.Of.c==0)))=b9;generalize (decide ((o.Guards.length:Int)>0))=b10;generalize (o.Need !=0)=b11;generalize (o.Wait !=0)=b12;generalize (decide ((o.Boxes.length:Int)>0))=b13;generalize ((o.Pub:Int)!=0)=b14;generalize (decide ((o.Hist.length:Int)>0))=b15;rcases Vq h1 h2 with h | h | h | h | h | h | h | h | h | h | h | h | h<;>rw [h]
 all_goals
  simp only [pF,show ∀ a b:Int,(a==b)=decide (a=b) from λ_ _=>rfl]
  simp [rL,pU,Nat.testBit,aDu]
  try grind
def NE (o:OpM) (h1:¬o.Kind<1) (h2:¬13<o.Kind):AS o (rL o.Kind)=(oL o&&xT o):=by
 have hi:(o.Guards.all xR&&(o.Refs.all PG&&(o.Past.all iJ&&(o.Path.all DM&&(o.Boxes.all sD&&o.Hist.all DN)))))=xT o:=by
  unfold xT;rw [Bool.and_comm (o.Boxes.all sD)]
 unfold AS oL;rw [hi,Qo (oG o.By 1 12&&oG o.Seq 1 2147483647&&oG o.At 0 2147483647)];congr 1;congr 1;unfold NC DL;rcases Vq h1 h2 with h | h | h | h | h | h | h | h | h | h | h | h | h<;>rw [h]
 all_goals
  simp [rL,pU]
  try grind
 unfold oG;rw [oU];simp;omega
def Li (o:OpM):xS o=uD o:=by
 unfold xS uD;by_cases h0:o.Kind<1∨13<o.Kind
 ·rw [if_pos h0,if_pos h0]
 rw [if_neg h0,if_neg h0];have h1:¬o.Kind<1:=λh=>h0 (.inl h);have h2:¬13<o.Kind:=λh=>h0 (.inr h);have hb:=PJ o h1 h2;rw [NE o h1 h2];unfold Zy;by_cases hc:kG (nT (gE o)) (rL o.Kind)=0
 ·rw [if_neg (show ¬(kG (nT (gE o)) (rL o.Kind)≠0) by simp [hc]),if_neg (show ¬(Io o=false) by simp [hb.1 hc])];cases kP Id.lt o.Past<;>cases kP (λa b:Int=>decide (a<b)) o.Guards<;>simp
 ·rw [if_pos hc,if_pos (show Io o=false by cases h:Io o with | false=>rfl | true=>exact (hc (hb.2 h)).elim)]
end
section
open W
def El:cF Ax []=some ⟨92,[(4,none)],S [R0 4 1 [M F],R 12 2 [0] [c1 Fe v0,J 5 (s 5 (al zS5) (t 13))],R0 14 2 [A 6 (c1 Gn (L 5 t5))],S [R0 16 1 [v6,x (.nilS false 0 (zt 16))],If 17 [5,1,6] (S [E0 [A 4 F],.ret])],R 18 3 [1] [A 7 (c2 oY (L 5 t5) v1)],R0 21 3 [A 8 (c2 wD v6 v7)],R 24 3 [7] [A 9 (c2 C1 (L 5 t5) v7)],S [R0 27 4 [ne (n v8) (n v9)],If 31 [5,9,6,8] (S [E0 [A 4 F],.ret])],S [i0 10,fo 0 32 3 (ls v10 (n v8)) [8,10,9,5] 10 (S [S [D 38 28 [] [L 27 (i 27 v8 v10),J 43 (L 3 (i 3 v9 v10)),J 42 (K [zv 46 3 45,zi 45 43 44 3,zm 44 10,zm 43 9] (c1 EF (t 41))),J 47 (O (ea true [.int .i64,.int .i64,.int .u64] (t 42) (t 46)) (o (c2 Hn (L 27 (i 27 v8 v10)) (L 27 (i 27 (l (f 1 t5)) (mm true w0 (K [⟨some 54,.ld none (zt 53),some (48,false)⟩,⟨some 53,.fad (zt 5) 1,some (48,false)⟩,⟨some 52,.ld (some 27) (zt 51),some (48,false)⟩,⟨some 51,.iad (zt 49) (zt 50) 27,some (48,false)⟩,⟨some 50,.mov (zt 10),some (48,false)⟩,⟨some 49,.mov (zt 8),some (48,false)⟩] (c2 jO (L 5 t5) (L 3 (i 3 v9 v10))))))))))],If 66 [10,9,6,5,8] (S [E0 [A 4 F],.ret])],R0 67 2 [A 11 (ad v10 w1)],fo 2 69 3 (ls v11 (n v8)) [11] 11 (S [D 75 9 [] [c2 rG (l (f 4 (i 27 v8 v10))) (L 3 (i 3 v9 v11))],If 84 [11,9,10,6,5,8] (S [E0 [A 4 F],.ret])])])],R 85 7 [6] [A 4 (N (eq (n (c2 wD v6 z)) w0) (c0 yV))],.ret]⟩:=by kernel_rfl
def Rd:cF Gn [(3,some 2,35)]=some ⟨26,[(2,none)],S [R 2 1 [0] [J 1 (b t0),M (kc (.const (.pointer none)))],S [R0 5 3 [A 3 (c1 yW (l (f 0 t1)))],oc 3 2 35],S [R0 8 1 [v3,x (.nilS false 0 (zt 8))],If 9 [3,1] (S [E0 [A 2 (kc (.const (.pointer none)))],.ret])],S [i0 4,fo 0 10 4 (ls v4 (n (l (f 1 t1)))) [1,4] 4 (S [R0 17 7 [ne (c2 sF v3 (L 27 (i 27 (l (f 1 t1)) v4))) w0],If 24 [4,3,1] (S [E0 [A 2 (kc (.const (.pointer none)))],.ret])])],R 25 1 [3] [A 2 v3],.ret]⟩:=by kernel_rfl
def JK:cF wD [(4,none,27),(5,none,27)]=some ⟨30,[(4,none)],S [R0 4 1 [M z],S [iz 5,ow 5 27],S [R 10 2 [1] [n (c2 wE v0 v1),M w0],ra 0 14 (t 13) 15 [12,14,13,0] 28 (S [R0 16 2 [L 3 (i 3 (t 12) (t 14)),J 7 (s 3 (al zI) (t 17))],R 19 3 [7,9,23,22,18] [c2 tV v0 (L 3 t7),J 18 v21,J 22 (e 0 (t 18)),e 1 (t 18),J 8 (s 27 (al zO) (t 22)),A 9 (t 23)],R 24 4 [8] [A 5 (a 27 328 v5 (ba 27 zO (L 27 t8)))],ow 5 27])],S [R 29 1 [5] [A 4 v5],ow 4 27],.ret]⟩:=by kernel_rfl
def Lj:cF yW []=some ⟨15,[(2,none)],S [R0 2 1 [M (kc (.const (.pointer none)))],R 4 5 [0] [b (q2 [zS,.map none,zS] (c1 fP v0) (x (.mkm true))),J 3 v8],R0 9 5 [c2 jC (l (f 0 (y v3))) (kc (.func qD))],R 14 1 [3] [A 2 v3],.ret]⟩:=by kernel_rfl
def JL:cF wE []=some ⟨14,[(4,none)],S [R0 4 1 [M z],R 6 2 [1] [c1 aV v1,J 5 v7],R 8 5 [0] [v5,q1 [.pointer none] v0,c2 bF t8 (x (.bmo mM 1 [zt 10]))],R 13 1 [5] [A 4 v5],.ret]⟩:=by kernel_rfl
def Em:cF tV []=some ⟨29,[(4,some (some 27)),(5,none)],S [R 5 1 [1] [J 3 (b t1),al zO,M F],D 9 6 [3,16,15,8] [l (f 1 (y v0)),L 3 t3,x (.lku true [.int .i64,.int .i64,.int .u64] z0 (zt 12) (zt 13) true),J 8 v14,J 15 (e 0 t8),e 1 t8,J 6 v15,v16],S [R 17 1 [7] [o v7],If 18 [0,6] (S [R0 19 1 [s 27 t4 (x (.bld zO [])),A 5 F],.ret])],R 20 9 [0,6] [s 27 t4 (c1 nE (L 27 (f 0 (i 35 (l (f 2 (y v0))) v6)))),A 5 T],.ret]⟩:=by kernel_rfl
def pV:cF fP [(2,none,5)]=some ⟨8,[(2,none)],S [R0 2 1 [M z],S [R0 3 1 [v0,x (.nilS false 1 (zt 3))],If 4 [0] (S [S [iz 2,ow 2 5],.ret])],S [R 5 3 [0] [A 2 (a 5 40 (x (.bsl 5 [] [] 0)) v0)],ow 2 5],.ret]⟩:=by kernel_rfl
def Hw:cF qD []=some ⟨10,[(4,none)],S [R 4 1 [0,1] [J 2 (b t0),b t1,M w0],R 5 5 [2,3] [sb (l (f 0 t2)) (l (f 0 t3)),J 4 v9],.ret]⟩:=by kernel_rfl
def Hx:cF nE []=some ⟨72,[(2,some (some 27))],S [R 1 0 [0] [b t0,al zO],D 5 20 [] [l (f 4 t1),J 8 (l (f 14 t1)),J 11 (l (f 15 t1)),J 14 (l (f 19 t1)),J 17 (l (f 22 t1)),J 7 (K [zl 18 17,zf 17 1 22,zl 15 14,zf 14 1 19,zl 12 11,zf 11 1 15,zl 9 8,zf 8 1 14] (c1 aV t6)),J 20 (f 4 t1),J 10 (K [zf 20 1 4,zl 18 17,zf 17 1 22,zl 15 14,zf 14 1 19,zl 12 11,zf 11 1 15] (c1 eN t9)),J 13 (K [zf 20 1 4,zl 18 17,zf 17 1 22,zl 15 14,zf 14 1 19] (c1 aK (t 12))),J 16 (K [zf 20 1 4,zl 18 17,zf 17 1 22] (c1 iS (t 15))),J 19 (K [zf 20 1 4] (c1 cQ (t 18))),s 1 (t 20) t7,J 21 (s 1 (f 14 t1) (t 10)),s 1 (f 15 t1) (t 13),s 1 (f 19 t1) (t 16),s 1 (f 22 t1) (t 19)],D 25 8 [] [l (f 9 t1),J 28 (l (f 24 t1)),J 27 (K [zl 29 28,zf 28 1 24] (c1 fQ (t 26))),J 31 (f 9 t1),J 30 (K [zf 31 1 9] (c1 eH (t 29))),s 1 (t 31) (t 27),J 32 (s 1 (f 24 t1) (t 30))],S [R0 33 2 [n (l (f 9 t1)),M w0],ra 0 36 (t 35) 37 [36,35] 51 (S [R0 38 1 [A 3 v36],D 39 12 [3] [l (f 9 t1),v3,K [zm 41 3,zl 40 39,zf 39 1 9] (c1 cQ (l (f 1 (i 2 (l (f 9 t1)) v3)))),s 1 (f 1 (i 2 (t 40) (t 41))) (t 48)]])],S [R0 52 2 [n (l (f 24 t1)),M w0],ra 2 55 (t 54) 56 [55,54] 70 (S [R0 57 1 [A 4 (v 55)],D 58 12 [4] [l (f 24 t1),v4,K [zm 60 4,zl 59 58,zf 58 1 24] (c1 eN (l (f 3 (i 4 (l (f 24 t1)) v4)))),s 1 (f 3 (i 4 (t 59) (t 60))) (t 67)]])],R 71 1 [1] [s 27 t2 (L 27 t1)],.ret]⟩:=by kernel_rfl
def Cb:cF qT []=some ⟨24,[(4,some (some 5)),(5,none)],S [R0 5 1 [J 4 (al zC),M F],S [R 8 3 [0] [n (l (f 0 (y v0))),M w0],ra 0 13 (t 12) 14 [11,13,12,1] 22 (S [R0 15 2 [L 5 (i 5 (t 11) (t 13)),J 7 (s 5 (al zC) (t 16))],R0 17 3 [eq (l (f 0 t7)) v1],Iz 20 [13,1,11,12] (S [R 21 1 [7] [s 5 t4 (L 5 t7),A 5 T],.ret]) [7]])],R0 23 1 [s 5 t4 (x (.bld zC [])),A 5 F],.ret]⟩:=by kernel_rfl
def B4:cF lJ []=some ⟨10,[(4,none)],S [R 4 1 [0,1] [J 2 (b t0),b t1,M z],R 5 5 [3,2] [c2 bN (c1 aV (l (f 4 t3))) (x (.clo dL [zt 2])),J 4 v9],.ret]⟩:=by kernel_rfl
def Fn:cF vK []=some ⟨16,[],D 4 12 [0,1] [v0,qu v1 (w 64),y t4,B .or (l (x (.iadA (zt 7) (zt 6) 4 1))) (B .shl (u 1) (rm v1 (w 64))),y t4,s 1 (x (.iadA (zt 14) (zt 6) 4 1)) (t 13)]⟩:=by kernel_rfl
def En:cF lP []=some ⟨20,[],S [R 3 0 [1] [b t1],i0 5,ra 0 5 (w 4) 6 [5,3,0] 19 (S [R0 7 1 [A 4 v5],D 8 11 [4] [v0,v4,y t8,l (x (.iadA (zt 10) (zt 9) 4 1)),v4,B .or (t 12) (l (x (.iadA (zt 3) (zt 13) 4 1))),y t8,s 1 (x (.iadA (zt 17) (zt 9) 4 1)) (t 16)]])]⟩:=by kernel_rfl
def Fo:cF vL []=some ⟨16,[(4,none)],S [R0 4 1 [M F],R 5 11 [0,1] [v0,qu v1 (w 64),y t5,eq (B .and (B .shr (l (x (.iadA (zt 8) (zt 7) 4 1))) (rm v1 (w 64))) (u 1)) (u 1),J 4 v15],.ret]⟩:=by kernel_rfl
def Cc:cF mM []=some ⟨28,[(6,none)],S [R 6 1 [0,1,2] [J 3 (b t0),b t1,b t2,M w0],i0 7,bw 0 (S [R0 9 3 [c2 rJ (L 3 t4) (L 3 t5),J 8 v11],Ie 8 [7] (E0 [A 7 (w (-1))]) [] (S [R0 13 3 [c2 rJ (L 3 t5) (L 3 t4),J 12 v15],If 12 [7] (E0 [A 7 w1])])]),D 16 12 [3,4,5,7] [l (f 0 t3),L 3 t4,J 20 (l (f 0 t3)),L 3 t5,J 25 v7,J 19 (K [zm 25 7,zv 22 3 5,zl 21 20,zf 20 3 0] (c2 lK (t 17) (t 18))),J 23 (K [zm 25 7] (c2 lK (t 21) (t 22))),K [zm 25 7] (c2 iT (t 19) (t 23)),J 26 (A 6 (c1 wJ (j2 [z0,z0] (t 24) (t 25))))],.ret]⟩:=by kernel_rfl
def xU:cF lQ []=some ⟨5,[(2,none)],S [R0 2 1 [M z],R 3 2 [0] [c2 fR z v0,J 2 v4],.ret]⟩:=by kernel_rfl
def pW:cF fQ [(2,none,2)]=some ⟨8,[(2,none)],S [R0 2 1 [M z],S [R0 3 1 [v0,x (.nilS false 1 (zt 3))],If 4 [0] (S [S [iz 2,ow 2 2],.ret])],S [R 5 3 [0] [A 2 (a 2 32 (x (.bsl 2 [] [] 0)) v0)],ow 2 2],.ret]⟩:=by kernel_rfl
def nJ:cF eH [(2,none,4)]=some ⟨8,[(2,none)],S [R0 2 1 [M z],S [R0 3 1 [v0,x (.nilS false 1 (zt 3))],If 4 [0] (S [S [iz 2,ow 2 4],.ret])],S [R 5 3 [0] [A 2 (a 4 48 (x (.bsl 4 [] [] 0)) v0)],ow 2 4],.ret]⟩:=by kernel_rfl
def AT:cF dL []=some ⟨16,[(3,none)],S [R 3 1 [0] [J 2 (b t0),M F],D 7 6 [1,2,4,14,13,6] [l (f 1 (y (l t1))),L 3 t2,x (.lku true [.int .i64,.int .i64,.int .u64] z0 (zt 10) (zt 11) true),J 6 v12,J 13 (e 0 t6),e 1 t6,J 4 v13,v14],R 15 1 [5] [A 3 v5],.ret]⟩:=by kernel_rfl
def B5:cF lK []=some ⟨25,[(4,none)],S [R 4 1 [1] [J 3 (b t1),M w0],S [D 8 6 [3,15,14,7] [l (f 1 (y v0)),L 3 t3,x (.lku true [.int .i64,.int .i64,.int .u64] z0 (zt 11) (zt 12) true),J 7 v13,J 14 (e 0 t7),e 1 t7,J 5 v14,v15],R 0 0 [6] [A 16 t6],Iz 16 [] (S [R 17 8 [0,5] [A 4 (l (f 34 (i 35 (l (f 2 (y v0))) v5)))],.ret]) [0,5]],i0 4,.ret]⟩:=by kernel_rfl
def pX:cF fR [(2,some 0,1)]=some ⟨13,[(4,none)],S [S [R 2 0 [0] [b t0,A 4 z],oc 2 0 1],S [R 0 0 [1] [A 6 t1],bw 0 (.rng (zt 6) [7] [2] (.seq (.reg [⟨some 5,.mov (zt 7),none⟩]) (.kill [7])) (.block 1 (.seq (.reg [⟨some 8,.ld none (zt 2),none⟩,⟨some 9,.mov (zt 5),none⟩,⟨some 10,.bsl 1 [zU] [(0,(1,zt 9))] 1,none⟩,⟨some 11,.app (zt 8) (zt 10) 1 8,none⟩,⟨none,.st 1 (zt 2) (zt 11),none⟩]) (.kill [2,5,11,10,9,8]))))],R 12 1 [2] [A 4 (l t2)],.ret]⟩:=by kernel_rfl
def mX:cF dY []=some ⟨9,[(4,none)],S [R0 4 1 [M F],R 5 4 [0,1] [ge (c2 fD v0 v1) w0,J 4 v8],.ret]⟩:=by kernel_rfl
def rQ:cF iD []=some ⟨9,[(4,none)],S [R0 4 1 [M F],R 5 4 [0,1] [ge (c2 jL v0 v1) w0,J 4 v8],.ret]⟩:=by kernel_rfl
def lH:cF dF []=some ⟨9,[(4,none)],S [R0 4 1 [M F],R 5 4 [0,1] [ge (c2 bA v0 v1) w0,J 4 v8],.ret]⟩:=by kernel_rfl
def mE:cF dM []=some ⟨9,[(4,none)],S [R0 4 1 [M F],R 5 4 [0,1] [ge (c2 eJ v0 v1) w0,J 4 v8],.ret]⟩:=by kernel_rfl
def kW:cF cU []=some ⟨9,[(4,none)],S [R0 4 1 [M F],R 5 4 [0,1] [ge (c2 dJ v0 v1) w0,J 4 v8],.ret]⟩:=by kernel_rfl
def oM:cF fD []=some ⟨19,[(4,none)],S [R0 4 1 [M w0],S [R0 6 1 [n v0,M w0],ra 0 8 t7 9 [8,7,0,1] 18 (S [R0 10 1 [A 5 v8],R0 11 5 [d1 v1 (L 4 (i 4 v0 v5))],Iz 16 [8,1,0,7] (S [R 17 1 [5] [A 4 v5],.ret]) [5]])],E0 [A 4 (w (-1))],.ret]⟩:=by kernel_rfl
def uE:cF jL []=some ⟨19,[(4,none)],S [R0 4 1 [M w0],S [R0 6 1 [n v0,M w0],ra 0 8 t7 9 [8,7,0,1] 18 (S [R0 10 1 [A 5 v8],R0 11 5 [d1 v1 (l (i 1 v0 v5))],Iz 16 [8,1,0,7] (S [R 17 1 [5] [A 4 v5],.ret]) [5]])],E0 [A 4 (w (-1))],.ret]⟩:=by kernel_rfl
def nK:cF eJ []=some ⟨19,[(4,none)],S [R0 4 1 [M w0],S [R0 6 1 [n v0,M w0],ra 0 8 t7 9 [8,7,0,1] 18 (S [R0 10 1 [A 5 v8],R0 11 5 [d1 v1 (L 2 (i 2 v0 v5))],Iz 16 [8,1,0,7] (S [R 17 1 [5] [A 4 v5],.ret]) [5]])],E0 [A 4 (w (-1))],.ret]⟩:=by kernel_rfl
def lU:cF dJ []=some ⟨19,[(4,none)],S [R0 4 1 [M w0],S [R0 6 1 [n v0,M w0],ra 0 8 t7 9 [8,7,0,1] 18 (S [R0 10 1 [A 5 v8],R0 11 5 [d1 v1 (L 4 (i 4 v0 v5))],Iz 16 [8,1,0,7] (S [R 17 1 [5] [A 4 v5],.ret]) [5]])],E0 [A 4 (w (-1))],.ret]⟩:=by kernel_rfl
def vP:cF eN [(2,none,1)]=some ⟨8,[(2,none)],S [R0 2 1 [M z],S [R0 3 1 [v0,x (.nilS false 1 (zt 3))],If 4 [0] (S [S [iz 2,ow 2 1],.ret])],S [R 5 3 [0] [A 2 (a 1 1 (x (.bsl 1 [] [] 0)) v0)],ow 2 1],.ret]⟩:=by kernel_rfl
def xV:cF iS [(2,none,1)]=some ⟨8,[(2,none)],S [R0 2 1 [M z],S [R0 3 1 [v0,x (.nilS false 1 (zt 3))],If 4 [0] (S [S [iz 2,ow 2 1],.ret])],S [R 5 3 [0] [A 2 (a 1 8 (x (.bsl 1 [] [] 0)) v0)],ow 2 1],.ret]⟩:=by kernel_rfl
def qW:cF cQ [(2,none,4)]=some ⟨8,[(2,none)],S [R0 2 1 [M z],S [R0 3 1 [v0,x (.nilS false 1 (zt 3))],If 4 [0] (S [S [iz 2,ow 2 4],.ret])],S [R 5 3 [0] [A 2 (a 4 32 (x (.bsl 4 [] [] 0)) v0)],ow 2 4],.ret]⟩:=by kernel_rfl
def DP:cF sF []=some ⟨234,[(4,none)],S [R 4 1 [1] [J 3 (b t1),M w0],S [R0 23 2 [A 5 (c1 Fk (L 27 t3))],R0 25 1 [ne v5 w0],Iz 26 [3,0] (S [R 27 1 [5] [A 4 v5],.ret]) [5]],S [.regd (zq (zv 28 27 3) (zq (zv 30 27 3) (zA (zo 29 (.call (.func nE) [zt 28])) [zv 30 27 3] (zA (zo 31 (.call (.func EF) [zt 30])) [] (zq (zo 32 (.bld zN [(0,(27,zt 29)),(27,(3,zt 31)),(34,(1,zw 1))])) (zA (zo 6 (.alloc zN)) [zo 32 (.bld zN [(0,(27,zt 29)),(27,(3,zt 31)),(34,(1,zw 1))])] (zA (⟨none,.st 35 (zt 6) (zt 32),none⟩) [] (.done true) .no) .no)) (zA (zo 6 (.alloc zN)) [zv 30 27 3] (zA (zo 31 (.call (.func EF) [zt 30])) [] (zq (zo 32 (.bld zN [(0,(27,zt 29)),(27,(3,zt 31)),(34,(1,zw 1))])) (zA (⟨none,.st 35 (zt 6) (zt 32),none⟩) [] (.done true) .no)) .no) .no)) (zA (zo 6 (.alloc zN)) [zv 30 27 3,zv 28 27 3] (zA (zo 29 (.call (.func nE) [zt 28])) [zv 30 27 3] (zA (zo 31 (.call (.func EF) [zt 30])) [] (zq (zo 32 (.bld zN [(0,(27,zt 29)),(27,(3,zt 31)),(34,(1,zw 1))])) (zA (⟨none,.st 35 (zt 6) (zt 32),none⟩) [] (.done true) .no)) .no) .no) .no)))),.kill [32,31,30,29,28]],S [D 34 7 [7,42,41,33] [l (f 1 (y v0)),L 3 (f 27 t6),x (.lku true [.int .i64,.int .i64,.int .u64] z0 (zt 37) (zt 39) true),J 33 v40,J 41 (e 0 (t 33)),e 1 (t 33),A 7 (t 41),A 8 (t 42)],R 0 0 [8] [A 43 t8],If 43 [0,3,6] (S [E0 [A 4 (w 5)],.ret])],S [R0 44 5 [ge (n (l (f 2 (y v0)))) (w 200)],If 49 [0,3,6] (S [E0 [A 4 w3],.ret])],R 51 4 [56,55,50] [c2 qT v0 (l (f 0 t3)),J 50 (v 54),J 55 (e 0 (t 50)),e 1 (t 50),J 9 (s 5 (al zC) (t 55)),A 10 (t 56)],S [R 57 1 [10] [o v10],If 58 [9,3,0,6] (S [E0 [A 4 (w 17)],.ret])],S [R 59 3 [9] [o (c2 C6 (L 5 t9) (L 27 t3))],If 62 [3,0,6] (S [E0 [A 4 (w 12)],.ret])],S [R0 63 10 [N (eq (l (f 2 t3)) w1) (gt (n (l (f 2 (y v0)))) w0)],If 73 [0,3,6] (S [E0 [A 4 w1],.ret])],S [R0 74 4 [gt (n (c2 lJ v0 (L 27 t3))) w0],If 78 [3,0,6] (S [E0 [A 4 (w 10)],.ret])],E 11 [al zU4,al zU4],i0 13,S [R0 79 1 [n (l (f 4 t3)),M w0],ra 0 82 (t 81) 83 [80,82,81] 125 (S [R0 84 2 [L 3 (i 3 (t 80) (t 82)),J 15 (s 3 (al zI) (t 85))],D 86 11 [] [l (f 2 (y v0)),l (f 1 (y v0)),L 3 (t 15),A 16 (i 35 (t 89) (x (.lku true [.int .i64,.int .i64,.int .u64] z0 (zt 93) (zt 94) false)))],D 97 7 [15] [l (f 1 (y v0)),L 3 (t 15),c2 vK (t 11) (x (.lku true [.int .i64,.int .i64,.int .u64] z0 (zt 100) (zt 101) false))],R0 104 5 [c2 lP (t 12) (L 4 (f 30 (y v16)))],R0 109 7 [A 13 (mm true v13 (l (f 3 (f 0 (y v16)))))],D 116 9 [16] [mm true (l (f 34 t6)) (ad (l (f 34 (y v16))) w1),s 1 (f 34 t6) (t 123)]])],R0 126 1 [L 4 (t 11),J 17 (s 4 (al zU4) (t 126))],S [i0 127,ra 2 127 (w 4) 128 [127] 138 (S [R0 129 1 [A 18 (v 127)],D 130 8 [18] [v18,l (x (.iadA (zt 17) (zt 130) 4 1)),v18,B .and (t 132) (l (x (.iadA (zt 12) (zt 133) 4 1))),s 1 (x (.iadA (zt 17) (zt 130) 4 1)) (t 136)]])],S [R 139 8 [17,13] [O (ea true [.int .u64,.int .u64,.int .u64,.int .u64] (L 4 (t 17)) (x (.bld zU4 []))) (ls (l (f 3 t3)) v13)],If 147 [12,6,0,3,11] (S [E0 [A 4 (w 6)],.ret])],R 148 2 [12] [L 4 (t 12),s 4 (f 30 t6) (t 148)],R 150 3 [11] [c2 lP (f 30 t6) (L 4 (t 11))],i0 19,E0 [A 20 F],S [R0 153 4 [n (l (f 2 (y v0))),M w0],ra 4 158 (t 157) 159 [158,157] 199 (S [R0 160 1 [A 21 (v 158)],R0 161 6 [A 22 (i 35 (l (f 2 (y v0))) v21)],D 167 12 [21] [N (eq (l (f 0 (f 0 (y v22)))) (l (f 0 t3))) (c2 vL (f 30 t6) v21)],Iz 179 [] (S [R0 180 7 [A 19 (mm true v19 (l (f 1 (f 0 (y v22)))))],D 187 12 [22] [Ah 20 (O v20 (eq (l (f 1 (f 0 (y v22)))) (sb (l (f 1 t3)) w1)))]]) [22]])],S [R 200 12 [19,3,20] [O (ge v19 (l (f 1 t3))) (N (gt (l (f 1 t3)) w1) (o v20))],If 212 [0,6] (S [E0 [A 4 (w 11)],.ret])],D 213 11 [] [l (f 1 (y v0)),L 3 (f 27 t6),n (l (f 2 (y v0))),Yh (.mup true [.int .i64,.int .i64,.int .u64] (zt 216) (zt 218) (zt 223))],D 224 10 [0,6] [v0,l (f 2 (y v0)),K [zl 228 227,zf 227 226 2,zo 226 (.nilc (zt 225)),zm 225 0,zm 224 0] (ba 35 zN (L 35 t6)),K [zm 224 0] (a 35 392 (t 228) (t 230)),s 1 (f 2 (y (t 224))) (t 231)],i0 4,.ret]⟩:=by kernel_rfl
end
section
open W
def FE:HFun:=⟨142,[(4,none),(5,none),(6,none)],S [R 4 3 [0,1] [J 2 (b t0),b t1,M z,M z,M w0],S [R0 22 6 [ne (n (l (f 1 t2))) (n (l (f 1 t3)))],If 28 [2,3] (S [S [S [E0 [A 4 z,A 5 z,A 6 w1],ow 4 1],ow 5 1],.ret])],R0 29 5 [A 7 (sb (l (f 0 t2)) (l (f 0 t3)))],R0 34 4 [A 8 (sb (n (l (f 1 t2))) w2)],S [R0 38 5 [v8,v7,v7,ls (t 38) (mm true (t 39) (x (.un .neg (zt 40))))],If 43 [8,7,3,2] (S [S [S [E0 [A 4 z,A 5 z,A 6 (w 32)],ow 4 1],ow 5 1],.ret])],S [R0 44 4 [ne (rm (ad v8 v7) w2) w0],If 48 [] (R0 49 2 [A 8 (sb v8 w1)])],R 51 8 [7] [qu (ad v8 v7) w2,qu (sb v8 v7) w2,A 9 (t 54),A 10 (t 58)],S [iz 11,ow 11 1],S [E0 [A 59 t8,A 60 w0],ra 0 60 (t 59) 61 [60,59,10] 80 (S [R0 62 1 [A 12 (v 60)],D 63 17 [12] [v11,K [zm 63 11] (c5 sK (l (i 1 (l (f 1 t2)) v12)) (l (i 1 (l (f 1 t3)) v12)) v12 v9 v10),Ah 11 (a 1 24 (t 63) (K [zm 63 11] (ba 1 [zS] (t 77))))],ow 11 1])],S [R 82 3 [11,8,86,85,81] [c2 xM v11 v8,J 81 (v 84),J 85 (e 0 (t 81)),e 1 (t 81),A 13 (t 85),A 14 (t 86)],.shut 13],S [R 87 1 [14] [o v14],If 88 [13,9,2,3] (S [S [S [E0 [A 4 z,A 5 z,A 6 (w 32)],ow 4 1],ow 5 1],.ret])],S [S [S [.regd (zq (zm 89 13) (zq (zm 90 9) (zq (zo 91 (.slc (zt 89) none (some (zt 90)) 1)) (zq (zm 95 13) (zq (zm 96 9) (zq (zo 97 (.slc (zt 95) (some (zt 96)) none 1)) (zA (zo 92 (.call (.func aK) [zt 91])) [zo 97 (.slc (zt 95) (some (zt 96)) none 1),zm 96 9,zm 95 13] (zA (zo 93 (.bsl 1 [zU] [(0,(1,zu 1))] 1)) [zo 97 (.slc (zt 95) (some (zt 96)) none 1),zm 96 9,zm 95 13] (zA (zo 94 (.app (zt 92) (zt 93) 1 8)) [zo 97 (.slc (zt 95) (some (zt 96)) none 1),zm 96 9,zm 95 13] (zA (zo 98 (.call (.func aK) [zt 97])) [] (zA (zo 99 (.bsl 1 [zU] [(0,(1,zu 1))] 1)) [] (zA (zo 100 (.app (zt 98) (zt 99) 1 8)) [] (zq (zm 15 94) (zq (zm 16 100) (.done true))) .no) .no) (zA (zo 99 (.bsl 1 [zU] [(0,(1,zu 1))] 1)) [zo 97 (.slc (zt 95) (some (zt 96)) none 1),zm 96 9,zm 95 13] (zA (zo 98 (.call (.func aK) [zt 97])) [] (zA (zo 100 (.app (zt 98) (zt 99) 1 8)) [] (zq (zm 15 94) (zq (zm 16 100) (.done true))) .no) .no) .no)) (zA (zo 99 (.bsl 1 [zU] [(0,(1,zu 1))] 1)) [zo 97 (.slc (zt 95) (some (zt 96)) none 1),zm 96 9,zm 95 13] (zA (zo 94 (.app (zt 92) (zt 93) 1 8)) [zo 97 (.slc (zt 95) (some (zt 96)) none 1),zm 96 9,zm 95 13] (zA (zo 98 (.call (.func aK) [zt 97])) [] (zA (zo 100 (.app (zt 98) (zt 99) 1 8)) [] (zq (zm 15 94) (zq (zm 16 100) (.done true))) .no) .no) .no) .no)) (zA (zo 99 (.bsl 1 [zU] [(0,(1,zu 1))] 1)) [zo 97 (.slc (zt 95) (some (zt 96)) none 1),zm 96 9,zm 95 13] (zA (zo 93 (.bsl 1 [zU] [(0,(1,zu 1))] 1)) [zo 97 (.slc (zt 95) (some (zt 96)) none 1),zm 96 9,zm 95 13] (zA (zo 94 (.app (zt 92) (zt 93) 1 8)) [zo 97 (.slc (zt 95) (some (zt 96)) none 1),zm 96 9,zm 95 13] (zA (zo 98 (.call (.func aK) [zt 97])) [] (zA (zo 100 (.app (zt 98) (zt 99) 1 8)) [] (zq (zm 15 94) (zq (zm 16 100) (.done true))) .no) .no) .no) .no) .no)) (zA (zo 93 (.bsl 1 [zU] [(0,(1,zu 1))] 1)) [zo 97 (.slc (zt 95) (some (zt 96)) none 1),zm 96 9,zm 95 13,zo 91 (.slc (zt 89) none (some (zt 90)) 1),zm 90 9,zm 89 13] (zA (zo 92 (.call (.func aK) [zt 91])) [zo 97 (.slc (zt 95) (some (zt 96)) none 1),zm 96 9,zm 95 13] (zA (zo 94 (.app (zt 92) (zt 93) 1 8)) [zo 97 (.slc (zt 95) (some (zt 96)) none 1),zm 96 9,zm 95 13] (zA (zo 98 (.call (.func aK) [zt 97])) [] (zA (zo 99 (.bsl 1 [zU] [(0,(1,zu 1))] 1)) [] (zA (zo 100 (.app (zt 98) (zt 99) 1 8)) [] (zq (zm 15 94) (zq (zm 16 100) (.done true))) .no) .no) (zA (zo 99 (.bsl 1 [zU] [(0,(1,zu 1))] 1)) [zo 97 (.slc (zt 95) (some (zt 96)) none 1),zm 96 9,zm 95 13] (zA (zo 98 (.call (.func aK) [zt 97])) [] (zA (zo 100 (.app (zt 98) (zt 99) 1 8)) [] (zq (zm 15 94) (zq (zm 16 100) (.done true))) .no) .no) .no)) (zA (zo 99 (.bsl 1 [zU] [(0,(1,zu 1))] 1)) [zo 97 (.slc (zt 95) (some (zt 96)) none 1),zm 96 9,zm 95 13] (zA (zo 94 (.app (zt 92) (zt 93) 1 8)) [zo 97 (.slc (zt 95) (some (zt 96)) none 1),zm 96 9,zm 95 13] (zA (zo 98 (.call (.func aK) [zt 97])) [] (zA (zo 100 (.app (zt 98) (zt 99) 1 8)) [] (zq (zm 15 94) (zq (zm 16 100) (.done true))) .no) .no) .no) .no)) (zA (zo 99 (.bsl 1 [zU] [(0,(1,zu 1))] 1)) [zo 97 (.slc (zt 95) (some (zt 96)) none 1),zm 96 9,zm 95 13,zo 91 (.slc (zt 89) none (some (zt 90)) 1),zm 90 9,zm 89 13] (zA (zo 92 (.call (.func aK) [zt 91])) [zo 97 (.slc (zt 95) (some (zt 96)) none 1),zm 96 9,zm 95 13] (zA (zo 94 (.app (zt 92) (zt 93) 1 8)) [zo 97 (.slc (zt 95) (some (zt 96)) none 1),zm 96 9,zm 95 13] (zA (zo 98 (.call (.func aK) [zt 97])) [] (zA (zo 100 (.app (zt 98) (zt 99) 1 8)) [] (zq (zm 15 94) (zq (zm 16 100) (.done true))) .no) .no) .no) .no) .no)) (zA (zo 99 (.bsl 1 [zU] [(0,(1,zu 1))] 1)) [zo 97 (.slc (zt 95) (some (zt 96)) none 1),zm 96 9,zm 95 13,zo 91 (.slc (zt 89) none (some (zt 90)) 1),zm 90 9,zm 89 13] (zA (zo 92 (.call (.func aK) [zt 91])) [zo 97 (.slc (zt 95) (some (zt 96)) none 1),zm 96 9,zm 95 13] (zA (zo 93 (.bsl 1 [zU] [(0,(1,zu 1))] 1)) [zo 97 (.slc (zt 95) (some (zt 96)) none 1),zm 96 9,zm 95 13] (zA (zo 94 (.app (zt 92) (zt 93) 1 8)) [zo 97 (.slc (zt 95) (some (zt 96)) none 1),zm 96 9,zm 95 13] (zA (zo 98 (.call (.func aK) [zt 97])) [] (zA (zo 100 (.app (zt 98) (zt 99) 1 8)) [] (zq (zm 15 94) (zq (zm 16 100) (.done true))) .no) .no) .no) .no) (zA (zo 93 (.bsl 1 [zU] [(0,(1,zu 1))] 1)) [zo 97 (.slc (zt 95) (some (zt 96)) none 1),zm 96 9,zm 95 13,zo 91 (.slc (zt 89) none (some (zt 90)) 1),zm 90 9,zm 89 13] (zA (zo 92 (.call (.func aK) [zt 91])) [zo 97 (.slc (zt 95) (some (zt 96)) none 1),zm 96 9,zm 95 13] (zA (zo 94 (.app (zt 92) (zt 93) 1 8)) [zo 97 (.slc (zt 95) (some (zt 96)) none 1),zm 96 9,zm 95 13] (zA (zo 98 (.call (.func aK) [zt 97])) [] (zA (zo 100 (.app (zt 98) (zt 99) 1 8)) [] (zq (zm 15 94) (zq (zm 16 100) (.done true))) .no) .no) .no) .no) .no)) .no))))))))),.kill [13,9,100,99,98,97,96,95,94,93,92,91,90,89]],.shut 15],.shut 16],R0 101 3 [A 17 (c2 xN v15 v16)],S [R 105 3 [109,108,104] [c2 fX v15 v17,J 104 (v 107),J 108 (e 0 (t 104)),e 1 (t 104),A 15 (t 108)],.shut 15],S [R 111 3 [17,115,114,110] [c2 fX v16 v17,J 110 (v 113),J 114 (e 0 (t 110)),e 1 (t 110),A 16 (t 114)],.shut 16],R 117 2 [15,120,119,116] [c1 nQ v15,J 116 (v 118),J 119 (e 0 (t 116)),e 1 (t 116),A 18 (t 119),A 19 (t 120)],R 122 2 [16,125,124,121] [c1 nQ v16,J 121 (v 123),J 124 (e 0 (t 121)),e 1 (t 121),A 20 (t 124),A 21 (t 125)],S [R 126 13 [19,21,2,3] [O (O (o v19) (o v21)) (o (c4 Bs v18 v20 (L 2 t2) (L 2 t3)))],If 139 [18,20] (S [S [S [E0 [A 4 z,A 5 z,A 6 (w 32)],ow 4 1],ow 5 1],.ret])],S [S [R 140 2 [18,20] [v18,v20,A 4 (t 140),A 5 (t 141),A 6 w0],ow 4 1],ow 5 1],.ret]⟩
def Hy:cF jQ [(11,none,1),(4,none,1),(5,none,1),(13,none,0),(15,none,0),(16,none,0)]=some FE:=by kernel_rfl
def Ip:HFun:=⟨38,[(4,some (some 2))],S [E 4 [al [z0,zS]],S [R0 10 3 [q1 [z0,zS] (n v0),J 5 (s 2 (al [z0,zS]) (t 12))],oc 5 1 1],S [R 0 0 [1] [A 13 t1,A 14 w0],ra 0 14 (t 13) 15 [14,0,13] 36 (S [R0 16 1 [A 6 v14],E0 [A 7 (u 1)],S [E 18 [A 17 t0,n (t 17),A 19 w0],ra 2 19 (t 18) 20 [17,19,18,6] 29 (S [R0 21 2 [A 9 (l (i 1 (t 17) (t 19)))],R 23 6 [9] [A 7 (c2 bQ v7 (c2 oH (c1 sL v6) v9))]])],R 30 6 [7] [a 1 8 (l (f 1 t5)) (ba 1 [zU] v7),s 1 (f 1 t5) (t 34)]])],R 37 1 [5] [s 2 t4 (L 2 t5)],.ret]⟩
def Lk:cF gR [(5,some 1,1)]=some Ip:=by kernel_rfl
def mJ:HFun:=⟨26,[(4,none)],S [R0 4 1 [M F],S [R0 6 4 [ne (n v0) (n v1)],If 10 [0,1] (S [E0 [A 4 F],.ret])],S [R0 11 1 [n v0,M w0],ra 0 13 (t 12) 14 [13,12,1,0] 25 (S [R0 15 1 [A 5 v13],D 16 8 [5] [ne (l (i 1 v0 v5)) (l (i 1 v1 v5))],If 24 [13,0,1,12] (S [E0 [A 4 F],.ret])])],E0 [A 4 T],.ret]⟩
def sR:cF aW []=some mJ:=by kernel_rfl
def dN:HFun:=⟨42,[(4,none)],S [R0 4 1 [M z],R0 8 3 [A 5 (c2 bA v0 v1)],S [R0 11 1 [eq v5 (w (-1))],If 12 [5,1] (S [S [R 13 1 [0] [A 4 v0],ow 4 3],.ret])],S [R0 14 2 [A 6 (ad v5 w1)],fo 0 16 3 (ls v6 (n v0)) [6,1] 6 (S [R0 22 4 [L 3 (i 3 v0 v6),J 7 (s 3 (al zI) (t 25))],R0 26 3 [o (d1 v1 (L 3 t7))],Iz 29 [] (S [R 30 4 [7] [v0,v5,L 3 t7,s 3 (i 3 (t 30) (t 31)) (t 32)],R0 34 2 [A 5 (ad v5 w1)]]) [7]])],R0 36 3 [v0,v5,x (.slc (zt 36) (some (zt 37)) none 3),Y (.clr (zt 38) 3 zI)],S [R 39 3 [0,5] [v0,v5,A 4 (x (.slc (zt 39) none (some (zt 40)) 3))],ow 4 3],.ret]⟩
def fU:cF bN [(4,none,3)]=some dN:=by kernel_rfl
def fE:HFun:=⟨8,[(2,none)],S [R0 2 1 [M z],S [R0 3 1 [v0,x (.nilS false 1 (zt 3))],If 4 [0] (S [S [iz 2,ow 2 3],.ret])],S [R 5 3 [0] [A 2 (a 3 24 (x (.bsl 3 [] [] 0)) v0)],ow 2 3],.ret]⟩
def iN:cF aV [(2,none,3)]=some fE:=by kernel_rfl
def iO:HFun:=⟨9,[(4,none)],S [R 4 1 [1] [J 3 (b t1),M F],R 5 4 [0,3] [ge (c2 fC v0 (L 3 t3)) w0,J 4 v8],.ret]⟩
def mY:cF dV []=some iO:=by kernel_rfl
def Hz:cF qF []=some ⟨15,[(2,none)],S [R 2 1 [0] [J 1 (b t0),M (u 0)],R 3 12 [1] [ad (u 1) (rm (c2 wW (kc (.const (.string (Hud.bs [101,108,101,109])))) (j3 zU3 (cw .u64 (l (f 0 t1))) (cw .u64 (l (f 1 t1))) (l (f 2 t1)))) (u 1152921504606846976)),J 2 v14],.ret]⟩:=by kernel_rfl
def lG:HFun:=⟨61,[(2,none)],S [R0 2 1 [M z],S [R0 6 2 [ls (n v0) w2],If 8 [] (S [S [R 9 1 [0] [A 2 v0],ow 2 1],.ret])],S [E0 [A 3 w1],fo 0 10 3 (ls v3 (n v0)) [3] 3 (S [D 16 9 [] [eq (l (i 1 v0 v3)) (l (i 1 v0 (sb v3 w1)))],If 25 [] (S [R0 26 3 [v0,v3,A 4 (x (.slc (zt 26) (some (zt 27)) none 1))],S [E0 [A 5 w1],fo 2 29 3 (ls v5 (n v4)) [4,5] 5 (S [D 35 9 [] [ne (l (i 1 v4 v5)) (l (i 1 v4 (sb v5 w1)))],If 44 [] (S [R0 45 7 [v0,v3,l (i 1 v4 v5),s 1 (i 1 (t 45) (t 46)) (t 50)],R0 52 2 [A 3 (ad v3 w1)]])])],R0 54 3 [v0,v3,x (.slc (zt 54) (some (zt 55)) none 1),Y (.clr (zt 56) 1 [zU])],S [R 57 3 [0,3] [v0,v3,A 2 (x (.slc (zt 57) none (some (zt 58)) 1))],ow 2 1],.ret])])],S [R 60 1 [0] [A 2 v0],ow 2 1],.ret]⟩
def qX:cF gW [(2,none,1)]=some lG:=by kernel_rfl
def zL:HFun:=⟨56,[(10,none)],S [R0 10 1 [M z],S [iz 11,ow 11 1],R 15 2 [2] [A 12 (c1 sL v2)],E0 [A 13 (u 1)],S [R 0 0 [3] [A 17 t3,A 18 w0],ra 0 18 (t 17) 19 [18,17] 29 (S [S [R0 20 6 [A 11 (a 1 8 v11 (ba 1 [zU] (c2 bQ v1 v13)))],ow 11 1],R0 26 3 [A 13 (c2 bQ v13 v12)]])],R 30 4 [1,13] [A 14 (c1 uU (c2 bQ v1 v13))],E0 [A 13 (u 1)],S [R 0 0 [4] [A 34 t4,A 35 w0],ra 2 35 (t 34) 36 [35,34,12] 47 (S [S [R0 37 7 [A 11 (a 1 8 v11 (ba 1 [zU] (c1 uU (c2 bQ v0 v13))))],ow 11 1],R0 44 3 [A 13 (c2 bQ v13 v12)]])],S [R 48 8 [11,14,0,13] [A 10 (a 1 8 v11 (ba 1 [zU] (c2 mI v14 (c2 bQ v0 v13))))],ow 10 1],.ret]⟩
def DQ:cF sK [(10,none,1),(11,none,1)]=some zL:=by kernel_rfl
def DR:HFun:=⟨156,[(4,none),(5,none)],S [R0 4 2 [M z,M F],E0 [A 6 (kc (.func uA))],R0 19 2 [v1,A 7 (x (.mks 1 [z0] 8 (zw 0) (zt 19)))],.skip,S [E0 [A 21 t1,A 22 w0],ra 0 22 (t 21) 23 [22,6,21] 119 (S [R0 24 1 [A 8 v22],R0 25 2 [A 9 (n v7)],fo 2 27 3 (ls v9 (n v0)) [9,8] 9 (S [S [R0 33 7 [eq (l (i 1 (l (i 1 v0 v9)) v8)) (u 0)],If 40 [] (ex 3)],R0 41 2 [A 10 (n v7)],D 43 14 [9] [v0,v9,v0,v10,l (i 1 v0 v10),l (i 1 v0 v9),K [zm 46 10,zm 45 0] (s 1 (i 1 (t 43) (t 44)) (t 50)),s 1 (i 1 (t 45) (t 46)) (t 54)],R0 57 8 [A 11 (c1 rH (l (i 1 (l (i 1 v0 v10)) v8)))],S [R0 65 4 [n (l (i 1 v0 v10)),M w0],ra 4 70 (t 69) 71 [70,69,11] 88 (S [R0 72 1 [A 12 (v 70)],D 73 15 [12] [l (i 1 v0 v10),v12,K [zm 77 12,zl 76 75,zi 75 73 74 1,zm 74 10,zm 73 0] (c2 bQ (l (i 1 (l (i 1 v0 v10)) v12)) v11),s 1 (i 1 (t 76) (t 77)) (t 86)]])],S [R0 89 1 [n v0,M w0],ra 6 91 (t 90) 92 [91,90,10] 114 (S [R0 93 1 [A 13 (v 91)],R0 94 2 [ne v13 v10],Iz 96 [] (D 97 17 [13] [d3 v6 (l (i 1 v0 v13)) (l (i 1 v0 v10)) (l (i 1 (l (i 1 v0 v13)) v8))]) [13]])],R 115 4 [8] [A 7 (a 1 8 v7 (ba 1 [z0] v8))],ex 1])])],S [R0 120 3 [v0,n v7,n (x (.slc (zt 120) (some (zt 122)) none 1)),M w0],ra 8 125 (t 124) 126 [123,125,124] 134 (S [R0 127 2 [A 15 (l (i 1 (t 123) (t 125)))],R 129 4 [15] [ne (l (i 1 v15 v1)) (u 0)],If 133 [125,1,123,7,0,124] (S [S [E0 [A 4 z,A 5 F],ow 4 1],.ret])])],R0 135 2 [v1,A 16 (x (.mks 1 [zU] 8 (zt 135) (zt 135)))],S [R 138 0 [7] [A 137 t7,n (t 137),A 139 w0],ra 10 139 (t 138) 140 [139,137,138,1,0] 154 (S [R0 141 3 [v 139,l (i 1 (t 137) (t 139)),A 17 (t 141),A 18 (t 143)],R 144 10 [18,17] [v16,v18,l (i 1 (l (i 1 v0 v17)) v1),s 1 (i 1 (t 144) (t 145)) (t 152)]])],S [R 155 1 [16] [A 4 v16,A 5 T],ow 4 1],.ret]⟩
def Gt:cF xM [(4,none,1)]=some DR:=by kernel_rfl
def sS:cF aK [(2,none,1)]=some ⟨8,[(2,none)],S [R0 2 1 [M z],S [R0 3 1 [v0,x (.nilS false 1 (zt 3))],If 4 [0] (S [S [iz 2,ow 2 1],.ret])],S [R 5 3 [0] [A 2 (a 1 8 (x (.bsl 1 [] [] 0)) v0)],ow 2 1],.ret]⟩:=by kernel_rfl
def zM:HFun:=⟨18,[(2,none),(3,none)],S [R0 2 2 [M z,M F],R0 5 2 [c1 Bw v0,J 4 v6],S [R 7 9 [0] [O (ne (n v4) (sb (n v0) w1)) (c2 bV v4 (kc (.func pS)))],If 16 [4] (S [S [E0 [A 2 z,A 3 F],ow 2 1],.ret])],S [R 17 1 [4] [A 2 v4,A 3 T],ow 2 1],.ret]⟩
def DS:cF nQ [(2,none,1)]=some zM:=by kernel_rfl
def Gu:HFun:=⟨52,[(8,none)],S [R 8 1 [2,3] [J 6 (b t2),b t3,M F],D 12 12 [0,1] [v0,n (l (f 1 t6)),J 18 v1,n (l (f 1 t6)),J 16 (K [zo 21 (.lenL (zt 20)),zl 20 19,zf 19 6 1,zm 18 1] (c2 gR (t 12) (t 15))),x (.fld (zt 16) 1 none),J 22 (K [zo 17 (.fld (zt 16) 1 none)] (c2 gR (t 18) (t 21))),x (.fld (zt 22) 1 none),A 9 (t 17),A 10 (t 23)],S [R0 24 2 [n (l (f 1 t6)),M w0],ra 0 27 (t 26) 28 [27,26,9,7,10,6] 51 (S [R0 29 1 [A 11 v27],D 30 20 [11] [l (i 1 (l (f 1 t6)) v11),l (i 1 v10 v11),J 40 (l (i 1 (l (f 1 t7)) v11)),l (i 1 v9 v11),J 39 (K [zl 48 47,zi 47 45 46 1,zm 46 11,zm 45 9,zl 44 43,zi 43 41 42 1,zm 42 11,zl 41 40,zf 40 7 1] (c2 bQ (t 34) (t 38))),J 49 (ne (t 39) (c2 bQ (t 44) (t 48)))],If 50 [27,6,10,7,9,26] (S [E0 [A 8 F],.ret])])],E0 [A 8 T],.ret]⟩
def JM:cF Bs []=some Gu:=by kernel_rfl
def DT:HFun:=⟨6,[(2,none)],S [R0 2 1 [M (u 0)],R 3 3 [0] [sb (u 2305843009213693950) (cw .u64 v0),J 2 v5],.ret]⟩
def Gv:cF sL []=some DT:=by kernel_rfl
def cE:HFun:=⟨19,[(4,none)],S [R0 4 1 [M w0],S [R0 6 1 [n v0,M w0],ra 0 8 t7 9 [8,7,0,1] 18 (S [R0 10 1 [A 5 v8],R0 11 5 [d1 v1 (L 3 (i 3 v0 v5))],Iz 16 [8,1,0,7] (S [R 17 1 [5] [A 4 v5],.ret]) [5]])],E0 [A 4 (w (-1))],.ret]⟩
def dH:cF bA []=some cE:=by kernel_rfl
def jS:HFun:=⟨19,[(4,none)],S [R 4 1 [1] [J 3 (b t1),M w0],S [R0 6 1 [n v0,M w0],ra 0 8 t7 9 [8,7,0,3] 18 (S [R0 10 1 [A 5 v8],D 11 5 [] [ea false [.int .i64,.int .i64,.int .u64] (L 3 t3) (L 3 (i 3 v0 v5))],Iz 16 [8,3,0,7] (S [R 17 1 [5] [A 4 v5],.ret]) [5]])],E0 [A 4 (w (-1))],.ret]⟩
def oN:cF fC []=some jS:=by kernel_rfl
def BA:HFun:=⟨27,[],S [R0 7 1 [n v0,M w0],ra 0 9 t8 10 [9,8,1,2,0] 26 (S [R0 11 1 [A 6 v9],D 12 14 [6] [v0,v6,l (i 1 v0 v6),K [zl 17 16,zi 16 14 15 1,zm 15 6,zm 14 0,zm 13 6,zm 12 0] (c2 bQ v2 (l (i 1 v1 v6))),K [zm 13 6,zm 12 0] (c2 oH (t 17) (t 23)),s 1 (i 1 (t 12) (t 13)) (t 24)]])]⟩
def Eo:cF uA []=some BA:=by kernel_rfl
def eU:HFun:=⟨9,[(4,none)],S [R0 4 1 [M F],R 5 4 [0,1] [ge (c2 dK v0 v1) w0,J 4 v8],.ret]⟩
def iE:cF bV []=some eU:=by kernel_rfl
def vX:HFun:=⟨9,[(2,none)],S [R0 2 1 [M F],R 3 6 [0] [O (ls v0 (u 1)) (gt v0 (u 1152921504606846976)),J 2 v8],.ret]⟩
def B6:cF pS []=some vX:=by kernel_rfl
def fS:HFun:=⟨19,[(4,none)],S [R0 4 1 [M w0],S [R0 6 1 [n v0,M w0],ra 0 8 t7 9 [8,7,0,1] 18 (S [R0 10 1 [A 5 v8],R0 11 5 [d1 v1 (l (i 1 v0 v5))],Iz 16 [8,1,0,7] (S [R 17 1 [5] [A 4 v5],.ret]) [5]])],E0 [A 4 (w (-1))],.ret]⟩
def jD:cF dK []=some fS:=by kernel_rfl
end
section
def EK {α:Type} (m:α→Bool) (l:List α):(!(l.any λx=>!m x))=l.all m:=by simp [List.all_eq_not_any_not]
section
variable {G:Nat→Option (List AV)}
set_option maxHeartbeats 2000000
def Te (f:Nat) (m:BoxM→Bool) (x:BoxM) (h:aC PQ G f [.ag x.A] [] λr T=>r=.v (.bool (m x))∧T=[]):aC PQ G iC [.ag x.A,.ptr 0 0] [some (.box [.cl f []])] λr T=>r=.v (.bool (!m x))∧T=[some (.box [.cl f []])]:=by
 refine aF Ca (by decide) ?_;simp only [go_sem,BoxM.A];refine aB (aA _) rfl h rfl ?_;simp only [go_sem]
def XK (f:Nat) (m:BoxM→Bool) (l:List BoxM) (hl:l.length<9223372036854775807) (h:∀ x∈l,aC PQ G f [.ag x.A] [] λr T=>r=.v (.bool (m x))∧T=[]) :
  aC PQ G fD [C0 l,.cl iC [.ptr 0 0]] [some (.box [.cl f []])] λr T=>r=.v (.int .i64 (DK (λx=>!m x) l))∧T=[some (.box [.cl f []])]:=by
 refine aF oM (by decide) ?_;simp only [go_sem,aL];refine aO l.length (λi=>⟨1,[(0,C0 l),(1,.cl iC [.ptr 0 0]),(7,.v (.int .i64 (l.length:Int))),(8,.v (.int .i64 (i:Int)))],[some (.box [.cl f []])]⟩) (λi=>∀ j (hj:j<l.length),j<i→(!m l[j])=false) ?_ (by intro j hj h;omega) ?_ ?_
 ·simp only [go_sem]
 ·intro i hi hJ;have g0:(l.map BoxM.A)[i]?=some [uv l[i].To,uv l[i].Eph,uv l[i].Body,uv l[i].Tag]:=aP _ l i hi;simp only [go_sem,aL,aT hi,hi,g0,BoxM.A];refine aI [0] (aA _) (by decide) (by simp) rfl rfl (Te f m l[i] (h _ (jY hi))) ?_;rintro r T' ⟨rfl,rfl⟩
  cases hm:m l[i] with
  | true =>
   simp only [go_sem,aG (show i<9223372036854775807 by omega)];intro j hj hji;rcases bY j i with h1 | h1
   ·exact hJ j hj h1
   ·obtain rfl:j=i:=by omega
    rw [hm];rfl
  | false =>
   simp only [go_sem];rw [uC hi hJ (by rw [hm];rfl)]
 ·intro hJ;simp only [go_sem,aL,aX (cZ _)];rw [uB λj hj=>hJ j hj hj]
def XL (f:Nat) (m:BoxM→Bool) (l:List BoxM) (hl:l.length<9223372036854775807) (h:∀ x∈l,aC PQ G f [.ag x.A] [] λr T=>r=.v (.bool (m x))∧T=[]) :
  aC PQ G dY [C0 l,.cl iC [.ptr 0 0]] [some (.box [.cl f []])] λr T=>r=.v (.bool (l.any λx=>!m x))∧T=[some (.box [.cl f []])]:=by
 refine aF mX (by decide) ?_;simp only [go_sem];refine aI [0] (aA _) (by decide) (by simp) rfl rfl (XK f m l hl h) ?_;rintro r T' ⟨rfl,rfl⟩;simp only [go_sem,ge_iff_le,B3]
def Nz (f:Nat) (m:BoxM→Bool) (l:List BoxM) (hl:l.length<9223372036854775807) (h:∀ x∈l,aC PQ G f [.ag x.A] [] λr T=>r=.v (.bool (m x))∧T=[]) :
  aC PQ G lR [C0 l,.cl f []] [] λr T=>r=.v (.bool (l.all m))∧T=[]:=by
 refine aF Ek (by decide) ?_;simp only [go_sem];refine aI [0] (aA _) (by decide) (by simp) rfl rfl (XL f m l hl h) ?_;rintro r T' ⟨rfl,rfl⟩;simp only [go_sem,EK]
def Tf (f:Nat) (m:Int→Bool) (x:Int) (h:aC PQ G f [iv x] [] λr T=>r=.v (.bool (m x))∧T=[]):aC PQ G lT [iv x,.ptr 0 0] [some (.box [.cl f []])] λr T=>r=.v (.bool (!m x))∧T=[some (.box [.cl f []])]:=by
 refine aF Gr (by decide) ?_;simp only [go_sem];refine aB (aA _) rfl h rfl ?_;simp only [go_sem]
def XM (f:Nat) (m:Int→Bool) (l:List Int) (hl:l.length<9223372036854775807) (h:∀ x∈l,aC PQ G f [iv x] [] λr T=>r=.v (.bool (m x))∧T=[]) :
  aC PQ G jL [AM l,.cl lT [.ptr 0 0]] [some (.box [.cl f []])] λr T=>r=.v (.int .i64 (DK (λx=>!m x) l))∧T=[some (.box [.cl f []])]:=by
 refine aF uE (by decide) ?_;simp only [go_sem,aL];refine aO l.length (λi=>⟨1,[(0,AM l),(1,.cl lT [.ptr 0 0]),(7,.v (.int .i64 (l.length:Int))),(8,.v (.int .i64 (i:Int)))],[some (.box [.cl f []])]⟩) (λi=>∀ j (hj:j<l.length),j<i→(!m l[j])=false) ?_ (by intro j hj h;omega) ?_ ?_
 ·simp only [go_sem]
 ·intro i hi hJ;have g0:(l.map λn=>[iv n])[i]?=some [iv l[i]]:=aP _ l i hi;simp only [go_sem,aL,aT hi,hi,g0];refine aI [0] (aA _) (by decide) (by simp) rfl rfl (Tf f m l[i] (h _ (jY hi))) ?_;rintro r T' ⟨rfl,rfl⟩
  cases hm:m l[i] with
  | true =>
   simp only [go_sem,aG (show i<9223372036854775807 by omega)];intro j hj hji;rcases bY j i with h1 | h1
   ·exact hJ j hj h1
   ·obtain rfl:j=i:=by omega
    rw [hm];rfl
  | false =>
   simp only [go_sem];rw [uC hi hJ (by rw [hm];rfl)]
 ·intro hJ;simp only [go_sem,aL,aX (cZ _)];rw [uB λj hj=>hJ j hj hj]
def XN (f:Nat) (m:Int→Bool) (l:List Int) (hl:l.length<9223372036854775807) (h:∀ x∈l,aC PQ G f [iv x] [] λr T=>r=.v (.bool (m x))∧T=[]) :
  aC PQ G iD [AM l,.cl lT [.ptr 0 0]] [some (.box [.cl f []])] λr T=>r=.v (.bool (l.any λx=>!m x))∧T=[some (.box [.cl f []])]:=by
 refine aF rQ (by decide) ?_;simp only [go_sem];refine aI [0] (aA _) (by decide) (by simp) rfl rfl (XM f m l hl h) ?_;rintro r T' ⟨rfl,rfl⟩;simp only [go_sem,ge_iff_le,B3]
def XO (f:Nat) (m:Int→Bool) (l:List Int) (hl:l.length<9223372036854775807) (h:∀ x∈l,aC PQ G f [iv x] [] λr T=>r=.v (.bool (m x))∧T=[]) :
  aC PQ G wK [AM l,.cl f []] [] λr T=>r=.v (.bool (l.all m))∧T=[]:=by
 refine aF JI (by decide) ?_;simp only [go_sem];refine aI [0] (aA _) (by decide) (by simp) rfl rfl (XN f m l hl h) ?_;rintro r T' ⟨rfl,rfl⟩;simp only [go_sem,EK]
def Tg (f:Nat) (m:Nat→Bool) (x:Nat) (h:aC PQ G f [uv x] [] λr T=>r=.v (.bool (m x))∧T=[]):aC PQ G iV [uv x,.ptr 0 0] [some (.box [.cl f []])] λr T=>r=.v (.bool (!m x))∧T=[some (.box [.cl f []])]:=by
 refine aF DH (by decide) ?_;simp only [go_sem];refine aB (aA _) rfl h rfl ?_;simp only [go_sem]
def XP (f:Nat) (m:Nat→Bool) (l:List Nat) (hl:l.length<9223372036854775807) (h:∀ x∈l,aC PQ G f [uv x] [] λr T=>r=.v (.bool (m x))∧T=[]) :
  aC PQ G dK [.ls 1 (ul l),.cl iV [.ptr 0 0]] [some (.box [.cl f []])] λr T=>r=.v (.int .i64 (DK (λx=>!m x) l))∧T=[some (.box [.cl f []])]:=by
 refine aF jD (by decide) ?_;unfold fS;simp only [go_sem,aL];refine aO l.length (λi=>⟨1,[(0,.ls 1 (ul l)),(1,.cl iV [.ptr 0 0]),(7,.v (.int .i64 (l.length:Int))),(8,.v (.int .i64 (i:Int)))],[some (.box [.cl f []])]⟩) (λi=>∀ j (hj:j<l.length),j<i→(!m l[j])=false) ?_ (by intro j hj h;omega) ?_ ?_
 ·simp only [go_sem]
 ·intro i hi hJ;have g0:(ul l)[i]?=some [uv l[i]]:=aP _ l i hi;simp only [go_sem,aL,aT hi,hi,g0];refine aI [0] (aA _) (by decide) (by simp) rfl rfl (Tg f m l[i] (h _ (jY hi))) ?_;rintro r T' ⟨rfl,rfl⟩
  cases hm:m l[i] with
  | true =>
   simp only [go_sem,aG (show i<9223372036854775807 by omega)];intro j hj hji;rcases bY j i with h1 | h1
   ·exact hJ j hj h1
   ·obtain rfl:j=i:=by omega
    rw [hm];rfl
  | false =>
   simp only [go_sem];rw [uC hi hJ (by rw [hm];rfl)]
 ·intro hJ;simp only [go_sem,aL,aX (cZ _)];rw [uB λj hj=>hJ j hj hj]
def XQ (f:Nat) (m:Nat→Bool) (l:List Nat) (hl:l.length<9223372036854775807) (h:∀ x∈l,aC PQ G f [uv x] [] λr T=>r=.v (.bool (m x))∧T=[]) :
  aC PQ G bV [.ls 1 (ul l),.cl iV [.ptr 0 0]] [some (.box [.cl f []])] λr T=>r=.v (.bool (l.any λx=>!m x))∧T=[some (.box [.cl f []])]:=by
 refine aF iE (by decide) ?_;unfold eU;simp only [go_sem];refine aI [0] (aA _) (by decide) (by simp) rfl rfl (XP f m l hl h) ?_;rintro r T' ⟨rfl,rfl⟩;simp only [go_sem,ge_iff_le,B3]
def XR (f:Nat) (m:Nat→Bool) (l:List Nat) (hl:l.length<9223372036854775807) (h:∀ x∈l,aC PQ G f [uv x] [] λr T=>r=.v (.bool (m x))∧T=[]) :
  aC PQ G qN [.ls 1 (ul l),.cl f []] [] λr T=>r=.v (.bool (l.all m))∧T=[]:=by
 refine aF Fm (by decide) ?_;simp only [go_sem];refine aI [0] (aA _) (by decide) (by simp) rfl rfl (XQ f m l hl h) ?_;rintro r T' ⟨rfl,rfl⟩;simp only [go_sem,EK]
def XS (f:Nat) (m:Id→Bool) (x:Id) (h:aC PQ G f [.ag x.A] [] λr T=>r=.v (.bool (m x))∧T=[]):aC PQ G fN [.ag x.A,.ptr 0 0] [some (.box [.cl f []])] λr T=>r=.v (.bool (!m x))∧T=[some (.box [.cl f []])]:=by
 refine aF Az (by decide) ?_;simp only [go_sem,Id.A_def];refine aB (aA _) rfl h rfl ?_;simp only [go_sem]
def Zz (f:Nat) (m:Id→Bool) (l:List Id) (hl:l.length<9223372036854775807) (h:∀ x∈l,aC PQ G f [.ag x.A] [] λr T=>r=.v (.bool (m x))∧T=[]) :
  aC PQ G bA [ids l,.cl fN [.ptr 0 0]] [some (.box [.cl f []])] λr T=>r=.v (.int .i64 (DK (λx=>!m x) l))∧T=[some (.box [.cl f []])]:=by
 refine aF dH (by decide) ?_;unfold cE;simp only [go_sem,aL];refine aO l.length (λi=>⟨1,[(0,ids l),(1,.cl fN [.ptr 0 0]),(7,.v (.int .i64 (l.length:Int))),(8,.v (.int .i64 (i:Int)))],[some (.box [.cl f []])]⟩) (λi=>∀ j (hj:j<l.length),j<i→(!m l[j])=false) ?_ (by intro j hj h;omega) ?_ ?_
 ·simp only [go_sem]
 ·intro i hi hJ;have g0:(l.map Id.A)[i]?=some [.v (.int .i64 l[i].a),.v (.int .i64 l[i].b),.v (.int .u64 l[i].c)]:=aP _ l i hi;simp only [go_sem,aL,aT hi,hi,g0,Id.A_def];refine aI [0] (aA _) (by decide) (by simp) rfl rfl (XS f m l[i] (h _ (jY hi))) ?_;rintro r T' ⟨rfl,rfl⟩
  cases hm:m l[i] with
  | true =>
   simp only [go_sem,aG (show i<9223372036854775807 by omega)];intro j hj hji;rcases bY j i with h1 | h1
   ·exact hJ j hj h1
   ·obtain rfl:j=i:=by omega
    rw [hm];rfl
  | false =>
   simp only [go_sem];rw [uC hi hJ (by rw [hm];rfl)]
 ·intro hJ;simp only [go_sem,aL,aX (cZ _)];rw [uB λj hj=>hJ j hj hj]
def Z0 (f:Nat) (m:Id→Bool) (l:List Id) (hl:l.length<9223372036854775807) (h:∀ x∈l,aC PQ G f [.ag x.A] [] λr T=>r=.v (.bool (m x))∧T=[]) :
  aC PQ G dF [ids l,.cl fN [.ptr 0 0]] [some (.box [.cl f []])] λr T=>r=.v (.bool (l.any λx=>!m x))∧T=[some (.box [.cl f []])]:=by
 refine aF lH (by decide) ?_;simp only [go_sem];refine aI [0] (aA _) (by decide) (by simp) rfl rfl (Zz f m l hl h) ?_;rintro r T' ⟨rfl,rfl⟩;simp only [go_sem,ge_iff_le,B3]
def Z1 (f:Nat) (m:Id→Bool) (l:List Id) (hl:l.length<9223372036854775807) (h:∀ x∈l,aC PQ G f [.ag x.A] [] λr T=>r=.v (.bool (m x))∧T=[]) :
  aC PQ G mN [ids l,.cl f []] [] λr T=>r=.v (.bool (l.all m))∧T=[]:=by
 refine aF CZ (by decide) ?_;simp only [go_sem];refine aI [0] (aA _) (by decide) (by simp) rfl rfl (Z0 f m l hl h) ?_;rintro r T' ⟨rfl,rfl⟩;simp only [go_sem,EK]
def Re (f:Nat) (m:NodeM→Bool) (x:NodeM) (h:aC PQ G f [.ag x.A] [] λr T=>r=.v (.bool (m x))∧T=[]):aC PQ G gO [.ag x.A,.ptr 0 0] [some (.box [.cl f []])] λr T=>r=.v (.bool (!m x))∧T=[some (.box [.cl f []])]:=by
 refine aF B0 (by decide) ?_;simp only [go_sem,NodeM.A];refine aB (aA _) rfl h rfl ?_;simp only [go_sem]
def Th (f:Nat) (m:NodeM→Bool) (l:List NodeM) (hl:l.length<9223372036854775807) (h:∀ x∈l,aC PQ G f [.ag x.A] [] λr T=>r=.v (.bool (m x))∧T=[]) :
  aC PQ G eJ [.ls 2 (l.map NodeM.A),.cl gO [.ptr 0 0]] [some (.box [.cl f []])] λr T=>r=.v (.int .i64 (DK (λx=>!m x) l))∧T=[some (.box [.cl f []])]:=by
 refine aF nK (by decide) ?_;simp only [go_sem,aL];refine aO l.length (λi=>⟨1,[(0,.ls 2 (l.map NodeM.A)),(1,.cl gO [.ptr 0 0]),(7,.v (.int .i64 (l.length:Int))),(8,.v (.int .i64 (i:Int)))],[some (.box [.cl f []])]⟩) (λi=>∀ j (hj:j<l.length),j<i→(!m l[j])=false) ?_ (by intro j hj h;omega) ?_ ?_
 ·simp only [go_sem]
 ·intro i hi hJ;have g0:(l.map NodeM.A)[i]?=some [uv l[i].Pub,C0 l[i].Boxes]:=aP _ l i hi;simp only [go_sem,aL,aT hi,hi,g0,NodeM.A];refine aI [0] (aA _) (by decide) (by simp) rfl rfl (Re f m l[i] (h _ (jY hi))) ?_;rintro r T' ⟨rfl,rfl⟩
  cases hm:m l[i] with
  | true =>
   simp only [go_sem,aG (show i<9223372036854775807 by omega)];intro j hj hji;rcases bY j i with h1 | h1
   ·exact hJ j hj h1
   ·obtain rfl:j=i:=by omega
    rw [hm];rfl
  | false =>
   simp only [go_sem];rw [uC hi hJ (by rw [hm];rfl)]
 ·intro hJ;simp only [go_sem,aL,aX (cZ _)];rw [uB λj hj=>hJ j hj hj]
def Ti (f:Nat) (m:NodeM→Bool) (l:List NodeM) (hl:l.length<9223372036854775807) (h:∀ x∈l,aC PQ G f [.ag x.A] [] λr T=>r=.v (.bool (m x))∧T=[]) :
  aC PQ G dM [.ls 2 (l.map NodeM.A),.cl gO [.ptr 0 0]] [some (.box [.cl f []])] λr T=>r=.v (.bool (l.any λx=>!m x))∧T=[some (.box [.cl f []])]:=by
 refine aF mE (by decide) ?_;simp only [go_sem];refine aI [0] (aA _) (by decide) (by simp) rfl rfl (Th f m l hl h) ?_;rintro r T' ⟨rfl,rfl⟩;simp only [go_sem,ge_iff_le,B3]
def Ll (f:Nat) (m:NodeM→Bool) (l:List NodeM) (hl:l.length<9223372036854775807) (h:∀ x∈l,aC PQ G f [.ag x.A] [] λr T=>r=.v (.bool (m x))∧T=[]) :
  aC PQ G iU [.ls 2 (l.map NodeM.A),.cl f []] [] λr T=>r=.v (.bool (l.all m))∧T=[]:=by
 refine aF DG (by decide) ?_;simp only [go_sem];refine aI [0] (aA _) (by decide) (by simp) rfl rfl (Ti f m l hl h) ?_;rintro r T' ⟨rfl,rfl⟩;simp only [go_sem,EK]
def Rf (f:Nat) (m:SealM→Bool) (x:SealM) (h:aC PQ G f [.ag x.A] [] λr T=>r=.v (.bool (m x))∧T=[]):aC PQ G fB [.ag x.A,.ptr 0 0] [some (.box [.cl f []])] λr T=>r=.v (.bool (!m x))∧T=[some (.box [.cl f []])]:=by
 refine aF AQ (by decide) ?_;simp only [go_sem,SealM.A];refine aB (aA _) rfl h rfl ?_;simp only [go_sem]
def Tj (f:Nat) (m:SealM→Bool) (l:List SealM) (hl:l.length<9223372036854775807) (h:∀ x∈l,aC PQ G f [.ag x.A] [] λr T=>r=.v (.bool (m x))∧T=[]) :
  aC PQ G dJ [.ls 4 (l.map SealM.A),.cl fB [.ptr 0 0]] [some (.box [.cl f []])] λr T=>r=.v (.int .i64 (DK (λx=>!m x) l))∧T=[some (.box [.cl f []])]:=by
 refine aF lU (by decide) ?_;simp only [go_sem,aL];refine aO l.length (λi=>⟨1,[(0,.ls 4 (l.map SealM.A)),(1,.cl fB [.ptr 0 0]),(7,.v (.int .i64 (l.length:Int))),(8,.v (.int .i64 (i:Int)))],[some (.box [.cl f []])]⟩) (λi=>∀ j (hj:j<l.length),j<i→(!m l[j])=false) ?_ (by intro j hj h;omega) ?_ ?_
 ·simp only [go_sem]
 ·intro i hi hJ;have g0:(l.map SealM.A)[i]?=some [.v (.int .i64 l[i].Of.a),.v (.int .i64 l[i].Of.b),.v (.int .u64 l[i].Of.c),.ls 1 (bl l[i].Body)]:=aP _ l i hi;simp only [go_sem,aL,aT hi,hi,g0,SealM.A];refine aI [0] (aA _) (by decide) (by simp) rfl rfl (Rf f m l[i] (h _ (jY hi))) ?_;rintro r T' ⟨rfl,rfl⟩
  cases hm:m l[i] with
  | true =>
   simp only [go_sem,aG (show i<9223372036854775807 by omega)];intro j hj hji;rcases bY j i with h1 | h1
   ·exact hJ j hj h1
   ·obtain rfl:j=i:=by omega
    rw [hm];rfl
  | false =>
   simp only [go_sem];rw [uC hi hJ (by rw [hm];rfl)]
 ·intro hJ;simp only [go_sem,aL,aX (cZ _)];rw [uB λj hj=>hJ j hj hj]
def Tk (f:Nat) (m:SealM→Bool) (l:List SealM) (hl:l.length<9223372036854775807) (h:∀ x∈l,aC PQ G f [.ag x.A] [] λr T=>r=.v (.bool (m x))∧T=[]) :
  aC PQ G cU [.ls 4 (l.map SealM.A),.cl fB [.ptr 0 0]] [some (.box [.cl f []])] λr T=>r=.v (.bool (l.any λx=>!m x))∧T=[some (.box [.cl f []])]:=by
 refine aF kW (by decide) ?_;simp only [go_sem];refine aI [0] (aA _) (by decide) (by simp) rfl rfl (Tj f m l hl h) ?_;rintro r T' ⟨rfl,rfl⟩;simp only [go_sem,ge_iff_le,B3]
def Lm (f:Nat) (m:SealM→Bool) (l:List SealM) (hl:l.length<9223372036854775807) (h:∀ x∈l,aC PQ G f [.ag x.A] [] λr T=>r=.v (.bool (m x))∧T=[]) :
  aC PQ G gN [.ls 4 (l.map SealM.A),.cl f []] [] λr T=>r=.v (.bool (l.all m))∧T=[]:=by
 refine aF Bz (by decide) ?_;simp only [go_sem];refine aI [0] (aA _) (by decide) (by simp) rfl rfl (Tk f m l hl h) ?_;rintro r T' ⟨rfl,rfl⟩;simp only [go_sem,EK]
end
end
end Hud
