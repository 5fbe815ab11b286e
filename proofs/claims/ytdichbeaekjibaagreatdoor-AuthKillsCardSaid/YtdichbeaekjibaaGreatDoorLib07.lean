import Derived.Test.YtdichbeaekjibaaGreatDoorLib06
set_option linter.all false
namespace Hud
open Go
section
section
variable {G:Nat→Option (List AV)}
set_option maxHeartbeats 2000000
def pN (n lo hi:Int):aC PQ G bC [iv n,iv lo,iv hi] [] λr T=>r=.v (.bool (lD n lo hi))∧T=[]:=by
 refine aD SV (by decide) ?_;unfold lD;cases h:decide (lo≤n)<;>simp only [go_sem,ge_iff_le,h,kN,kC]
def yH (n:Nat):aC PQ G gP [uv n] [] λr T=>r=.v (.bool (Eu n))∧T=[]:=by
 refine aD Ka (by decide) ?_;unfold Eu;cases h:decide ((1:Int)≤(n:Int))<;>simp only [go_sem,ge_iff_le,h,kN,kC]
def I9 (n:Int):aC PQ G BP [.v (.int .u64 n)] [] λr T=>r=.v (.bool (okM n))∧T=[]:=by
 refine aD SW (by decide) ?_;unfold okM;simp only [go_sem]
def BV (x:Id):aC PQ G dJ [.ag x.A] [] λr T=>r=.v (.bool (gN x))∧T=[]:=by
 refine aD MB (by decide) ?_;unfold gN;simp only [go_sem,Id.A_def];refine aB (aA _) rfl (pN x.a 1 12) rfl ?_;cases h1:lD x.a 1 12
 ·simp only [go_sem,kC]
 simp only [go_sem];refine aB (aA _) rfl (pN x.b 1 2147483647) rfl ?_;cases h2:lD x.b 1 2147483647
 ·simp only [go_sem,kC,kN]
 simp only [go_sem];refine aB (aA _) rfl (I9 x.c) rfl ?_;simp only [go_sem,kN]
def Cx (n lo hi:Int):aC PQ G cM [iv n,iv lo,iv hi] [] λr T=>r=.v (.bool (lD n lo hi))∧T=[]:=by
 refine aD QR (by decide) ?_;unfold lD;cases h:decide (lo≤n)<;>simp only [go_sem,ge_iff_le,h,kN,kC]
def BW (n:Nat):aC PQ G iJ [uv n] [] λr T=>r=.v (.bool (Eu n))∧T=[]:=by
 refine aD IL (by decide) ?_;unfold Eu;cases h:decide ((1:Int)≤(n:Int))<;>simp only [go_sem,ge_iff_le,h,kN,kC]
def Ke (n:Int):aC PQ G tS [.v (.int .u64 n)] [] λr T=>r=.v (.bool (okM n))∧T=[]:=by
 refine aD QS (by decide) ?_;unfold okM;simp only [go_sem]
def Cy (x:Id):aC PQ G gQ [.ag x.A] [] λr T=>r=.v (.bool (gN x))∧T=[]:=by
 refine aD KU (by decide) ?_;unfold gN;simp only [go_sem,Id.A_def];refine aB (aA _) rfl (Cx x.a 1 12) rfl ?_;cases h1:lD x.a 1 12
 ·simp only [go_sem,kC]
 simp only [go_sem];refine aB (aA _) rfl (Cx x.b 1 2147483647) rfl ?_;cases h2:lD x.b 1 2147483647
 ·simp only [go_sem,kC,kN]
 simp only [go_sem];refine aB (aA _) rfl (Ke x.c) rfl ?_;simp only [go_sem,kN]
def Kf (b:BoxM):aC PQ G sM [.ag b.A] [] λr T=>r=.v (.bool (sI b))∧T=[]:=by
 refine aD MC (by decide) ?_;unfold sI BoxM.A;simp only [go_sem];refine aB (aA _) rfl (yH b.To) rfl ?_;cases h1:Eu b.To
 ·simp only [go_sem,kC]
 simp only [go_sem];refine aB (aA _) rfl (yH b.Eph) rfl ?_;cases h2:Eu b.Eph
 ·simp only [go_sem,kC,kN]
 simp only [go_sem];refine aB (aA _) rfl (I9 (b.Body:Int)) rfl ?_;cases h3:okM (b.Body:Int)
 ·simp only [go_sem,kC,kN]
 simp only [go_sem];refine aB (aA _) rfl (I9 (b.Tag:Int)) rfl ?_;simp only [go_sem,kN]
end
end
section
def MP (D:List (Int×Bool)):AObj:=.map false (D.map λe=>[.int .i64 e.1]) (D.map λe=>.v (.bool e.2)) (List.range D.length) D.length
abbrev aCU (m:Nat) (e:Int×Nat×Bool):HOper:=⟨none,.mup false [.int .i64] (.tmp m) (.const (.int .i64 e.1)) (.tmp e.2.1),none⟩
def QT {k:Int}:∀ (D:List (Int×Bool)) (i:Nat),k∉D.map (·.1)→mK [.int .i64] [.int .i64 k] (D.map λe=>[.int .i64 e.1]) i=some none
 | [],_,_=>rfl
 | e::D,i,h=>by
  simp only [fE,jB,not_or] at h;have h1:(k==e.1)=false:=by simpa using h.1
  simp only [fE,mK,oU,and_self,if_true,h1,kC];exact QT D (i+1) h.2
def YZ {T:aH} {i:Nat} (hi:i<T.length) (o:AObj):bZ (T.set i (some o)) i=some o:=by
 grind [bZ]
def aAJ (D:List (Int×Bool)) (e:Int×Bool):AObj.map false ((D.map λe=>[.int .i64 e.1])++[[.int .i64 e.1]]) ((D.map λe=>AV.v (.bool e.2))++[.v (.bool e.2)]) (List.range D.length++[D.length]) (D.length+1)=MP (D++[e]):=by
 simp only [MP,jA,fE,mE,gK,wJ,jJ,qT,Pe]
def Uc {T:aH} {i:Nat} (hi:i<T.length) {ev:Operand→AV} {m:Nat} {D:List (Int×Bool)} {e:Int×Nat×Bool} (hm:ev (.tmp m)=.mp i) (hk:ev (.const (.int .i64 e.1))=.v (.int .i64 e.1)) (hv:ev (.tmp e.2.1)=.v (.bool e.2.2)) (hn:e.1∉D.map (·.1)) :
  bO (T.set i (some (MP D))) ev (.mup false [.int .i64] (.tmp m) (.const (.int .i64 e.1)) (.tmp e.2.1))=some (.v undef,T.set i (some (MP (D++[(e.1,e.2.2)])))):=by
 have h1:IB false [.int .i64] (.v (.int .i64 e.1))=some [.int .i64 e.1]:=by simp [IB,oU]
 simp only [bO,hm,YZ hi,hk,hv,h1];simp only [MP,if_true,QT D 0 hn,List.set_set];rw [←MP,←aAJ D (e.1,e.2.2)]
def ET {α:Type}:∀ (l:List α) (j:Nat) (h:j<l.length),(l[j]::l.eraseIdx j).Perm l
 | x::l,0,_=>by simp
 | x::l,j+1,h=>by
  simp only [List.getElem_cons_succ,aBZ];exact (List.Perm.swap _ _ _).trans ((ET l j (by simpa using h)).cons x)
def Kg {P:Program} {G:Nat→Option (List AV)} {chk:List HOper} {r:Nat} {s:List (Nat×AV)} {T0:aH} {i m:Nat} {K:St→Prop} (hi:i<T0.length) (hm:aP s m=.mp i) (hc:∀ X,lT G ⟨r,s,T0.set i (some (MP X))⟩ chk) :
  ∀ (n:Nat) (l:List (Int×Nat×Bool)) (D:List (Int×Bool)),l.length=n→(∀ e∈l,aP s e.2.1=.v (.bool e.2.2))→(D.map (·.1)++l.map (·.1)).Nodup →
   (∀ X,X.Perm (D++l.map λe=>(e.1,e.2.2))→K ⟨r,s,T0.set i (some (MP X))⟩)→Fe P G chk n (l.map (aCU m)) ⟨r,s,T0.set i (some (MP D))⟩ K
 | 0,l,D,hl,_,_,hK=>by
  have:l=[]:=H7 hl;subst this;exact hK D (by simp)
 | n+1,l,D,hl,hv,hn,hK=>by
  intro j o ho;rw [lO] at ho
  cases hj:l[j]? with
  | none=>rw [hj] at ho;simp at ho
  | some e =>
   rw [hj] at ho;simp only [lA,Option.some.injEq] at ho;subst ho;obtain ⟨hjl,hje⟩:=vE.1 hj;have hel:e∈l:=by grind
   have hp:(e::l.eraseIdx j).Perm l:=by
    rw [←hje];exact ET l j hjl
   have hnD:e.1∉D.map (·.1):=λh=>(H9.1 hn).2.2 _ h _ (cZ.2 ⟨e,hel,rfl⟩) rfl;have hstep:=Uc (T:=T0) hi (ev:=cQ G s) (m:=m) (D:=D) (e:=e) (by simpa [cQ] using hm) rfl (by simpa [cQ] using hv e hel) hnD;have hmap:(l.map (aCU m)).eraseIdx j=(l.eraseIdx j).map (aCU m):=zK _ l j;simp only [dM,rV,hstep,dH];refine ⟨hc _,?_⟩;rw [hmap];refine Kg hi hm hc n (l.eraseIdx j) (D++[(e.1,e.2.2)]) (by rw [XX hjl];omega) (λx hx=>hv x (List.mem_of_mem_eraseIdx hx)) ?_ λX hX=>hK X (hX.trans ?_)
   ·refine (List.Perm.nodup_iff ?_).2 hn;rw [jA,jI];refine Ty _ ?_;have:=hp.map (·.1);simpa using this
   ·rw [jI];refine Ty _ ?_;have:=hp.map λe:Int×Nat×Bool=>(e.1,e.2.2)
    simpa using this
def aC6 {T:aH} {i j since la:Nat} {seen:List Nat} {X:List (Int×Bool)} {K:AV→aH→Prop} (hT:bZ T i=some (.mit (some j) since seen la)) (hM:bZ T j=some (MP X)) (h1:since≤la) (h2:X.length≤since)
  (hend:(∀ b,b<X.length→b∈seen)→K (.v (.tuple #[.bool false])) T)
  (hgo:∀ b (h:b<X.length),b∉seen→K (.tup [.v (.bool true),.v (.int .i64 X[b].1),.v (.bool X[b].2)]) (T.set i (some (.mit (some j) since (seen++[b]) X.length)))):@aCD T (.ptr i 0) ⟨K⟩:=by
 simp only [aCD,hT,hM,MP];refine ⟨h1,λb hb=>AH (sH.1 hb) h2,λh=>hend λb hb=>h b (sH.2 hb),λe k v b hk hv hb hs=>?_⟩;rw [lO] at hk hv
 cases he:X[e]? with
 | none=>rw [he] at hk;simp at hk
 | some x =>
  obtain ⟨hel,hex⟩:=vE.1 he;rw [he] at hk hv;simp only [lA,Option.some.injEq] at hk hv;rw [Xk hel] at hb;simp only [Option.some.injEq] at hb;subst hb;have:=hgo e hel hs;rw [hex] at this;rw [←hk,←hv];exact this
def zT {n b:Nat} (h:b<n):(List.range n).findIdx? (· == b)=some b:=by
 grind [List.findIdx?_eq_some_iff_getElem]
def Ud (a:Nat) (e:Int×Bool):Nat:=if e.2 then a ||| e.1.toNat else a
def Ya (a:Nat) (x y:Int×Bool):Ud (Ud a x) y=Ud (Ud a y) x:=by
 grind [Ud,Bool.or_assoc]
def oI (X:List (Int×Bool)):Nat:=X.foldl Ud 0
def Kh {X Y:List (Int×Bool)} (h:X.Perm Y):oI X=oI Y:=h.foldl_eq' (λx _ y _ z=>Ya z x y) 0
def F9 (X:List (Int×Bool)) (seen:List Nat):List (Int×Bool):=seen.map λb=>X.getD b (0,false)
def aAK {X:List (Int×Bool)} {seen:List Nat} (hn:seen.Nodup) (hs:∀ b∈seen,b<X.length) (ha:∀ b,b<X.length→b∈seen):(F9 X seen).Perm X:=by
 have h1:seen.Perm (List.range X.length):=(aBT hn List.nodup_range).2 λb=>by
  grind
 have h2:F9 X (List.range X.length)=X:=by
  unfold F9;refine Pm (by simp) λi h1 h2=>?_;simp_all
 have:=h1.map λb=>X.getD b (0,false);rwa [show (List.range X.length).map (λb=>X.getD b (0,false))=X from h2] at this
def aCV {P:Program} {G:Nat→Option (List AV)} {chk ops:List HOper} {next:HD} {st:St} {K:St→Prop} {n:Nat} (hn:ops.length=n) (h:Fe P G chk n ops st λs=>@Lz P G next s ⟨K⟩):@Lz P G (.perm chk ops next) st ⟨K⟩:=by
 subst hn;exact h
def Yb (a b:Nat) (ha:a<65536) (hb:b<65536):bM .or (.int .i64 (a:Int)) (.int .i64 (b:Int))=some (.int .i64 ((a ||| b:Nat):Int)):=by
 have hc:a ||| b<65536:=Ph (n:=16) ha hb;have h1:(BitVec.ofInt IntKind.i64.bits (a:Int) ||| BitVec.ofInt IntKind.i64.bits (b:Int)).toNat=a ||| b:=by
  have ea:(BitVec.ofInt 64 (a:Int)).toNat=a:=by simp_all;omega
  have eb:(BitVec.ofInt 64 (b:Int)).toNat=b:=by simp_all;omega
  show (BitVec.ofInt 64 (a:Int) ||| BitVec.ofInt 64 (b:Int)).toNat=a ||| b;grind
 simp only [bM,if_true,h1];rw [bF (by omega) (by omega)]
def aCW {a:Nat} {e:Int×Bool} (ha:a<65536) (he:e.1.toNat<65536):Ud a e<65536:=by
 unfold Ud;split
 ·exact Ph (n:=16) ha he
 ·exact ha
def SX:∀ (l:List (Int×Bool)) (a:Nat),a<65536→(∀ e∈l,e.1.toNat<65536)→l.foldl Ud a<65536
 | [],_,h,_=>h
 | e::l,a,h,hl=>SX l _ (aCW h (hl e Gk)) λx hx=>hl x (H8 _ hx)
def tU:∀ {M L:List Nat},M.Nodup→(∀ y∈M,y∈L)→M.length≤L.length
 | [],_,_,_=>B8 _
 | y::M,L,hn,h=>by
  rw [IA] at hn;have h1:=tU (M:=M) (L:=L.erase y) hn.2 λz hz=>(List.mem_erase_of_ne (λe:z=y=>hn.1 (by rw [e] at hz;exact hz))).2 (h z (H8 _ hz));grind
def WM (a b:Nat) (ha:a<65536) (hb:b<65536):bM .and (.int .i64 (a:Int)) (.int .i64 (b:Int))=some (.int .i64 ((a &&& b:Nat):Int)):=by
 have hc:a &&& b≤a:=Xr;have h1:(BitVec.ofInt IntKind.i64.bits (a:Int) &&& BitVec.ofInt IntKind.i64.bits (b:Int)).toNat=a &&& b:=by
  have ea:(BitVec.ofInt 64 (a:Int)).toNat=a:=by simp_all;omega
  have eb:(BitVec.ofInt 64 (b:Int)).toNat=b:=by simp_all;omega
  show (BitVec.ofInt 64 (a:Int) &&& BitVec.ofInt 64 (b:Int)).toNat=a &&& b;grind
 simp only [bM,if_true,h1];rw [bF (by omega) (by omega)]
end
section
def zV {α:Type} (p:α→Bool) (l:List α):Int:=match l.findIdx? p with | some i=>(i:Int) | none=>-1
def qN {α:Type} {p:α→Bool} {l:List α} (h:∀ j (hj:j<l.length),p l[j]=false):zV p l=-1:=by
 unfold zV;rw [aBW.2 λx hx=>by obtain ⟨j,hj,rfl⟩:=AG hx;simp [h j hj]]
def qO {α:Type} {p:α→Bool} {l:List α} {i:Nat} (hi:i<l.length) (h:∀ j (hj:j<l.length),j<i→p l[j]=false) (h1:p l[i]=true):zV p l=(i:Int):=by
 unfold zV;rw [aAq.2 ⟨hi,h1,λj hj=>by simp [h j (by omega) hj]⟩]
def yI {α:Type} (p:α→Bool) (l:List α):decide ((0:Int)≤zV p l)=l.any p:=by
 grind [zV]
def nI:List Nat:=[0,2064,32793,21,16,12,480,640,512,31744,8704,8705,512,33299]
def sC (k:Int):Nat:=nI.getD k.toNat 0
def kL (a b:Nat):Nat:=(BitVec.ofNat 64 a &&& ~~~(BitVec.ofNat 64 b)).toNat
def Cz (o:OpM):List (Int×Bool) :=
  [(1,lD o.Device (if o.Kind=3 then 0 else 1) 12),(2,lD o.Old 1 12),(4,if o.Kind=3 then (lD o.Member 1 8&&(o.Device==0))||((o.Member==0)&&(o.Device !=0)) else lD o.Member 1 8),(8,lD o.Role 1 3),(64,lD o.N 0 2147483647),(4096,lD o.Wait 0 2147483647),
   (2048,lD o.Need (if o.Kind=1 then 0 else 1) (if o.Kind=1 then 20 else o.Guards.length)),(32,gN o.Epoch),(512,gN o.Of),(16384,Eu o.Pub)]
def MD (h:Nat) (X:List (Int×Bool)):Bool:=X.all λe=>(h &&& e.1.toNat==0)||e.2
def C0 (n:NodeM):Bool:=Eu n.Pub&&n.Boxes.all sI
def C1 (x:SealM):Bool:=gN x.Of
def uO (n:Int):Bool:=lD n 1 12
def OU (n:Nat):Bool:=okM (n:Int)
def zW (o:OpM) (h:Nat):Bool :=
 (lD o.By 1 12&&lD o.Seq 1 2147483647&&lD o.At 0 2147483647)&&(MD h (Cz o)&&(o.Guards.all uO&&(o.Refs.all OU&&(o.Past.all gN&&(o.Path.all C0&&(o.Boxes.all sI&&o.Hist.all C1))))))
def Bz (o:OpM):Bool :=
 (decide ((o.Past.length:Int)>12)||decide ((o.Path.length:Int)>5)||!(o.Path.all λn=>decide ((n.Boxes.length:Int)≤12))||decide ((o.Body.length:Int)>208)||decide ((o.Refs.length:Int)>8)||decide ((o.Hist.length:Int)>20)||!(o.Hist.all λx=>decide ((x.Body.length:Int)≤208))||decide ((o.Guards.length:Int)>6)) ||
 (if o.Kind==7 then !lD (o.Body.length:Int) 1 20 else if o.Kind==9 then (o.Boxes.length:Int)!=(o.Guards.length:Int) else if o.Kind==10 then !lD (o.Boxes.length:Int) 1 6 else if o.Kind==11 then (o.Boxes.length:Int)!=1 else false)
def kU {α:Type} (lt:α→α→Bool):List α→Bool
 | x::y::l=>lt x y&&kU lt (y::l)
 | _=>true
def Yc (o:OpM):Bool:=kU Id.lt o.Past&&kU (λa b:Int=>decide (a<b)) o.Guards
def rK (o:OpM):Int :=
 if o.Kind<1∨13<o.Kind then 1
 else if kL (oI (gO o)) (sC o.Kind)≠0 then 1
 else if zW o (sC o.Kind)=false then 8
 else if Bz o then 2
 else if Yc o=false then 6
 else if decide (o.Past.length=0)≠decide (o.Kind=1) then 10 else 0
def GA (k:Int):Bool:=k==1||k==2||k==3||k==4||k==13
def NB (o:OpM):Bool :=
 let k:=o.Kind
 let OY:=k==7||k==8||k==12||k==10||k==11||k==13
 !(o.Device !=0&&k !=2&&k !=3&&k !=11&&k !=13) &&
 !((o.Old !=0&&k !=13)||(o.Member !=0&&k !=3&&k !=5)||(o.Role !=0&&k !=2&&k !=5)) &&
 !(decide ((o.Path.length:Int)>0)&&!GA k) &&
 !(k !=6&&((!(o.Epoch.a==0&&(o.Epoch.b==0&&o.Epoch.c==0)))||o.N !=0||decide ((o.Refs.length:Int)>0))) &&
 !((decide ((o.Body.length:Int)>0)&&k !=6&&k !=7)||((!(o.Of.a==0&&(o.Of.b==0&&o.Of.c==0)))&&!OY)) &&
 !(k !=9&&(decide ((o.Guards.length:Int)>0)||o.Wait !=0||(o.Pub:Int)!=0)) &&
 !((o.Need !=0&&k !=9&&k !=1)||(decide ((o.Boxes.length:Int)>0)&&k !=9&&k !=10&&k !=11)) &&
 (((o.Hist.length:Int)==0)||k==2||k==13)
def dU (o:OpM):Bool :=
  (lD o.By 1 12&&lD o.Seq 1 2147483647&&lD o.At 0 2147483647) &&
  (if o.Kind=1 then lD o.Need 0 20
   else if o.Kind=2 then lD o.Device 1 12&&lD o.Role 1 3
   else if o.Kind=3 then (lD o.Device 1 12&&o.Member==0)||(o.Device==0&&lD o.Member 1 8)
   else if o.Kind=5 then lD o.Member 1 8&&lD o.Role 1 3
   else if o.Kind=6 then gN o.Epoch&&lD o.N 0 2147483647
   else if o.Kind=9 then lD o.Need 1 o.Guards.length&&lD o.Wait 0 2147483647&&Eu o.Pub
   else if o.Kind=11 then gN o.Of&&lD o.Device 1 12
   else if o.Kind=13 then gN o.Of&&lD o.Device 1 12&&lD o.Old 1 12
   else if o.Kind=4 then true
   else gN o.Of)
def qB (o:OpM):Bool:=o.Guards.all uO&&(o.Refs.all OU&&(o.Past.all gN&&(o.Path.all C0&&(o.Hist.all C1&&o.Boxes.all sI))))
def fS (o:OpM):Int :=
 if o.Kind<1∨13<o.Kind then 1
 else if NB o=false then 1
 else if (dU o&&qB o)=false then 8
 else if Bz o then 2
 else if kU Id.lt o.Past=false then 6
 else if kU (λa b:Int=>decide (a<b)) o.Guards=false then 6
 else if decide (o.Past.length=0)≠decide (o.Kind=1) then 10 else 0
def EU (i:Nat):∀ (X:List (Int×Bool)) (a:Nat),(X.foldl Ud a).testBit i=(a.testBit i||X.any λe=>e.2&&e.1.toNat.testBit i)
 | [],a=>by simp
 | e::X,a=>by
  simp only [Gm,List.any_cons,EU i X];grind [Ud,Bool.or_assoc]
def QU {a b:Nat} (ha:a<65536) (hb:b<65536):kL a b=0↔∀ i,i<16→a.testBit i=true→b.testBit i=true:=by
 have hx:∀ i,(kL a b).testBit i=(decide (i<64)&&(a.testBit i&&!b.testBit i)):=λi=>by
  grind [kL,BitVec.testBit_toNat,BitVec.getLsbD_ofNat]
 constructor
 ·grind
 ·intro h;refine Nat.eq_of_testBit_eq λi=>?_;rw [hx,Xd];rcases gM i 16 with h1 | h1
  ·simp_all
  ·rw [Nat.testBit_lt_two_pow (AH ha (B7 (by decide) (Nz (by decide) h1)))];simp
def Ki (o:OpM):oI (gO o)<65536:=SX _ 0 (by decide) λe he=>by
 simp only [gO,jB,qS,or_false] at he;rcases he with rfl | rfl | rfl | rfl | rfl | rfl | rfl | rfl | rfl | rfl | rfl | rfl | rfl | rfl | rfl | rfl<;>simp
def SY:List Nat:=[0,1,2,3,4,5,6,7,8,9,10,11,12,13,14,15]
def OV (k:Int):sC k<65536:=by
 unfold sC nI;rcases gM k.toNat 14 with h | h
 ·generalize k.toNat=n at *
  have:∀ n,n<14→[0,2064,32793,21,16,12,480,640,512,31744,8704,8705,512,33299].getD n 0<65536:=by decide
  exact this n h
 ·rw [uW,oW (by simpa using h)];decide
def C2 (o:OpM):List (Bool×Nat):=((gO o).map (·.2)).zip SY
def QV (o:OpM):gO o=(C2 o).map λe=>(((2^e.2:Nat):Int),e.1):=rfl
def OW (o:OpM) (m:Nat) (hm:m<65536):(kL (oI (gO o)) m=0)↔(C2 o).all (λe=>!e.1||m.testBit e.2)=true:=by
 rw [QU (Ki o) hm];have h1:∀ i,(oI (gO o)).testBit i=(C2 o).any λe=>e.1&&decide (e.2=i):=λi=>by
  unfold oI;rw [EU,QV,Xd,FY,List.any_map];congr 1;funext e;simp only [Function.comp,Lp,Nat.testBit_two_pow]
 have h2:∀ e∈C2 o,e.2<16:=λe he=>by
  have:=(List.of_mem_zip (show (e.1,e.2)∈_ from he)).2;simp only [SY,jB,qS,or_false] at this;omega
 grind
def Ue {k:Int} (h1:¬k<1) (h2:¬13<k):k=1∨k=2∨k=3∨k=4∨k=5∨k=6∨k=7∨k=8∨k=9∨k=10∨k=11∨k=12∨k=13:=by omega
def aCX (o:OpM):((o.Hist.length:Int)==0)=!(decide ((o.Hist.length:Int)>0)):=by
 grind
def OX (o:OpM) (h1:¬o.Kind<1) (h2:¬13<o.Kind):(kL (oI (gO o)) (sC o.Kind)=0)↔NB o=true:=by
 rw [OW o _ (OV _)];unfold NB;rw [aCX];simp only [C2,gO,SY,fE,mE,List.zip_cons_cons,List.zip_nil_right,List.all_cons,UC,AI];generalize (o.Device !=0)=b0;generalize (o.Old !=0)=b1;generalize (o.Member !=0)=b2;generalize (o.Role !=0)=b3;generalize (decide ((o.Path.length:Int)>0))=b4;generalize (!(o.Epoch.a==0&&(o.Epoch.b==0&&o.Epoch.c==0)))=b5;generalize (o.N !=0)=b6;generalize (decide ((o.Body.length:Int)>0))=b7;generalize (decide ((o.Refs.length:Int)>0))=b8;generalize (!(o.Of.a==0&&(o.Of.b==0&&o.Of.c==0)))=b9;generalize (decide ((o.Guards.length:Int)>0))=b10;generalize (o.Need !=0)=b11;generalize (o.Wait !=0)=b12;generalize (decide ((o.Boxes.length:Int)>0))=b13;generalize ((o.Pub:Int)!=0)=b14;generalize (decide ((o.Hist.length:Int)>0))=b15;rcases Ue h1 h2 with h | h | h | h | h | h | h | h | h | h | h | h | h<;>rw [h]
 all_goals
  simp only [GA,show ∀ a b:Int,(a==b)=decide (a=b) from λ_ _=>rfl]
  simp [sC,nI,Nat.testBit,Nat.shiftRight_eq_div_pow]
  try grind
def ME (o:OpM) (h1:¬o.Kind<1) (h2:¬13<o.Kind):zW o (sC o.Kind)=(dU o&&qB o):=by
 have hi:(o.Guards.all uO&&(o.Refs.all OU&&(o.Past.all gN&&(o.Path.all C0&&(o.Boxes.all sI&&o.Hist.all C1)))))=qB o:=by
  grind [qB]
 unfold zW dU;rw [hi,aBL (lD o.By 1 12&&lD o.Seq 1 2147483647&&lD o.At 0 2147483647)];congr 1;congr 1;unfold MD Cz;rcases Ue h1 h2 with h | h | h | h | h | h | h | h | h | h | h | h | h<;>rw [h]
 all_goals
  simp [sC,nI]
  try grind
 unfold lD;rw [rX];simp;omega
def wW (o:OpM):rK o=fS o:=by
 unfold rK fS;by_cases h0:o.Kind<1∨13<o.Kind
 ·omega
 rw [if_neg h0,if_neg h0];have h1:¬o.Kind<1:=λh=>h0 (.inl h);have h2:¬13<o.Kind:=λh=>h0 (.inr h);have hb:=OX o h1 h2;rw [ME o h1 h2];grind [Yc]
end
section
open W
def Kj:cF xY []=some ⟨15,[(2,none)],S [R0 2 1 [M (kc (.const (.pointer none)))],R 4 5 [0] [b (q2 [zS,.map none,zS] (c1 bU v0) (x (.mkm true))),J 3 v8],R0 9 5 [c2 iF (l (f 0 (y v3))) (kc (.func pC))],R 14 1 [3] [A 2 v3],.ret]⟩:=by kernel_rfl
def GB:HFun:=⟨14,[(4,none)],S [R0 4 1 [M z],R 6 2 [1] [c1 aR v1,J 5 v7],R 8 5 [0] [v5,q1 [.pointer none] v0,c2 cB t8 (x (.bmo pX 1 [zt 10]))],R 13 1 [5] [A 4 v5],.ret]⟩
def IQ:cF iI []=some GB:=by kernel_rfl
def oE:HFun:=⟨29,[(4,some (some 27)),(5,none)],S [R 5 1 [1] [J 3 (b t1),al zO,M F],D 9 6 [3,16,15,8] [l (f 1 (y v0)),L 3 t3,x (.lku true [.int .i64,.int .i64,.int .u64] z0 (zt 12) (zt 13) true),J 8 v14,J 15 (e 0 t8),e 1 t8,J 6 v15,v16],S [R 17 1 [7] [o v7],If 18 [0,6] (S [R0 19 1 [s 27 t4 (x (.bld zO [])),A 5 F],.ret])],R 20 9 [0,6] [s 27 t4 (c1 iQ (L 27 (f 0 (i 35 (l (f 2 (y v0))) v6)))),A 5 T],.ret]⟩
def oL:cF bE []=some oE:=by kernel_rfl
def fC:HFun:=⟨8,[(2,none)],S [R0 2 1 [M z],S [R0 3 1 [v0,x (.nilS false 1 (zt 3))],If 4 [0] (S [S [iz 2,ow 2 5],.ret])],S [R 5 3 [0] [A 2 (a 5 40 (x (.bsl 5 [] [] 0)) v0)],ow 2 5],.ret]⟩
def iG:cF bU [(2,none,5)]=some fC:=by kernel_rfl
def HA:cF pC []=some ⟨10,[(4,none)],S [R 4 1 [0,1] [J 2 (b t0),b t1,M w0],R 5 5 [2,3] [sb (l (f 0 t2)) (l (f 0 t3)),J 4 v9],.ret]⟩:=by kernel_rfl
def HB:cF iQ []=some ⟨72,[(2,some (some 27))],S [R 1 0 [0] [b t0,al zO],D 5 20 [] [l (f 4 t1),J 8 (l (f 14 t1)),J 11 (l (f 15 t1)),J 14 (l (f 19 t1)),J 17 (l (f 22 t1)),J 7 (K [zl 18 17,zf 17 1 22,zl 15 14,zf 14 1 19,zl 12 11,zf 11 1 15,zl 9 8,zf 8 1 14] (c1 aR t6)),J 20 (f 4 t1),J 10 (K [zf 20 1 4,zl 18 17,zf 17 1 22,zl 15 14,zf 14 1 19,zl 12 11,zf 11 1 15] (c1 dT t9)),J 13 (K [zf 20 1 4,zl 18 17,zf 17 1 22,zl 15 14,zf 14 1 19] (c1 dX (t 12))),J 16 (K [zf 20 1 4,zl 18 17,zf 17 1 22] (c1 dF (t 15))),J 19 (K [zf 20 1 4] (c1 cE (t 18))),s 1 (t 20) t7,J 21 (s 1 (f 14 t1) (t 10)),s 1 (f 15 t1) (t 13),s 1 (f 19 t1) (t 16),s 1 (f 22 t1) (t 19)],D 25 8 [] [l (f 9 t1),J 28 (l (f 24 t1)),J 27 (K [zl 29 28,zf 28 1 24] (c1 eZ (t 26))),J 31 (f 9 t1),J 30 (K [zf 31 1 9] (c1 dP (t 29))),s 1 (t 31) (t 27),J 32 (s 1 (f 24 t1) (t 30))],S [R0 33 2 [n (l (f 9 t1)),M w0],ra 0 36 (t 35) 37 [36,35] 51 (S [R0 38 1 [A 3 v36],D 39 12 [3] [l (f 9 t1),v3,K [zm 41 3,zl 40 39,zf 39 1 9] (c1 cE (l (f 1 (i 2 (l (f 9 t1)) v3)))),s 1 (f 1 (i 2 (t 40) (t 41))) (t 48)]])],S [R0 52 2 [n (l (f 24 t1)),M w0],ra 2 55 (t 54) 56 [55,54] 70 (S [R0 57 1 [A 4 (v 55)],D 58 12 [4] [l (f 24 t1),v4,K [zm 60 4,zl 59 58,zf 58 1 24] (c1 dT (l (f 3 (i 4 (l (f 24 t1)) v4)))),s 1 (f 3 (i 4 (t 59) (t 60))) (t 67)]])],R 71 1 [1] [s 27 t2 (L 27 t1)],.ret]⟩:=by kernel_rfl
def CD:cF lI []=some ⟨24,[(4,some (some 5)),(5,none)],S [R0 5 1 [J 4 (al zC),M F],S [R 8 3 [0] [n (l (f 0 (y v0))),M w0],ra 0 13 (t 12) 14 [11,13,12,1] 22 (S [R0 15 2 [L 5 (i 5 (t 11) (t 13)),J 7 (s 5 (al zC) (t 16))],R0 17 3 [eq (l (f 0 t7)) v1],Iz 20 [13,1,11,12] (S [R 21 1 [7] [s 5 t4 (L 5 t7),A 5 T],.ret]) [7]])],R0 23 1 [s 5 t4 (x (.bld zC [])),A 5 F],.ret]⟩:=by kernel_rfl
def BY:cF kJ []=some ⟨10,[(4,none)],S [R 4 1 [0,1] [J 2 (b t0),b t1,M z],R 5 5 [3,2] [c2 aU (c1 aR (l (f 4 t3))) (x (.clo cU [zt 2])),J 4 v9],.ret]⟩:=by kernel_rfl
def E7:cF uL []=some ⟨16,[],D 4 12 [0,1] [v0,qu v1 (w 64),y t4,B .or (l (x (.iadA (zt 7) (zt 6) 4 1))) (B .shl (u 1) (rm v1 (w 64))),y t4,s 1 (x (.iadA (zt 14) (zt 6) 4 1)) (t 13)]⟩:=by kernel_rfl
def D7:cF kO []=some ⟨20,[],S [R 3 0 [1] [b t1],i0 5,ra 0 5 (w 4) 6 [5,3,0] 19 (S [R0 7 1 [A 4 v5],D 8 11 [4] [v0,v4,y t8,l (x (.iadA (zt 10) (zt 9) 4 1)),v4,B .or (t 12) (l (x (.iadA (zt 3) (zt 13) 4 1))),y t8,s 1 (x (.iadA (zt 17) (zt 9) 4 1)) (t 16)]])]⟩:=by kernel_rfl
def pO:HFun:=⟨16,[(4,none)],S [R0 4 1 [M F],R 5 11 [0,1] [v0,qu v1 (w 64),y t5,eq (B .and (B .shr (l (x (.iadA (zt 8) (zt 7) 4 1))) (rm v1 (w 64))) (u 1)) (u 1),J 4 v15],.ret]⟩
def qC:cF jR []=some pO:=by kernel_rfl
def wX:HFun:=⟨28,[(6,none)],S [R 6 1 [0,1,2] [J 3 (b t0),b t1,b t2,M w0],i0 7,bw 0 (S [R0 9 3 [c2 wG (L 3 t4) (L 3 t5),J 8 v11],Ie 8 [7] (E0 [A 7 (w (-1))]) [] (S [R0 13 3 [c2 wG (L 3 t5) (L 3 t4),J 12 v15],If 12 [7] (E0 [A 7 w1])])]),D 16 12 [3,4,5,7] [l (f 0 t3),L 3 t4,J 20 (l (f 0 t3)),L 3 t5,J 25 v7,J 19 (K [zm 25 7,zv 22 3 5,zl 21 20,zf 20 3 0] (c2 kK (t 17) (t 18))),J 23 (K [zm 25 7] (c2 kK (t 21) (t 22))),K [zm 25 7] (c2 gZ (t 19) (t 23)),J 26 (A 6 (c1 rF (j2 [z0,z0] (t 24) (t 25))))],.ret]⟩
def CF:cF pX []=some wX:=by kernel_rfl
def wY:cF kR []=some ⟨5,[(2,none)],S [R0 2 1 [M z],R 3 2 [0] [c2 fA z v0,J 2 v4],.ret]⟩:=by kernel_rfl
def oM:cF eZ [(2,none,2)]=some ⟨8,[(2,none)],S [R0 2 1 [M z],S [R0 3 1 [v0,x (.nilS false 1 (zt 3))],If 4 [0] (S [S [iz 2,ow 2 2],.ret])],S [R 5 3 [0] [A 2 (a 2 32 (x (.bsl 2 [] [] 0)) v0)],ow 2 2],.ret]⟩:=by kernel_rfl
def mI:cF dP [(2,none,4)]=some ⟨8,[(2,none)],S [R0 2 1 [M z],S [R0 3 1 [v0,x (.nilS false 1 (zt 3))],If 4 [0] (S [S [iz 2,ow 2 4],.ret])],S [R 5 3 [0] [A 2 (a 4 48 (x (.bsl 4 [] [] 0)) v0)],ow 2 4],.ret]⟩:=by kernel_rfl
def zX:cF cU []=some ⟨16,[(3,none)],S [R 3 1 [0] [J 2 (b t0),M F],D 7 6 [1,2,4,14,13,6] [l (f 1 (y (l t1))),L 3 t2,x (.lku true [.int .i64,.int .i64,.int .u64] z0 (zt 10) (zt 11) true),J 6 v12,J 13 (e 0 t6),e 1 t6,J 4 v13,v14],R 15 1 [5] [A 3 v5],.ret]⟩:=by kernel_rfl
def uY:HFun:=⟨25,[(4,none)],S [R 4 1 [1] [J 3 (b t1),M w0],S [D 8 6 [3,15,14,7] [l (f 1 (y v0)),L 3 t3,x (.lku true [.int .i64,.int .i64,.int .u64] z0 (zt 11) (zt 12) true),J 7 v13,J 14 (e 0 t7),e 1 t7,J 5 v14,v15],R 0 0 [6] [A 16 t6],Iz 16 [] (S [R 17 8 [0,5] [A 4 (l (f 34 (i 35 (l (f 2 (y v0))) v5)))],.ret]) [0,5]],i0 4,.ret]⟩
def BZ:cF kK []=some uY:=by kernel_rfl
def oN:cF fA [(2,some 0,1)]=some ⟨13,[(4,none)],S [S [R 2 0 [0] [b t0,A 4 z],oc 2 0 1],S [R 0 0 [1] [A 6 t1],bw 0 (.rng (zt 6) [7] [2] (.seq (.reg [⟨some 5,.mov (zt 7),none⟩]) (.kill [7])) (.block 1 (.seq (.reg [⟨some 8,.ld none (zt 2),none⟩,⟨some 9,.mov (zt 5),none⟩,⟨some 10,.bsl 1 [zU] [(0,(1,zt 9))] 1,none⟩,⟨some 11,.app (zt 8) (zt 10) 1 8,none⟩,⟨none,.st 1 (zt 2) (zt 11),none⟩]) (.kill [2,5,11,10,9,8]))))],R 12 1 [2] [A 4 (l t2)],.ret]⟩:=by kernel_rfl
def lX:cF dL []=some ⟨9,[(4,none)],S [R0 4 1 [M F],R 5 4 [0,1] [ge (c2 eC v0 v1) w0,J 4 v8],.ret]⟩:=by kernel_rfl
def qV:cF gD []=some ⟨9,[(4,none)],S [R0 4 1 [M F],R 5 4 [0,1] [ge (c2 iL v0 v1) w0,J 4 v8],.ret]⟩:=by kernel_rfl
def cO:HFun:=⟨9,[(4,none)],S [R0 4 1 [M F],R 5 4 [0,1] [ge (c2 aW v0 v1) w0,J 4 v8],.ret]⟩
def eJ:cF aT []=some cO:=by kernel_rfl
def lB:cF cV []=some ⟨9,[(4,none)],S [R0 4 1 [M F],R 5 4 [0,1] [ge (c2 dR v0 v1) w0,J 4 v8],.ret]⟩:=by kernel_rfl
def jY:cF cH []=some ⟨9,[(4,none)],S [R0 4 1 [M F],R 5 4 [0,1] [ge (c2 cS v0 v1) w0,J 4 v8],.ret]⟩:=by kernel_rfl
def nJ:cF eC []=some ⟨19,[(4,none)],S [R0 4 1 [M w0],S [R0 6 1 [n v0,M w0],ra 0 8 t7 9 [8,7,0,1] 18 (S [R0 10 1 [A 5 v8],R0 11 5 [d1 v1 (L 4 (i 4 v0 v5))],Iz 16 [8,1,0,7] (S [R 17 1 [5] [A 4 v5],.ret]) [5]])],E0 [A 4 (w (-1))],.ret]⟩:=by kernel_rfl
def sO:cF iL []=some ⟨19,[(4,none)],S [R0 4 1 [M w0],S [R0 6 1 [n v0,M w0],ra 0 8 t7 9 [8,7,0,1] 18 (S [R0 10 1 [A 5 v8],R0 11 5 [d1 v1 (l (i 1 v0 v5))],Iz 16 [8,1,0,7] (S [R 17 1 [5] [A 4 v5],.ret]) [5]])],E0 [A 4 (w (-1))],.ret]⟩:=by kernel_rfl
def mJ:cF dR []=some ⟨19,[(4,none)],S [R0 4 1 [M w0],S [R0 6 1 [n v0,M w0],ra 0 8 t7 9 [8,7,0,1] 18 (S [R0 10 1 [A 5 v8],R0 11 5 [d1 v1 (L 2 (i 2 v0 v5))],Iz 16 [8,1,0,7] (S [R 17 1 [5] [A 4 v5],.ret]) [5]])],E0 [A 4 (w (-1))],.ret]⟩:=by kernel_rfl
def kV:cF cS []=some ⟨19,[(4,none)],S [R0 4 1 [M w0],S [R0 6 1 [n v0,M w0],ra 0 8 t7 9 [8,7,0,1] 18 (S [R0 10 1 [A 5 v8],R0 11 5 [d1 v1 (L 4 (i 4 v0 v5))],Iz 16 [8,1,0,7] (S [R 17 1 [5] [A 4 v5],.ret]) [5]])],E0 [A 4 (w (-1))],.ret]⟩:=by kernel_rfl
def uP:cF dT [(2,none,1)]=some ⟨8,[(2,none)],S [R0 2 1 [M z],S [R0 3 1 [v0,x (.nilS false 1 (zt 3))],If 4 [0] (S [S [iz 2,ow 2 1],.ret])],S [R 5 3 [0] [A 2 (a 1 1 (x (.bsl 1 [] [] 0)) v0)],ow 2 1],.ret]⟩:=by kernel_rfl
def wZ:cF dF [(2,none,1)]=some ⟨8,[(2,none)],S [R0 2 1 [M z],S [R0 3 1 [v0,x (.nilS false 1 (zt 3))],If 4 [0] (S [S [iz 2,ow 2 1],.ret])],S [R 5 3 [0] [A 2 (a 1 8 (x (.bsl 1 [] [] 0)) v0)],ow 2 1],.ret]⟩:=by kernel_rfl
def qD:cF cE [(2,none,4)]=some ⟨8,[(2,none)],S [R0 2 1 [M z],S [R0 3 1 [v0,x (.nilS false 1 (zt 3))],If 4 [0] (S [S [iz 2,ow 2 4],.ret])],S [R 5 3 [0] [A 2 (a 4 32 (x (.bsl 4 [] [] 0)) v0)],ow 2 4],.ret]⟩:=by kernel_rfl
def C3:cF rD []=some ⟨234,[(4,none)],S [R 4 1 [1] [J 3 (b t1),M w0],S [R0 23 2 [A 5 (c1 E4 (L 27 t3))],R0 25 1 [ne v5 w0],Iz 26 [3,0] (S [R 27 1 [5] [A 4 v5],.ret]) [5]],S [.regd (zq (zv 28 27 3) (zq (zv 30 27 3) (zA (zo 29 (.call (.func iQ) [zt 28])) [zv 30 27 3] (zA (zo 31 (.call (.func F5) [zt 30])) [] (zq (zo 32 (.bld zN [(0,(27,zt 29)),(27,(3,zt 31)),(34,(1,zw 1))])) (zA (zo 6 (.alloc zN)) [zo 32 (.bld zN [(0,(27,zt 29)),(27,(3,zt 31)),(34,(1,zw 1))])] (zA (⟨none,.st 35 (zt 6) (zt 32),none⟩) [] (.done true) .no) .no)) (zA (zo 6 (.alloc zN)) [zv 30 27 3] (zA (zo 31 (.call (.func F5) [zt 30])) [] (zq (zo 32 (.bld zN [(0,(27,zt 29)),(27,(3,zt 31)),(34,(1,zw 1))])) (zA (⟨none,.st 35 (zt 6) (zt 32),none⟩) [] (.done true) .no)) .no) .no)) (zA (zo 6 (.alloc zN)) [zv 30 27 3,zv 28 27 3] (zA (zo 29 (.call (.func iQ) [zt 28])) [zv 30 27 3] (zA (zo 31 (.call (.func F5) [zt 30])) [] (zq (zo 32 (.bld zN [(0,(27,zt 29)),(27,(3,zt 31)),(34,(1,zw 1))])) (zA (⟨none,.st 35 (zt 6) (zt 32),none⟩) [] (.done true) .no)) .no) .no) .no)))),.kill [32,31,30,29,28]],S [D 34 7 [7,42,41,33] [l (f 1 (y v0)),L 3 (f 27 t6),x (.lku true [.int .i64,.int .i64,.int .u64] z0 (zt 37) (zt 39) true),J 33 v40,J 41 (e 0 (t 33)),e 1 (t 33),A 7 (t 41),A 8 (t 42)],R 0 0 [8] [A 43 t8],If 43 [0,3,6] (S [E0 [A 4 (w 5)],.ret])],S [R0 44 5 [ge (n (l (f 2 (y v0)))) (w 200)],If 49 [0,3,6] (S [E0 [A 4 w3],.ret])],R 51 4 [56,55,50] [c2 lI v0 (l (f 0 t3)),J 50 (v 54),J 55 (e 0 (t 50)),e 1 (t 50),J 9 (s 5 (al zC) (t 55)),A 10 (t 56)],S [R 57 1 [10] [o v10],If 58 [9,3,0,6] (S [E0 [A 4 (w 17)],.ret])],S [R 59 3 [9] [o (c2 Ck (L 5 t9) (L 27 t3))],If 62 [3,0,6] (S [E0 [A 4 (w 12)],.ret])],S [R0 63 10 [N (eq (l (f 2 t3)) w1) (gt (n (l (f 2 (y v0)))) w0)],If 73 [0,3,6] (S [E0 [A 4 w1],.ret])],S [R0 74 4 [gt (n (c2 kJ v0 (L 27 t3))) w0],If 78 [3,0,6] (S [E0 [A 4 (w 10)],.ret])],E 11 [al zU4,al zU4],i0 13,S [R0 79 1 [n (l (f 4 t3)),M w0],ra 0 82 (t 81) 83 [80,82,81] 125 (S [R0 84 2 [L 3 (i 3 (t 80) (t 82)),J 15 (s 3 (al zI) (t 85))],D 86 11 [] [l (f 2 (y v0)),l (f 1 (y v0)),L 3 (t 15),A 16 (i 35 (t 89) (x (.lku true [.int .i64,.int .i64,.int .u64] z0 (zt 93) (zt 94) false)))],D 97 7 [15] [l (f 1 (y v0)),L 3 (t 15),c2 uL (t 11) (x (.lku true [.int .i64,.int .i64,.int .u64] z0 (zt 100) (zt 101) false))],R0 104 5 [c2 kO (t 12) (L 4 (f 30 (y v16)))],R0 109 7 [A 13 (mm true v13 (l (f 3 (f 0 (y v16)))))],D 116 9 [16] [mm true (l (f 34 t6)) (ad (l (f 34 (y v16))) w1),s 1 (f 34 t6) (t 123)]])],R0 126 1 [L 4 (t 11),J 17 (s 4 (al zU4) (t 126))],S [i0 127,ra 2 127 (w 4) 128 [127] 138 (S [R0 129 1 [A 18 (v 127)],D 130 8 [18] [v18,l (x (.iadA (zt 17) (zt 130) 4 1)),v18,B .and (t 132) (l (x (.iadA (zt 12) (zt 133) 4 1))),s 1 (x (.iadA (zt 17) (zt 130) 4 1)) (t 136)]])],S [R 139 8 [17,13] [O (ea true [.int .u64,.int .u64,.int .u64,.int .u64] (L 4 (t 17)) (x (.bld zU4 []))) (ls (l (f 3 t3)) v13)],If 147 [12,6,0,3,11] (S [E0 [A 4 (w 6)],.ret])],R 148 2 [12] [L 4 (t 12),s 4 (f 30 t6) (t 148)],R 150 3 [11] [c2 kO (f 30 t6) (L 4 (t 11))],i0 19,E0 [A 20 F],S [R0 153 4 [n (l (f 2 (y v0))),M w0],ra 4 158 (t 157) 159 [158,157] 199 (S [R0 160 1 [A 21 (v 158)],R0 161 6 [A 22 (i 35 (l (f 2 (y v0))) v21)],D 167 12 [21] [N (eq (l (f 0 (f 0 (y v22)))) (l (f 0 t3))) (c2 jR (f 30 t6) v21)],Iz 179 [] (S [R0 180 7 [A 19 (mm true v19 (l (f 1 (f 0 (y v22)))))],D 187 12 [22] [Ah 20 (O v20 (eq (l (f 1 (f 0 (y v22)))) (sb (l (f 1 t3)) w1)))]]) [22]])],S [R 200 12 [19,3,20] [O (ge v19 (l (f 1 t3))) (N (gt (l (f 1 t3)) w1) (o v20))],If 212 [0,6] (S [E0 [A 4 (w 11)],.ret])],D 213 11 [] [l (f 1 (y v0)),L 3 (f 27 t6),n (l (f 2 (y v0))),Yh (.mup true [.int .i64,.int .i64,.int .u64] (zt 216) (zt 218) (zt 223))],D 224 10 [0,6] [v0,l (f 2 (y v0)),K [zl 228 227,zf 227 226 2,zo 226 (.nilc (zt 225)),zm 225 0,zm 224 0] (ba 35 zN (L 35 t6)),K [zm 224 0] (a 35 392 (t 228) (t 230)),s 1 (f 2 (y (t 224))) (t 231)],i0 4,.ret]⟩:=by kernel_rfl
end
section
open W
def cW:HFun:=⟨42,[(4,none)],S [R0 4 1 [M z],R0 8 3 [A 5 (c2 aW v0 v1)],S [R0 11 1 [eq v5 (w (-1))],If 12 [5,1] (S [S [R 13 1 [0] [A 4 v0],ow 4 3],.ret])],S [R0 14 2 [A 6 (ad v5 w1)],fo 0 16 3 (ls v6 (n v0)) [6,1] 6 (S [R0 22 4 [L 3 (i 3 v0 v6),J 7 (s 3 (al zI) (t 25))],R0 26 3 [o (d1 v1 (L 3 t7))],Iz 29 [] (S [R 30 4 [7] [v0,v5,L 3 t7,s 3 (i 3 (t 30) (t 31)) (t 32)],R0 34 2 [A 5 (ad v5 w1)]]) [7]])],R0 36 3 [v0,v5,x (.slc (zt 36) (some (zt 37)) none 3),Y (.clr (zt 38) 3 zI)],S [R 39 3 [0,5] [v0,v5,A 4 (x (.slc (zt 39) none (some (zt 40)) 3))],ow 4 3],.ret]⟩
def fD:cF aU [(4,none,3)]=some cW:=by kernel_rfl
def eD:HFun:=⟨8,[(2,none)],S [R0 2 1 [M z],S [R0 3 1 [v0,x (.nilS false 1 (zt 3))],If 4 [0] (S [S [iz 2,ow 2 3],.ret])],S [R 5 3 [0] [A 2 (a 3 24 (x (.bsl 3 [] [] 0)) v0)],ow 2 3],.ret]⟩
def gR:cF aR [(2,none,3)]=some eD:=by kernel_rfl
def gS:HFun:=⟨9,[(4,none)],S [R 4 1 [1] [J 3 (b t1),M F],R 5 4 [0,3] [ge (c2 eB v0 (L 3 t3)) w0,J 4 v8],.ret]⟩
def lZ:cF bB []=some gS:=by kernel_rfl
def rL:cF dX [(2,none,1)]=some ⟨8,[(2,none)],S [R0 2 1 [M z],S [R0 3 1 [v0,x (.nilS false 1 (zt 3))],If 4 [0] (S [S [iz 2,ow 2 1],.ret])],S [R 5 3 [0] [A 2 (a 1 8 (x (.bsl 1 [] [] 0)) v0)],ow 2 1],.ret]⟩:=by kernel_rfl
def bX:HFun:=⟨19,[(4,none)],S [R0 4 1 [M w0],S [R0 6 1 [n v0,M w0],ra 0 8 t7 9 [8,7,0,1] 18 (S [R0 10 1 [A 5 v8],R0 11 5 [d1 v1 (L 3 (i 3 v0 v5))],Iz 16 [8,1,0,7] (S [R 17 1 [5] [A 4 v5],.ret]) [5]])],E0 [A 4 (w (-1))],.ret]⟩
def cP:cF aW []=some bX:=by kernel_rfl
def iT:HFun:=⟨19,[(4,none)],S [R 4 1 [1] [J 3 (b t1),M w0],S [R0 6 1 [n v0,M w0],ra 0 8 t7 9 [8,7,0,3] 18 (S [R0 10 1 [A 5 v8],D 11 5 [] [ea false [.int .i64,.int .i64,.int .u64] (L 3 t3) (L 3 (i 3 v0 v5))],Iz 16 [8,3,0,7] (S [R 17 1 [5] [A 4 v5],.ret]) [5]])],E0 [A 4 (w (-1))],.ret]⟩
def nK:cF eB []=some iT:=by kernel_rfl
def mS:cF dW []=some ⟨9,[(4,none)],S [R0 4 1 [M F],R 5 4 [0,1] [ge (c2 fB v0 v1) w0,J 4 v8],.ret]⟩:=by kernel_rfl
def oO:cF fB []=some ⟨19,[(4,none)],S [R0 4 1 [M w0],S [R0 6 1 [n v0,M w0],ra 0 8 t7 9 [8,7,0,1] 18 (S [R0 10 1 [A 5 v8],R0 11 5 [d1 v1 (l (i 1 v0 v5))],Iz 16 [8,1,0,7] (S [R 17 1 [5] [A 4 v5],.ret]) [5]])],E0 [A 4 (w (-1))],.ret]⟩:=by kernel_rfl
end
section
def Dk {α:Type} (m:α→Bool) (l:List α):(!(l.any λx=>!m x))=l.all m:=by grind
section
variable {G:Nat→Option (List AV)}
set_option maxHeartbeats 2000000
def SZ (f:Nat) (m:BoxM→Bool) (x:BoxM) (h:aC PQ G f [.ag x.A] [] λr T=>r=.v (.bool (m x))∧T=[]):aC PQ G gC [.ag x.A,.ptr 0 0] [some (.box [.cl f []])] λr T=>r=.v (.bool (!m x))∧T=[some (.box [.cl f []])]:=by
 refine aD CC (by decide) ?_;simp only [go_sem,BoxM.A];refine aB (aA _) rfl h rfl ?_;simp only [go_sem]
def WN (f:Nat) (m:BoxM→Bool) (l:List BoxM) (hl:l.length<9223372036854775807) (h:∀ x∈l,aC PQ G f [.ag x.A] [] λr T=>r=.v (.bool (m x))∧T=[]) :
  aC PQ G eC [De l,.cl gC [.ptr 0 0]] [some (.box [.cl f []])] λr T=>r=.v (.int .i64 (zV (λx=>!m x) l))∧T=[some (.box [.cl f []])]:=by
 refine aD nJ (by decide) ?_;simp only [go_sem,aL];refine aJ l.length (λi=>⟨1,[(0,De l),(1,.cl gC [.ptr 0 0]),(7,.v (.int .i64 (l.length:Int))),(8,.v (.int .i64 (i:Int)))],[some (.box [.cl f []])]⟩) (λi=>∀ j (hj:j<l.length),j<i→(!m l[j])=false) ?_ (by intro j hj h;omega) ?_ ?_
 ·simp only [go_sem]
 ·intro i hi hJ;have g0:(l.map BoxM.A)[i]?=some [uv l[i].To,uv l[i].Eph,uv l[i].Body,uv l[i].Tag]:=aI _ l i hi;simp only [go_sem,bG hi,g0];refine aG [0] (aA _) (by decide) (by simp) rfl rfl (SZ f m l[i] (h _ (iN hi))) ?_;rintro r T' ⟨rfl,rfl⟩
  cases hm:m l[i] with
  | true =>
   simp only [go_sem,aF (show i<9223372036854775807 by omega)];grind
  | false =>
   simp only [go_sem];rw [qO hi hJ (by rw [hm];rfl)]
 ·intro hJ;simp only [go_sem,aX (cN _)];rw [qN λj hj=>hJ j hj hj]
def WO (f:Nat) (m:BoxM→Bool) (l:List BoxM) (hl:l.length<9223372036854775807) (h:∀ x∈l,aC PQ G f [.ag x.A] [] λr T=>r=.v (.bool (m x))∧T=[]) :
  aC PQ G dL [De l,.cl gC [.ptr 0 0]] [some (.box [.cl f []])] λr T=>r=.v (.bool (l.any λx=>!m x))∧T=[some (.box [.cl f []])]:=by
 refine aD lX (by decide) ?_;simp only [go_sem];refine aG [0] (aA _) (by decide) (by simp) rfl rfl (WN f m l hl h) ?_;rintro r T' ⟨rfl,rfl⟩;simp only [go_sem,ge_iff_le,yI]
def NC (f:Nat) (m:BoxM→Bool) (l:List BoxM) (hl:l.length<9223372036854775807) (h:∀ x∈l,aC PQ G f [.ag x.A] [] λr T=>r=.v (.bool (m x))∧T=[]) :
  aC PQ G kQ [De l,.cl f []] [] λr T=>r=.v (.bool (l.all m))∧T=[]:=by
 refine aD D6 (by decide) ?_;simp only [go_sem];refine aG [0] (aA _) (by decide) (by simp) rfl rfl (WO f m l hl h) ?_;rintro r T' ⟨rfl,rfl⟩;simp only [go_sem,Dk]
def Sa (f:Nat) (m:Int→Bool) (x:Int) (h:aC PQ G f [iv x] [] λr T=>r=.v (.bool (m x))∧T=[]):aC PQ G kS [iv x,.ptr 0 0] [some (.box [.cl f []])] λr T=>r=.v (.bool (!m x))∧T=[some (.box [.cl f []])]:=by
 refine aD F8 (by decide) ?_;simp only [go_sem];refine aB (aA _) rfl h rfl ?_;simp only [go_sem]
def WP (f:Nat) (m:Int→Bool) (l:List Int) (hl:l.length<9223372036854775807) (h:∀ x∈l,aC PQ G f [iv x] [] λr T=>r=.v (.bool (m x))∧T=[]) :
  aC PQ G iL [uK l,.cl kS [.ptr 0 0]] [some (.box [.cl f []])] λr T=>r=.v (.int .i64 (zV (λx=>!m x) l))∧T=[some (.box [.cl f []])]:=by
 refine aD sO (by decide) ?_;simp only [go_sem,aL];refine aJ l.length (λi=>⟨1,[(0,uK l),(1,.cl kS [.ptr 0 0]),(7,.v (.int .i64 (l.length:Int))),(8,.v (.int .i64 (i:Int)))],[some (.box [.cl f []])]⟩) (λi=>∀ j (hj:j<l.length),j<i→(!m l[j])=false) ?_ (by intro j hj h;omega) ?_ ?_
 ·simp only [go_sem]
 ·intro i hi hJ;have g0:(l.map λn=>[iv n])[i]?=some [iv l[i]]:=aI _ l i hi;simp only [go_sem,bG hi,g0];refine aG [0] (aA _) (by decide) (by simp) rfl rfl (Sa f m l[i] (h _ (iN hi))) ?_;rintro r T' ⟨rfl,rfl⟩
  cases hm:m l[i] with
  | true =>
   simp only [go_sem,aF (show i<9223372036854775807 by omega)];grind
  | false =>
   simp only [go_sem];rw [qO hi hJ (by rw [hm];rfl)]
 ·intro hJ;simp only [go_sem,aX (cN _)];rw [qN λj hj=>hJ j hj hj]
def WQ (f:Nat) (m:Int→Bool) (l:List Int) (hl:l.length<9223372036854775807) (h:∀ x∈l,aC PQ G f [iv x] [] λr T=>r=.v (.bool (m x))∧T=[]) :
  aC PQ G gD [uK l,.cl kS [.ptr 0 0]] [some (.box [.cl f []])] λr T=>r=.v (.bool (l.any λx=>!m x))∧T=[some (.box [.cl f []])]:=by
 refine aD qV (by decide) ?_;simp only [go_sem];refine aG [0] (aA _) (by decide) (by simp) rfl rfl (WP f m l hl h) ?_;rintro r T' ⟨rfl,rfl⟩;simp only [go_sem,ge_iff_le,yI]
def WR (f:Nat) (m:Int→Bool) (l:List Int) (hl:l.length<9223372036854775807) (h:∀ x∈l,aC PQ G f [iv x] [] λr T=>r=.v (.bool (m x))∧T=[]) :
  aC PQ G vQ [uK l,.cl f []] [] λr T=>r=.v (.bool (l.all m))∧T=[]:=by
 refine aD IN (by decide) ?_;simp only [go_sem];refine aG [0] (aA _) (by decide) (by simp) rfl rfl (WQ f m l hl h) ?_;rintro r T' ⟨rfl,rfl⟩;simp only [go_sem,Dk]
def Sb (f:Nat) (m:Nat→Bool) (x:Nat) (h:aC PQ G f [uv x] [] λr T=>r=.v (.bool (m x))∧T=[]):aC PQ G iA [uv x,.ptr 0 0] [some (.box [.cl f []])] λr T=>r=.v (.bool (!m x))∧T=[some (.box [.cl f []])]:=by
 refine aD Cw (by decide) ?_;simp only [go_sem];refine aB (aA _) rfl h rfl ?_;simp only [go_sem]
def WS (f:Nat) (m:Nat→Bool) (l:List Nat) (hl:l.length<9223372036854775807) (h:∀ x∈l,aC PQ G f [uv x] [] λr T=>r=.v (.bool (m x))∧T=[]) :
  aC PQ G fB [.ls 1 (ul l),.cl iA [.ptr 0 0]] [some (.box [.cl f []])] λr T=>r=.v (.int .i64 (zV (λx=>!m x) l))∧T=[some (.box [.cl f []])]:=by
 refine aD oO (by decide) ?_;simp only [go_sem,aL];refine aJ l.length (λi=>⟨1,[(0,.ls 1 (ul l)),(1,.cl iA [.ptr 0 0]),(7,.v (.int .i64 (l.length:Int))),(8,.v (.int .i64 (i:Int)))],[some (.box [.cl f []])]⟩) (λi=>∀ j (hj:j<l.length),j<i→(!m l[j])=false) ?_ (by intro j hj h;omega) ?_ ?_
 ·simp only [go_sem]
 ·intro i hi hJ;have g0:(ul l)[i]?=some [uv l[i]]:=aI _ l i hi;simp only [go_sem,bG hi,g0];refine aG [0] (aA _) (by decide) (by simp) rfl rfl (Sb f m l[i] (h _ (iN hi))) ?_;rintro r T' ⟨rfl,rfl⟩
  cases hm:m l[i] with
  | true =>
   simp only [go_sem,aF (show i<9223372036854775807 by omega)];grind
  | false =>
   simp only [go_sem];rw [qO hi hJ (by rw [hm];rfl)]
 ·intro hJ;simp only [go_sem,aX (cN _)];rw [qN λj hj=>hJ j hj hj]
def WT (f:Nat) (m:Nat→Bool) (l:List Nat) (hl:l.length<9223372036854775807) (h:∀ x∈l,aC PQ G f [uv x] [] λr T=>r=.v (.bool (m x))∧T=[]) :
  aC PQ G dW [.ls 1 (ul l),.cl iA [.ptr 0 0]] [some (.box [.cl f []])] λr T=>r=.v (.bool (l.any λx=>!m x))∧T=[some (.box [.cl f []])]:=by
 refine aD mS (by decide) ?_;simp only [go_sem];refine aG [0] (aA _) (by decide) (by simp) rfl rfl (WS f m l hl h) ?_;rintro r T' ⟨rfl,rfl⟩;simp only [go_sem,ge_iff_le,yI]
def WU (f:Nat) (m:Nat→Bool) (l:List Nat) (hl:l.length<9223372036854775807) (h:∀ x∈l,aC PQ G f [uv x] [] λr T=>r=.v (.bool (m x))∧T=[]) :
  aC PQ G pK [.ls 1 (ul l),.cl f []] [] λr T=>r=.v (.bool (l.all m))∧T=[]:=by
 refine aD E6 (by decide) ?_;simp only [go_sem];refine aG [0] (aA _) (by decide) (by simp) rfl rfl (WT f m l hl h) ?_;rintro r T' ⟨rfl,rfl⟩;simp only [go_sem,Dk]
def WV (f:Nat) (m:Id→Bool) (x:Id) (h:aC PQ G f [.ag x.A] [] λr T=>r=.v (.bool (m x))∧T=[]):aC PQ G eQ [.ag x.A,.ptr 0 0] [some (.box [.cl f []])] λr T=>r=.v (.bool (!m x))∧T=[some (.box [.cl f []])]:=by
 refine aD AU (by decide) ?_;simp only [go_sem,Id.A_def];refine aB (aA _) rfl h rfl ?_;simp only [go_sem]
def Yd (f:Nat) (m:Id→Bool) (l:List Id) (hl:l.length<9223372036854775807) (h:∀ x∈l,aC PQ G f [.ag x.A] [] λr T=>r=.v (.bool (m x))∧T=[]) :
  aC PQ G aW [ids l,.cl eQ [.ptr 0 0]] [some (.box [.cl f []])] λr T=>r=.v (.int .i64 (zV (λx=>!m x) l))∧T=[some (.box [.cl f []])]:=by
 refine aD cP (by decide) ?_;unfold bX;simp only [go_sem,aL];refine aJ l.length (λi=>⟨1,[(0,ids l),(1,.cl eQ [.ptr 0 0]),(7,.v (.int .i64 (l.length:Int))),(8,.v (.int .i64 (i:Int)))],[some (.box [.cl f []])]⟩) (λi=>∀ j (hj:j<l.length),j<i→(!m l[j])=false) ?_ (by intro j hj h;omega) ?_ ?_
 ·simp only [go_sem]
 ·intro i hi hJ;have g0:(l.map Id.A)[i]?=some [.v (.int .i64 l[i].a),.v (.int .i64 l[i].b),.v (.int .u64 l[i].c)]:=aI _ l i hi;simp only [go_sem,bG hi,g0];refine aG [0] (aA _) (by decide) (by simp) rfl rfl (WV f m l[i] (h _ (iN hi))) ?_;rintro r T' ⟨rfl,rfl⟩
  cases hm:m l[i] with
  | true =>
   simp only [go_sem,aF (show i<9223372036854775807 by omega)];grind
  | false =>
   simp only [go_sem];rw [qO hi hJ (by rw [hm];rfl)]
 ·intro hJ;simp only [go_sem,aX (cN _)];rw [qN λj hj=>hJ j hj hj]
def Ye (f:Nat) (m:Id→Bool) (l:List Id) (hl:l.length<9223372036854775807) (h:∀ x∈l,aC PQ G f [.ag x.A] [] λr T=>r=.v (.bool (m x))∧T=[]) :
  aC PQ G aT [ids l,.cl eQ [.ptr 0 0]] [some (.box [.cl f []])] λr T=>r=.v (.bool (l.any λx=>!m x))∧T=[some (.box [.cl f []])]:=by
 refine aD eJ (by decide) ?_;unfold cO;simp only [go_sem];refine aG [0] (aA _) (by decide) (by simp) rfl rfl (Yd f m l hl h) ?_;rintro r T' ⟨rfl,rfl⟩;simp only [go_sem,ge_iff_le,yI]
def Yf (f:Nat) (m:Id→Bool) (l:List Id) (hl:l.length<9223372036854775807) (h:∀ x∈l,aC PQ G f [.ag x.A] [] λr T=>r=.v (.bool (m x))∧T=[]) :
  aC PQ G lJ [ids l,.cl f []] [] λr T=>r=.v (.bool (l.all m))∧T=[]:=by
 refine aD CB (by decide) ?_;simp only [go_sem];refine aG [0] (aA _) (by decide) (by simp) rfl rfl (Ye f m l hl h) ?_;rintro r T' ⟨rfl,rfl⟩;simp only [go_sem,Dk]
def QW (f:Nat) (m:NodeM→Bool) (x:NodeM) (h:aC PQ G f [.ag x.A] [] λr T=>r=.v (.bool (m x))∧T=[]):aC PQ G fQ [.ag x.A,.ptr 0 0] [some (.box [.cl f []])] λr T=>r=.v (.bool (!m x))∧T=[some (.box [.cl f []])]:=by
 refine aD BU (by decide) ?_;simp only [go_sem,NodeM.A];refine aB (aA _) rfl h rfl ?_;simp only [go_sem]
def Sc (f:Nat) (m:NodeM→Bool) (l:List NodeM) (hl:l.length<9223372036854775807) (h:∀ x∈l,aC PQ G f [.ag x.A] [] λr T=>r=.v (.bool (m x))∧T=[]) :
  aC PQ G dR [.ls 2 (l.map NodeM.A),.cl fQ [.ptr 0 0]] [some (.box [.cl f []])] λr T=>r=.v (.int .i64 (zV (λx=>!m x) l))∧T=[some (.box [.cl f []])]:=by
 refine aD mJ (by decide) ?_;simp only [go_sem,aL];refine aJ l.length (λi=>⟨1,[(0,.ls 2 (l.map NodeM.A)),(1,.cl fQ [.ptr 0 0]),(7,.v (.int .i64 (l.length:Int))),(8,.v (.int .i64 (i:Int)))],[some (.box [.cl f []])]⟩) (λi=>∀ j (hj:j<l.length),j<i→(!m l[j])=false) ?_ (by intro j hj h;omega) ?_ ?_
 ·simp only [go_sem]
 ·intro i hi hJ;have g0:(l.map NodeM.A)[i]?=some [uv l[i].Pub,De l[i].Boxes]:=aI _ l i hi;simp only [go_sem,bG hi,g0];refine aG [0] (aA _) (by decide) (by simp) rfl rfl (QW f m l[i] (h _ (iN hi))) ?_;rintro r T' ⟨rfl,rfl⟩
  cases hm:m l[i] with
  | true =>
   simp only [go_sem,aF (show i<9223372036854775807 by omega)];grind
  | false =>
   simp only [go_sem];rw [qO hi hJ (by rw [hm];rfl)]
 ·intro hJ;simp only [go_sem,aX (cN _)];rw [qN λj hj=>hJ j hj hj]
def Sd (f:Nat) (m:NodeM→Bool) (l:List NodeM) (hl:l.length<9223372036854775807) (h:∀ x∈l,aC PQ G f [.ag x.A] [] λr T=>r=.v (.bool (m x))∧T=[]) :
  aC PQ G cV [.ls 2 (l.map NodeM.A),.cl fQ [.ptr 0 0]] [some (.box [.cl f []])] λr T=>r=.v (.bool (l.any λx=>!m x))∧T=[some (.box [.cl f []])]:=by
 refine aD lB (by decide) ?_;simp only [go_sem];refine aG [0] (aA _) (by decide) (by simp) rfl rfl (Sc f m l hl h) ?_;rintro r T' ⟨rfl,rfl⟩;simp only [go_sem,ge_iff_le,yI]
def Kk (f:Nat) (m:NodeM→Bool) (l:List NodeM) (hl:l.length<9223372036854775807) (h:∀ x∈l,aC PQ G f [.ag x.A] [] λr T=>r=.v (.bool (m x))∧T=[]) :
  aC PQ G hZ [.ls 2 (l.map NodeM.A),.cl f []] [] λr T=>r=.v (.bool (l.all m))∧T=[]:=by
 refine aD Cv (by decide) ?_;simp only [go_sem];refine aG [0] (aA _) (by decide) (by simp) rfl rfl (Sd f m l hl h) ?_;rintro r T' ⟨rfl,rfl⟩;simp only [go_sem,Dk]
def QX (f:Nat) (m:SealM→Bool) (x:SealM) (h:aC PQ G f [.ag x.A] [] λr T=>r=.v (.bool (m x))∧T=[]):aC PQ G dY [.ag x.A,.ptr 0 0] [some (.box [.cl f []])] λr T=>r=.v (.bool (!m x))∧T=[some (.box [.cl f []])]:=by
 refine aD zR (by decide) ?_;simp only [go_sem,SealM.A];refine aB (aA _) rfl h rfl ?_;simp only [go_sem]
def Se (f:Nat) (m:SealM→Bool) (l:List SealM) (hl:l.length<9223372036854775807) (h:∀ x∈l,aC PQ G f [.ag x.A] [] λr T=>r=.v (.bool (m x))∧T=[]) :
  aC PQ G cS [.ls 4 (l.map SealM.A),.cl dY [.ptr 0 0]] [some (.box [.cl f []])] λr T=>r=.v (.int .i64 (zV (λx=>!m x) l))∧T=[some (.box [.cl f []])]:=by
 refine aD kV (by decide) ?_;simp only [go_sem,aL];refine aJ l.length (λi=>⟨1,[(0,.ls 4 (l.map SealM.A)),(1,.cl dY [.ptr 0 0]),(7,.v (.int .i64 (l.length:Int))),(8,.v (.int .i64 (i:Int)))],[some (.box [.cl f []])]⟩) (λi=>∀ j (hj:j<l.length),j<i→(!m l[j])=false) ?_ (by intro j hj h;omega) ?_ ?_
 ·simp only [go_sem]
 ·intro i hi hJ;have g0:(l.map SealM.A)[i]?=some [.v (.int .i64 l[i].Of.a),.v (.int .i64 l[i].Of.b),.v (.int .u64 l[i].Of.c),.ls 1 (bl l[i].Body)]:=aI _ l i hi;simp only [go_sem,bG hi,g0];refine aG [0] (aA _) (by decide) (by simp) rfl rfl (QX f m l[i] (h _ (iN hi))) ?_;rintro r T' ⟨rfl,rfl⟩
  cases hm:m l[i] with
  | true =>
   simp only [go_sem,aF (show i<9223372036854775807 by omega)];grind
  | false =>
   simp only [go_sem];rw [qO hi hJ (by rw [hm];rfl)]
 ·intro hJ;simp only [go_sem,aX (cN _)];rw [qN λj hj=>hJ j hj hj]
def Sf (f:Nat) (m:SealM→Bool) (l:List SealM) (hl:l.length<9223372036854775807) (h:∀ x∈l,aC PQ G f [.ag x.A] [] λr T=>r=.v (.bool (m x))∧T=[]) :
  aC PQ G cH [.ls 4 (l.map SealM.A),.cl dY [.ptr 0 0]] [some (.box [.cl f []])] λr T=>r=.v (.bool (l.any λx=>!m x))∧T=[some (.box [.cl f []])]:=by
 refine aD jY (by decide) ?_;simp only [go_sem];refine aG [0] (aA _) (by decide) (by simp) rfl rfl (Se f m l hl h) ?_;rintro r T' ⟨rfl,rfl⟩;simp only [go_sem,ge_iff_le,yI]
def Kl (f:Nat) (m:SealM→Bool) (l:List SealM) (hl:l.length<9223372036854775807) (h:∀ x∈l,aC PQ G f [.ag x.A] [] λr T=>r=.v (.bool (m x))∧T=[]) :
  aC PQ G fP [.ls 4 (l.map SealM.A),.cl f []] [] λr T=>r=.v (.bool (l.all m))∧T=[]:=by
 refine aD BT (by decide) ?_;simp only [go_sem];refine aG [0] (aA _) (by decide) (by simp) rfl rfl (Sf f m l hl h) ?_;rintro r T' ⟨rfl,rfl⟩;simp only [go_sem,Dk]
end
end
section
section
variable {G:Nat→Option (List AV)}
set_option maxHeartbeats 4000000
def Yg (k:Int):aC PQ G BR [iv k] [] λr T=>r=.v (.bool (GA k))∧T=[]:=by
 refine aD IK (by decide) ?_;unfold GA;simp only [go_sem]
 repeat' (refine aK (λh=>?_) (λh=>?_)<;>(try simp only [rW,lG,lR] at h)<;>simp only [go_sem,h])
 all_goals simp [*]
def OY (o:OpM):Bool:=o.Kind==7||o.Kind==8||o.Kind==12||o.Kind==10||o.Kind==11||o.Kind==13
def Uf (o:OpM):Bool:=o.Device !=0&&o.Kind !=2&&o.Kind !=3&&o.Kind !=11&&o.Kind !=13
def Ug (o:OpM):Bool:=(o.Old !=0&&o.Kind !=13)||(o.Member !=0&&o.Kind !=3&&o.Kind !=5)||(o.Role !=0&&o.Kind !=2&&o.Kind !=5)
def Uh (o:OpM):Bool:=decide ((o.Path.length:Int)>0)&&!GA o.Kind
def Ui (o:OpM):Bool:=o.Kind !=6&&((!(o.Epoch.a==0&&(o.Epoch.b==0&&o.Epoch.c==0)))||o.N !=0||decide ((o.Refs.length:Int)>0))
def Uj (o:OpM):Bool:=((decide ((o.Body.length:Int)>0))&&o.Kind !=6&&o.Kind !=7)||((!(o.Of.a==0&&(o.Of.b==0&&o.Of.c==0)))&&!OY o)
def Uk (o:OpM):Bool:=o.Kind !=9&&(decide ((o.Guards.length:Int)>0)||o.Wait !=0||(o.Pub:Int)!=0)
def Ul (o:OpM):Bool:=(o.Need !=0&&o.Kind !=9&&o.Kind !=1)||(decide ((o.Boxes.length:Int)>0)&&o.Kind !=9&&o.Kind !=10&&o.Kind !=11)
def tV (o:OpM):NB o=(!Uf o&&!Ug o&&!Uh o&&!Ui o&&!Uj o&&!Uk o&&!Ul o&&(((o.Hist.length:Int)==0)||o.Kind==2||o.Kind==13)):=rfl
def aCY (o:OpM):aC PQ G BN [.ag o.A] [] λr T=>r=.v (.bool (NB o))∧T=[]:=by
 refine aD L8 (by decide) ?_;dsimp only [go_sem];rw [I6];have hT:mM 0 [AV.ag o.A]=[(0,.ag o.A)]:=rfl;rw [aS];refine bP (λs=>s=⟨0,[(1,.ptr 0 0)],[some (.box o.A)]⟩) ?_ ?_
 ·simp only [go_sem]
 rintro s rfl;rw [aS];refine bP (λs=>s=⟨0,[(3,iv o.Kind),(1,.ptr 0 0)],[some (.box o.A)]⟩) ?_ ?_
 ·simp only [go_sem]
 rintro s rfl;rw [aS];refine bP (λs=>s=⟨0,[(4,.v (.bool (OY o))),(3,iv o.Kind),(1,.ptr 0 0)],[some (.box o.A)]⟩) ?_ ?_
 ·simp only [go_sem]
  repeat' (refine aK (λh=>?_) (λh=>?_)<;>(try simp only [rW,lG,lR] at h)<;>simp only [go_sem,h,undef])
  all_goals simp only [OY, *,EG,FW,FY,Bool.or_self]
 rintro s rfl;rw [aS];refine bP (λs=>s=⟨0,[(4,.v (.bool (OY o))),(3,iv o.Kind),(1,.ptr 0 0)],[some (.box o.A)]⟩∧Uf o=false) ?_ ?_
 ·simp only [go_sem]
  repeat' (refine aK (λh=>?_) (λh=>?_)<;>(try simp only [rW,lG,lR] at h)<;>simp only [go_sem,h,undef])
  all_goals first | (rw [tV];simp_all [Uf]) | simp_all [Uf]
 rintro s ⟨rfl,h1⟩;rw [aS];refine bP (λs=>s=⟨0,[(4,.v (.bool (OY o))),(3,iv o.Kind),(1,.ptr 0 0)],[some (.box o.A)]⟩∧Ug o=false) ?_ ?_
 ·simp only [go_sem]
  repeat' (refine aK (λh=>?_) (λh=>?_)<;>(try simp only [rW,lG,lR] at h)<;>simp only [go_sem,h,undef])
  all_goals first | (rw [tV];simp_all [Ug]) | simp_all [Ug]
 rintro s ⟨rfl,h2⟩;rw [aS];refine bP (λs=>s=⟨0,[(4,.v (.bool (OY o))),(3,iv o.Kind),(1,.ptr 0 0)],[some (.box o.A)]⟩∧Uh o=false) ?_ ?_
 ·simp only [go_sem,aL]
  repeat' (refine aK (λh=>?_) (λh=>?_)<;>(try simp only [rW,lG,lR] at h)<;>simp only [go_sem,h,undef])
  all_goals (try (refine aB (aA _) rfl (Yg o.Kind) rfl ?_;simp only [go_sem]))
  repeat' (refine aK (λh=>?_) (λh=>?_)<;>(try simp only [rW,lG,lR] at h)<;>simp only [go_sem,h])
  all_goals first | (rw [tV];simp_all [Uh]) | simp_all [Uh]
 rintro s ⟨rfl,h3⟩;rw [aS];refine bP (λs=>s=⟨0,[(4,.v (.bool (OY o))),(3,iv o.Kind),(1,.ptr 0 0)],[some (.box o.A)]⟩∧Ui o=false) ?_ ?_
 ·simp only [go_sem]
  repeat' (refine aK (λh=>?_) (λh=>?_)<;>(try simp only [rW,lG,lR] at h)<;>simp only [go_sem,aL,h,undef])
  all_goals first | (rw [tV];simp_all [Ui]) | simp_all [Ui]
 rintro s ⟨rfl,h4⟩;rw [aS];refine bP (λs=>s=⟨0,[(3,iv o.Kind),(1,.ptr 0 0)],[some (.box o.A)]⟩∧Uj o=false) ?_ ?_
 ·simp only [go_sem,aL]
  repeat' (refine aK (λh=>?_) (λh=>?_)<;>(try simp only [rW,lG,lR] at h)<;>simp only [go_sem,h,undef])
  all_goals first | (rw [tV];simp_all [Uj]) | simp_all [Uj]
 rintro s ⟨rfl,h5⟩;rw [aS];refine bP (λs=>s=⟨0,[(3,iv o.Kind),(1,.ptr 0 0)],[some (.box o.A)]⟩∧Uk o=false) ?_ ?_
 ·simp only [go_sem]
  repeat' (refine aK (λh=>?_) (λh=>?_)<;>(try simp only [rW,lG,lR] at h)<;>simp only [go_sem,aL,h,undef])
  all_goals first | (rw [tV];simp_all [Uk]) | simp_all [Uk]
 rintro s ⟨rfl,h6⟩;rw [aS];refine bP (λs=>s=⟨0,[(3,iv o.Kind),(1,.ptr 0 0)],[some (.box o.A)]⟩∧Ul o=false) ?_ ?_
 ·simp only [go_sem]
  repeat' (refine aK (λh=>?_) (λh=>?_)<;>(try simp only [rW,lG,lR] at h)<;>simp only [go_sem,aL,h,undef])
  all_goals first | (rw [tV];simp_all [Ul]) | simp_all [Ul]
 rintro s ⟨rfl,h7⟩;simp only [go_sem,aL]
 repeat' (refine aK (λh=>?_) (λh=>?_)<;>(try simp only [rW,lG,lR] at h)<;>simp only [go_sem,h,undef])
 all_goals rw [tV];simp_all
end
end
section
open W
def HE:cF zL []=some ⟨26,[(4,none)],S [R0 4 1 [M F],S [R0 6 4 [ne (n v0) (n v1)],If 10 [1,0] (S [E0 [A 4 F],.ret])],S [i0 5,fo 0 11 3 (ls v5 (n v0)) [0,5,1] 5 (S [D 17 8 [] [ea true [.int .i64,.int .i64,.int .u64] (L 3 (i 3 v0 v5)) (L 3 (i 3 v1 v5))],If 25 [5,1,0] (S [E0 [A 4 F],.ret])])],E0 [A 4 T],.ret]⟩:=by kernel_rfl
def Km:cF nA []=some ⟨18,[(4,none)],S [R 4 1 [1] [J 3 (b t1),M F],S [i0 5,fo 0 6 3 (ls v5 (n v0)) [0,5,3] 5 (S [D 12 5 [] [ea false [.int .i64,.int .i64,.int .u64] (L 3 (i 3 v0 v5)) (L 3 t3)],If 17 [5,3,0] (S [E0 [A 4 T],.ret])])],E0 [A 4 F],.ret]⟩:=by kernel_rfl
def HF:HFun:=⟨23,[(4,none)],S [R 4 1 [0,1] [J 2 (b t0),b t1,M F],D 5 18 [2,3] [l (f 0 t2),l (f 0 t3),J 10 (l (f 1 t2)),l (f 1 t3),J 15 (l (f 2 t2)),l (f 2 t3),J 9 (K [zl 18 17,zf 17 3 2,zl 16 15,zf 15 2 2,zl 13 12,zf 12 3 1,zl 11 10,zf 10 2 1] (c2 gZ t6 t8)),J 14 (K [zl 18 17,zf 17 3 2,zl 16 15,zf 15 2 2] (c2 gZ (t 11) (t 13))),J 19 (ls (c1 rF (j3 [z0,z0,z0] t9 (t 14) (c2 jX (t 16) (t 18)))) w0),J 4 v22],.ret]⟩
def GC:cF wG []=some HF:=by kernel_rfl
def IR:cF nW [(2,none,3),(3,none,3),(6,none,3)]=some ⟨48,[(2,none)],S [R0 2 1 [M z],S [iz 3,ow 3 3],S [i0 4,fo 0 7 3 (ls v4 (n v0)) [4,0] 4 (S [R0 13 2 [A 5 (n v3)],lo 2 (S [S [R0 15 1 [gt v5 w0],Ie 16 [] .skip [] (ex 2)],bw 3 (S [S [D 17 10 [] [o (c2 BH (L 3 (i 3 v0 v4)) (L 3 (i 3 v3 (sb v5 w1))))],If 27 [] (ex 2)],R0 28 2 [A 5 (sb v5 w1)]])]),S [iz 6,ow 6 3],S [R0 30 5 [v6,v3,v5,A 6 (a 3 24 (t 30) (x (.slc (zt 31) none (some (zt 32)) 3)))],ow 6 3],S [R0 35 7 [A 6 (a 3 24 v6 (ba 3 zI (L 3 (i 3 v0 v4))))],ow 6 3],R 42 5 [6,5] [v6,v3,v5,A 3 (a 3 24 (t 42) (x (.slc (zt 43) (some (zt 44)) none 3)))],ow 3 3])],S [R 47 1 [3] [A 2 v3],ow 2 3],.ret]⟩:=by kernel_rfl
def Ba:HFun:=⟨18,[(2,none)],S [R0 2 1 [M w0],i0 3,S [R 7 0 [0] [A 6 t0,n t6,A 8 w0],ra 0 8 t7 9 [6,8,7] 16 (S [R0 10 2 [A 5 (l (i 1 t6 t8))],R0 12 2 [ne v5 v3],Iz 14 [8,3,6,7] (S [R 15 1 [5] [A 2 v5],.ret]) [5]])],R 17 1 [3] [A 2 v3],.ret]⟩
def B0:cF rF []=some Ba:=by kernel_rfl
def rM:HFun:=⟨20,[(4,none)],S [R0 4 1 [M w0],R0 7 2 [A 5 (c1 lW v0)],R0 9 2 [A 6 (c1 lW v1)],S [R 0 0 [5] [A 11 t5],If 11 [0,1] (S [S [R 0 0 [6] [A 12 t6],If 12 [] (S [i0 4,.ret])],E0 [A 4 (w (-1))],.ret])],S [R 0 0 [6] [A 13 t6],If 13 [0,1] (S [E0 [A 4 w1],.ret])],S [R0 14 2 [ls v0 v1],If 16 [0,1] (S [E0 [A 4 (w (-1))],.ret])],S [R 17 2 [0,1] [gt v0 v1],If 19 [] (S [E0 [A 4 w1],.ret])],i0 4,.ret]⟩
def tW:cF gZ []=some rM:=by kernel_rfl
def nL:HFun:=⟨20,[(4,none)],S [R0 4 1 [M w0],R0 7 2 [A 5 (c1 jG v0)],R0 9 2 [A 6 (c1 jG v1)],S [R 0 0 [5] [A 11 t5],If 11 [0,1] (S [S [R 0 0 [6] [A 12 t6],If 12 [] (S [i0 4,.ret])],E0 [A 4 (w (-1))],.ret])],S [R 0 0 [6] [A 13 t6],If 13 [0,1] (S [E0 [A 4 w1],.ret])],S [R0 14 2 [ls v0 v1],If 16 [0,1] (S [E0 [A 4 (w (-1))],.ret])],S [R 17 2 [0,1] [gt v0 v1],If 19 [] (S [E0 [A 4 w1],.ret])],i0 4,.ret]⟩
def qP:cF jX []=some nL:=by kernel_rfl
def MF:cF BH []=some ⟨30,[(4,none)],S [R 4 1 [0,1] [J 2 (b t0),b t1,M F],S [R0 5 4 [ne (l (f 0 t2)) (l (f 0 t3))],If 9 [] (S [R 10 5 [2,3] [A 4 (ls (l (f 0 t2)) (l (f 0 t3)))],.ret])],S [R0 15 4 [ne (l (f 1 t2)) (l (f 1 t3))],If 19 [] (S [R 20 5 [2,3] [A 4 (ls (l (f 1 t2)) (l (f 1 t3)))],.ret])],R 25 5 [2,3] [A 4 (ls (l (f 2 t2)) (l (f 2 t3)))],.ret]⟩:=by kernel_rfl
end
end Hud
