import Derived.Test.YthlndebkfkanbaaGreatDoorLib16
set_option linter.all false
namespace Hud
open Go
section
theorem aS6 (a:Fq) (m n:Nat):(a^m)^n=(a^n)^m:=by
 apply Fin.ext
 rw [tY,tY,tY,tY,<-Nat.pow_mod,<-Nat.pow_mod,<-Nat.pow_mul,<-Nat.pow_mul,Nat.mul_comm]
theorem aS7 (a b:Fq):a+b-b=a:=by grind
theorem aVd (s once:Nat) (v:Fq):aCR s (aBF (37^s) once v)=(v,0):=by
 have e:((37:Fq)^once)^s=(37^s)^once:=aS6 37 once s
 unfold aCR aBF
 simp only [e,ne_eq,not_true_eq_false,if_false,aS7]
end
section
theorem aKE (a:Fq) (m n:Nat):a^(m*n)=(a^m)^n:=by
 apply Fin.ext
 rw [tY,tY,tY,<-Nat.pow_mod,<-Nat.pow_mul]
theorem aS8 (n:Nat):(1:Fq)^n=1:=by
 apply Fin.ext
 rw [tY]
 show 1^n%PP=1
 rw [Nat.one_pow];decide
theorem aS9:(37:Fq)≠0:=by decide
theorem aG7 {a:Fq} (h:a≠0):∀ n:Nat,a^n≠0
 | 0=>by rw [pw0];exact bAV
 | n+1=>fun e=>by
  rw [aRI,pw1] at e
  rcases aOd e with h1 | h1
  ·exact aG7 h n h1
  ·exact h h1
theorem aTK (n:Nat):(37:Fq)^(n%aOt)=37^n:=by
 conv=>rhs;rw [<-Nat.div_add_mod n aOt,aRI,aKE]
 rw [show aOt=NN from rfl,aMJ aS9,aS8]
 exact (Fin.one_mul _).symm
theorem aQi (a:Fq):toF a.val=a:=Fin.ext (Nat.mod_eq_of_lt a.isLt)
theorem aDF {a:Fq} (h:a≠0):1<=a.val:=by
 rcases Nat.eq_zero_or_pos a.val with e | e
 ·exact absurd (Fin.ext e) h
 ·exact e
theorem bBh (s:Nat) (b:List Nat):aES ((37:Fq)^s).val b (aET s b).val (aHf s b)=true:=by
 have h1:=aDF (aG7 aS9 s)
 have h2:=aDF (aG7 aS9 (aHe s b))
 have h3:=((37:Fq)^s).isLt
 have h4:=((37:Fq)^aHe s b).isLt
 have hp:PP=2305843009213693951:=by decide
 have h5:aHf s b<aOt:=Nat.mod_lt _ (by decide)
 have ho:aOt=2305843009213693950:=rfl
 have key:(37:Fq)^aHf s b=aET s b*(37^s)^(aQb (aET s b).val ((37:Fq)^s).val b).val:=by
  unfold aHf
  rw [aTK,aRI,aRY,aTK,Nat.mul_comm,aKE]
  rfl
 unfold aES
 rw [aQi,aQi]
 simp only [Bool.and_eq_true,decide_eq_true_eq]
 refine ⟨⟨⟨⟨h1,by omega⟩,by unfold aET;exact h2,by unfold aET;omega⟩,by omega⟩,key⟩
theorem aM3 (n:Nat) (h:n<18446744073709551616):((37:Fq)^n).val=pwm PP 64 37 n 1%PP:=by
 rw [tY,aJn PP 64 37 n 1 (by simpa using h),Nat.one_mul];rfl
end
section
open Go.Proofs.Tryz
theorem aSa (l:List (Fq×Fq)) (i:Nat) (h:i<l.length):eJ (l.take (i+1))=aHg (eJ (l.take i)) l[i]:=by
 rw [<-List.take_append_getElem h,aKB]
section
variable {G:Nat->Option (List AV)}
set_option maxHeartbeats 4000000
def s5 (l:List (Fq×Fq)):Nat->AV
 | 0=>.v (.slice none 0 0)
 | i+1=>.ls 1 (fl (eJ (l.take (i+1))).1)
theorem bBi (l:List (Fq×Fq)) (i:Nat):lH (s5 l i) (.ls 1 (fl (eJ (l.take i)).1)):=by
 cases i with
 | zero=>unfold s5 lH;exact .inr (.inl ⟨rfl,1,rfl⟩)
 | succ i=>exact tC _
theorem aZk {l:List (Fq×Fq)} (hn:(l.map (·.1)).Nodup) {i:Nat} (hi:i<l.length):ev (eJ (l.take i)).2 l[i].1≠0/\(eJ (l.take i)).2.length=i+1/\(eJ (l.take i)).1.length<=i:=by
 have hnt:((l.take i).map (·.1)).Nodup:=by rw [List.map_take];exact hn.sublist (List.take_sublist _ _)
 obtain ⟨i1,i2,i3,i4⟩:=aKC (l.take i) hnt
 have hlt:(l.take i).length=i:=by simp;omega
 have hm:=aEp i1
 rw [hlt] at i3 hm
 refine ⟨fun h=>?_,hm,i3⟩
 have h:=(i2 _).1 h
 rw [<-List.take_append_drop i l,List.drop_eq_getElem_cons hi,List.map_append,List.nodup_append] at hn
 exact hn.2.2 _ h l[i].1 (List.mem_map_of_mem List.mem_cons_self) rfl
theorem aXj (l:List (Fq×Fq)) (X Y:List Fq) (hX:l.map (·.1)=X) (hY:l.map (·.2)=Y) (hn:(l.map (·.1)).Nodup) (hl:l.length<=1000) (h0:l≠[]):aD prog G vD [.ls 1 (fl X),.ls 1 (fl Y)] [] fun r T=>r=.ls 1 (fl (yG l))/\T=[]:=by
 have gX:∀ i (h:i<l.length),(fl X)[i]?=some [.v (fu l[i].1)]:=fun i h=>by subst hX;simp [fl,h]
 have gY:∀ i (h:i<l.length),(fl Y)[i]?=some [.v (fu l[i].2)]:=fun i h=>by subst hY;simp [fl,h]
 have lX:X.length=l.length:=by subst hX;simp
 have lY:Y.length=l.length:=by subst hY;simp
 have hfn:=fun i h=>aZk hn (i:=i) h
 clear hX hY hn
 refine aF aJL (by decide) ?_
 unfold aGM
 dsimp only [zj,zT,zF,zC,zE,zP,zQ,zq,zA,zm,zo,zs,zg,zh,zl,zv,zf,zi,zn,zb,zc,ze,zk,zw,zu,zt,zr,zR,zK,zN,zS,z0,zU]
 simp only [go_sem,↓reduceIte,List.length_map,lX,lY,bne_self_eq_false]
 refine aL l.length (fun i=>⟨0,[(1,.ls 1 (fl Y)),(5,s5 l i),(6,.ls 1 (fl (eJ (l.take i)).2)),(17,.ls 1 (fl X)),(18,iv l.length),(19,iv i)],[]⟩) (fun _=>True) ?_ trivial ?_ ?_
 ·simp only [go_sem,↓reduceIte]
  rfl
 ·intro i hi _
  have hd:decide (((i:Nat):Int)<(l.length:Int))=true:=decide_eq_true (by omega)
  have ws:=aH (show i<9223372036854775807 by omega)
  obtain ⟨hne,hm,i3⟩:=hfn i hi
  have e1:eJ (l.take (i+1))=aHg (eJ (l.take i)) l[i]:=aSa l i hi
  have e5:s5 l (i+1)=.ls 1 (fl (bDe (eJ (l.take i)).1 (xW (eJ (l.take i)).2 [(l[i].2-ev (eJ (l.take i)).1 l[i].1)*inv (ev (eJ (l.take i)).2 l[i].1)]))):=by rw [s5,e1];rfl
  have e6:(eJ (l.take (i+1))).2=xW (eJ (l.take i)).2 [0-l[i].1,1]:=by rw [e1];rfl
  have hs:=bBi l i
  have hml:=aPN (eJ (l.take i)).2 [(l[i].2-ev (eJ (l.take i)).1 l[i].1)*inv (ev (eJ (l.take i)).2 l[i].1)]
  have h64:=aCc (ev (eJ (l.take i)).2 l[i].1)
  have hb:((((ev (eJ (l.take i)).2 l[i].1).val:Nat):Int)==0)=false:=by
   have:=aDF hne
   rw [beq_eq_false_iff_ne];omega
  have gXi:=gX i hi
  have gYi:=gY i hi
  have h5:s5 l i=.ls 1 (fl (eJ (l.take i)).1)\/s5 l i=.v (.slice none 0 0):=by
   cases i with
   | zero=>exact .inr rfl
   | succ i=>exact .inl rfl
  generalize hA:(eJ (l.take i)).1=A at *
  generalize hB:(eJ (l.take i)).2=B at *
  generalize l[i].1=x at *
  generalize l[i].2=y at *
  generalize s5 l i=Z at *
  rcases h5 with rfl | rfl
  all_goals
   simp only [go_sem,↓reduceIte,hd,gXi,gYi]
   refine aC (aA _) rfl (aOu B x (by omega)) rfl ?_
   simp only [go_sem,↓reduceIte,hb,gYi]
   refine aC (args':=[.ls 1 (fl A),.v (fu x)]) ⟨_,_,rfl,hs,aA _⟩ rfl (aOu A x (by omega)) rfl ?_
   simp only [go_sem,↓reduceIte,gYi]
   refine aC (aA _) rfl (aWN y (ev A x)) rfl ?_
   simp only [go_sem,↓reduceIte,gYi]
   refine aC (aA _) rfl (bCV (ev B x)) rfl ?_
   simp only [go_sem,↓reduceIte,gYi]
   refine aC (aA _) rfl (aGD (y-ev A x) (inv (ev B x))) rfl ?_
   simp only [go_sem,↓reduceIte,gYi]
   refine aC (aA _) rfl (aXi B [(y-ev A x)*inv (ev B x)] (by omega) (by simp)) rfl ?_
   simp only [go_sem,↓reduceIte,gYi]
   refine aC (args':=[.ls 1 (fl A),.ls 1 (fl (xW B [(y-ev A x)*inv (ev B x)]))]) ⟨_,_,rfl,hs,aA _⟩ rfl (bBf A (xW B [(y-ev A x)*inv (ev B x)]) (by omega) (by rcases hml with h | h<;>simp only [h,List.length_cons,List.length_nil] at*<;> omega)) rfl ?_
   simp only [go_sem,↓reduceIte]
   refine aC (aA _) rfl (bCS x) rfl ?_
   simp only [go_sem,↓reduceIte]
   refine aC (aA _) rfl (aXi B [0-x,1] (by omega) (by simp)) rfl ?_
   simp only [go_sem,↓reduceIte,ws,e5,e6]
 ·intro _
  have hd:decide (((l.length:Nat):Int)<(l.length:Int))=false:=decide_eq_false (by omega)
  obtain ⟨n,hn⟩:∃ n,l.length=n+1:=⟨l.length-1,by have:=List.length_pos_iff.2 h0;omega⟩
  have e5:s5 l l.length=.ls 1 (fl (yG l)):=by rw [hn,s5,<-hn,List.take_length];rfl
  simp only [go_sem,↓reduceIte,hd,e5]
end
end
section
def MP (D:List (Int×Bool)):AObj:=.map false (D.map fun e=>[.int .i64 e.1]) (D.map fun e=>.v (.bool e.2)) (List.range D.length) D.length
abbrev bBj (m:Nat) (e:Int×Nat×Bool):HOper:=⟨none,.mup false [.int .i64] (.tmp m) (.const (.int .i64 e.1)) (.tmp e.2.1),none⟩
theorem aQj {k:Int}:∀ (D:List (Int×Bool)) (i:Nat),k∉D.map (·.1)->jV [.int .i64] [.int .i64 k] (D.map fun e=>[.int .i64 e.1]) i=some none
 | [],_,_=>rfl
 | e::D,i,h=>by
  simp only [List.map_cons,List.mem_cons,not_or] at h
  have h1:(k==e.1)=false:=by simpa using h.1
  simp only [List.map_cons,jV,eqV,and_self,if_true,h1,Bool.false_and]
  exact aQj D (i+1) h.2
theorem aXk {T:Tab} {i:Nat} (hi:i<T.length) (o:AObj):bK (T.set i (some o)) i=some o:=by
 unfold bK;rw [List.getElem?_set_self hi]
theorem aZl (D:List (Int×Bool)) (e:Int×Bool):AObj.map false ((D.map fun e=>[.int .i64 e.1])++[[.int .i64 e.1]]) ((D.map fun e=>AV.v (.bool e.2))++[.v (.bool e.2)]) (List.range D.length++[D.length]) (D.length+1)=MP (D++[e]):=by
 simp only [MP,List.map_append,List.map_cons,List.map_nil,List.length_append,List.length_cons,List.length_nil,Nat.zero_add,List.range_succ]
theorem aTL {T:Tab} {i:Nat} (hi:i<T.length) {ev:Operand->AV} {m:Nat} {D:List (Int×Bool)} {e:Int×Nat×Bool} (hm:ev (.tmp m)=.mp i) (hk:ev (.const (.int .i64 e.1))=.v (.int .i64 e.1)) (hv:ev (.tmp e.2.1)=.v (.bool e.2.2)) (hn:e.1∉D.map (·.1)) :
  hop (T.set i (some (MP D))) ev (.mup false [.int .i64] (.tmp m) (.const (.int .i64 e.1)) (.tmp e.2.1))=some (.v undef,T.set i (some (MP (D++[(e.1,e.2.2)])))):=by
 have h1:aIq false [.int .i64] (.v (.int .i64 e.1))=some [.int .i64 e.1]:=by simp [aIq,eqV]
 simp only [hop,hm,aXk hi,hk,hv,h1]
 simp only [MP,if_true,aQj D 0 hn,List.set_set]
 rw [<-MP,<-aZl D (e.1,e.2.2)]
theorem aCT {α:Type}:∀ (l:List α) (j:Nat) (h:j<l.length),(l[j]::l.eraseIdx j).Perm l
 | x::l,0,_=>by simp
 | x::l,j+1,h=>by
  simp only [List.getElem_cons_succ,List.eraseIdx_cons_succ]
  exact (List.Perm.swap _ _ _).trans ((aCT l j (by simpa using h)).cons x)
theorem aKF {P:Program} {G:Nat->Option (List AV)} {chk:List HOper} {r:Nat} {s:List (Nat×AV)} {T0:Tab} {i m:Nat} {K:St->Prop} (hi:i<T0.length) (hm:aK s m=.mp i) (hc:∀ X,kK G ⟨r,s,T0.set i (some (MP X))⟩ chk) :
  ∀ (n:Nat) (l:List (Int×Nat×Bool)) (D:List (Int×Bool)),l.length=n->(∀ e∈l,aK s e.2.1=.v (.bool e.2.2))->(D.map (·.1)++l.map (·.1)).Nodup ->
   (∀ X,X.Perm (D++l.map fun e=>(e.1,e.2.2))->K ⟨r,s,T0.set i (some (MP X))⟩)->aDU P G chk n (l.map (bBj m)) ⟨r,s,T0.set i (some (MP D))⟩ K
 | 0,l,D,hl,_,_,hK=>by
  have:l=[]:=List.eq_nil_of_length_eq_zero hl
  subst this
  exact hK D (by simp)
 | n+1,l,D,hl,hv,hn,hK=>by
  intro j o ho
  rw [List.getElem?_map] at ho
  cases hj:l[j]? with
  | none=>rw [hj] at ho;simp at ho
  | some e =>
   rw [hj] at ho
   simp only [Option.map_some,Option.some.injEq] at ho
   subst ho
   obtain ⟨hjl,hje⟩:=List.getElem?_eq_some_iff.1 hj
   have hel:e∈l:=by rw [<-hje];exact List.getElem_mem hjl
   have hp:(e::l.eraseIdx j).Perm l:=by
    rw [<-hje];exact aCT l j hjl
   have hnD:e.1∉D.map (·.1):=fun h=>(List.nodup_append.1 hn).2.2 _ h _ (List.mem_map.2 ⟨e,hel,rfl⟩) rfl
   have hstep:=aTL (T:=T0) hi (ev:=evO G s) (m:=m) (D:=D) (e:=e) (by simpa [evO] using hm) rfl (by simpa [evO] using hv e hel) hnD
   have hmap:(l.map (bBj m)).eraseIdx j=(l.eraseIdx j).map (bBj m):=wQ _ l j
   simp only [cL,opW,hstep,cG]
   refine ⟨hc _,?_⟩
   rw [hmap]
   refine aKF hi hm hc n (l.eraseIdx j) (D++[(e.1,e.2.2)]) (by rw [List.length_eraseIdx_of_lt hjl];omega) (fun x hx=>hv x (List.mem_of_mem_eraseIdx hx)) ?_ fun X hX=>hK X (hX.trans ?_)
   ·refine (List.Perm.nodup_iff ?_).2 hn
    rw [List.map_append,List.append_assoc]
    refine List.Perm.append_left _ ?_
    have:=hp.map (·.1)
    simpa using this
   ·rw [List.append_assoc]
    refine List.Perm.append_left _ ?_
    have:=hp.map fun e:Int×Nat×Bool=>(e.1,e.2.2)
    simpa using this
theorem bAf {T:Tab} {i j since la:Nat} {seen:List Nat} {X:List (Int×Bool)} {K:AV->Tab->Prop} (hT:bK T i=some (.mit (some j) since seen la)) (hM:bK T j=some (MP X)) (h1:since<=la) (h2:X.length<=since)
  (hend:(∀ b,b<X.length->b∈seen)->K (.v (.tuple #[.bool false])) T)
  (hgo:∀ b (h:b<X.length),b∉seen->K (.tup [.v (.bool true),.v (.int .i64 X[b].1),.v (.bool X[b].2)]) (T.set i (some (.mit (some j) since (seen++[b]) X.length)))):@bAC T (.ptr i 0) ⟨K⟩:=by
 simp only [bAC,hT,hM,MP]
 refine ⟨h1,fun b hb=>Nat.lt_of_lt_of_le (List.mem_range.1 hb) h2,fun h=>hend fun b hb=>h b (List.mem_range.2 hb),fun e k v b hk hv hb hs=>?_⟩
 rw [List.getElem?_map] at hk hv
 cases he:X[e]? with
 | none=>rw [he] at hk;simp at hk
 | some x =>
  obtain ⟨hel,hex⟩:=List.getElem?_eq_some_iff.1 he
  rw [he] at hk hv
  simp only [Option.map_some,Option.some.injEq] at hk hv
  rw [List.getElem?_range hel] at hb
  simp only [Option.some.injEq] at hb
  subst hb
  have:=hgo e hel hs
  rw [hex] at this
  rw [<-hk,<-hv]
  exact this
theorem xB {n b:Nat} (h:b<n):(List.range n).findIdx? (· == b)=some b:=by
 rw [List.findIdx?_eq_some_iff_getElem]
 refine ⟨by simpa using h,by simp,fun k hk=>by simp;omega⟩
def orF (a:Nat) (e:Int×Bool):Nat:=if e.2 then a ||| e.1.toNat else a
theorem aXl (a:Nat) (x y:Int×Bool):orF (orF a x) y=orF (orF a y) x:=by
 unfold orF
 cases x.2<;>cases y.2<;>simp
 refine Nat.eq_of_testBit_eq fun i=>?_
 simp only [Nat.testBit_or,Bool.or_assoc]
 rw [Bool.or_comm (x.1.toNat.testBit i)]
def lE (X:List (Int×Bool)):Nat:=X.foldl orF 0
theorem aKG {X Y:List (Int×Bool)} (h:X.Perm Y):lE X=lE Y:=h.foldl_eq' (fun x _ y _ z=>aXl z x y) 0
def aEU (X:List (Int×Bool)) (seen:List Nat):List (Int×Bool):=seen.map fun b=>X.getD b (0,false)
theorem aZm {X:List (Int×Bool)} {seen:List Nat} (hn:seen.Nodup) (hs:∀ b∈seen,b<X.length) (ha:∀ b,b<X.length->b∈seen):(aEU X seen).Perm X:=by
 have h1:seen.Perm (List.range X.length):=(List.perm_ext_iff_of_nodup hn List.nodup_range).2 fun b=>by
  rw [List.mem_range];exact ⟨hs b,ha b⟩
 have h2:aEU X (List.range X.length)=X:=by
  unfold aEU
  refine List.ext_getElem (by simp) fun i h1 h2=>?_
  simp at h1
  simp [List.getD_eq_getElem?_getD,h1]
 have:=h1.map fun b=>X.getD b (0,false)
 rwa [show (List.range X.length).map (fun b=>X.getD b (0,false))=X from h2] at this
theorem bBk {P:Program} {G:Nat->Option (List AV)} {chk ops:List HOper} {next:HD} {st:St} {K:St->Prop} {n:Nat} (hn:ops.length=n) (h:aDU P G chk n ops st fun s=>@hdC P G next s ⟨K⟩):@hdC P G (.perm chk ops next) st ⟨K⟩:=by
 subst hn;exact h
theorem aXm (a b:Nat) (ha:a<65536) (hb:b<65536):aU .or (.int .i64 (a:Int)) (.int .i64 (b:Int))=some (.int .i64 ((a ||| b:Nat):Int)):=by
 have hc:a ||| b<65536:=Nat.or_lt_two_pow (n:=16) ha hb
 have h1:(BitVec.ofInt IntKind.i64.bits (a:Int) ||| BitVec.ofInt IntKind.i64.bits (b:Int)).toNat=a ||| b:=by
  have ea:(BitVec.ofInt 64 (a:Int)).toNat=a:=by simp [BitVec.toNat_ofInt];omega
  have eb:(BitVec.ofInt 64 (b:Int)).toNat=b:=by simp [BitVec.toNat_ofInt];omega
  show (BitVec.ofInt 64 (a:Int) ||| BitVec.ofInt 64 (b:Int)).toNat=a ||| b
  rw [BitVec.toNat_or,ea,eb]
 simp only [aU,if_true,h1]
 rw [aM (by omega) (by omega)]
theorem bBl {a:Nat} {e:Int×Bool} (ha:a<65536) (he:e.1.toNat<65536):orF a e<65536:=by
 unfold orF;split
 ·exact Nat.or_lt_two_pow (n:=16) ha he
 ·exact ha
theorem aSb:∀ (l:List (Int×Bool)) (a:Nat),a<65536->(∀ e∈l,e.1.toNat<65536)->l.foldl orF a<65536
 | [],_,h,_=>h
 | e::l,a,h,hl=>aSb l _ (bBl h (hl e List.mem_cons_self)) fun x hx=>hl x (List.mem_cons_of_mem _ hx)
theorem rN:∀ {M L:List Nat},M.Nodup->(∀ y∈M,y∈L)->M.length<=L.length
 | [],_,_,_=>Nat.zero_le _
 | y::M,L,hn,h=>by
  rw [List.nodup_cons] at hn
  have h1:=rN (M:=M) (L:=L.erase y) hn.2 fun z hz=>(List.mem_erase_of_ne (fun e:z=y=>hn.1 (by rw [e] at hz;exact hz))).2 (h z (List.mem_cons_of_mem _ hz))
  have h2:=List.length_erase_of_mem (h y List.mem_cons_self)
  have h3:=List.length_pos_of_mem (h y List.mem_cons_self)
  rw [List.length_cons];omega
theorem aVe (a b:Nat) (ha:a<65536) (hb:b<65536):aU .and (.int .i64 (a:Int)) (.int .i64 (b:Int))=some (.int .i64 ((a &&& b:Nat):Int)):=by
 have hc:a &&& b<=a:=Nat.and_le_left
 have h1:(BitVec.ofInt IntKind.i64.bits (a:Int) &&& BitVec.ofInt IntKind.i64.bits (b:Int)).toNat=a &&& b:=by
  have ea:(BitVec.ofInt 64 (a:Int)).toNat=a:=by simp [BitVec.toNat_ofInt];omega
  have eb:(BitVec.ofInt 64 (b:Int)).toNat=b:=by simp [BitVec.toNat_ofInt];omega
  show (BitVec.ofInt 64 (a:Int) &&& BitVec.ofInt 64 (b:Int)).toNat=a &&& b
  rw [BitVec.toNat_and,ea,eb]
 simp only [aU,if_true,h1]
 rw [aM (by omega) (by omega)]
end
section
def aCr {α:Type} (p:α->Bool) (l:List α):Int:=match l.findIdx? p with | some i=>(i:Int) | none=>-1
theorem tE {α:Type} {p:α->Bool} {l:List α} (h:∀ j (hj:j<l.length),p l[j]=false):aCr p l=-1:=by
 unfold aCr
 rw [List.findIdx?_eq_none_iff.2 fun x hx=>by obtain ⟨j,hj,rfl⟩:=List.getElem_of_mem hx;simp [h j hj]]
theorem tF {α:Type} {p:α->Bool} {l:List α} {i:Nat} (hi:i<l.length) (h:∀ j (hj:j<l.length),j<i->p l[j]=false) (h1:p l[i]=true):aCr p l=(i:Int):=by
 unfold aCr
 rw [List.findIdx?_eq_some_iff_getElem.2 ⟨hi,h1,fun j hj=>by simp [h j (by omega) hj]⟩]
theorem aAl {α:Type} (p:α->Bool) (l:List α):decide ((0:Int)<=aCr p l)=l.any p:=by
 unfold aCr
 cases h:l.findIdx? p with
 | none =>
  have:=List.findIdx?_eq_none_iff.1 h
  have h2:l.any p=false:=by simpa using this
  rw [h2];rfl
 | some i =>
  obtain ⟨h1,h2,h3⟩:=List.findIdx?_eq_some_iff_getElem.1 h
  have h4:l.any p=true:=List.any_eq_true.2 ⟨_,List.getElem_mem h1,h2⟩
  rw [h4];simp
def mS:List Nat:=[0,2064,32793,21,16,12,480,640,512,31744,8704,8705,512,33299]
def oK (k:Int):Nat:=mS.getD k.toNat 0
def gW (a b:Nat):Nat:=(BitVec.ofNat 64 a &&& ~~~(BitVec.ofNat 64 b)).toNat
def aBG (o:OpM):List (Int×Bool) :=
  [(1,inM o.Device (if o.Kind=3 then 0 else 1) 12),(2,inM o.Old 1 12),(4,if o.Kind=3 then (inM o.Member 1 8&&(o.Device==0))||((o.Member==0)&&(o.Device !=0)) else inM o.Member 1 8),(8,inM o.Role 1 3),(64,inM o.N 0 2147483647),(4096,inM o.Wait 0 2147483647),
   (2048,inM o.Need (if o.Kind=1 then 0 else 1) (if o.Kind=1 then 20 else o.Guards.length)),(32,jM o.Epoch),(512,jM o.Of),(16384,aFU o.Pub)]
def aM4 (h:Nat) (X:List (Int×Bool)):Bool:=X.all fun e=>(h &&& e.1.toNat==0)||e.2
def aKH (n:NodeM):Bool:=aFU n.Pub&&n.Boxes.all wY
def aKI (x:SealM):Bool:=jM x.Of
def aDG (n:Int):Bool:=inM n 1 12
def aXn (n:Nat):Bool:=okM (n:Int)
def xC (o:OpM) (h:Nat):Bool :=
 (inM o.By 1 12&&inM o.Seq 1 2147483647&&inM o.At 0 2147483647)&&(aM4 h (aBG o)&&(o.Guards.all aDG&&(o.Refs.all aXn&&(o.Past.all jM&&(o.Path.all aKH&&(o.Boxes.all wY&&o.Hist.all aKI))))))
def aNd (o:OpM):Bool :=
 (decide ((o.Past.length:Int)>12)||decide ((o.Path.length:Int)>5)||!(o.Path.all fun n=>decide ((n.Boxes.length:Int)<=12))||decide ((o.Body.length:Int)>208)||decide ((o.Refs.length:Int)>8)||decide ((o.Hist.length:Int)>20)||!(o.Hist.all fun x=>decide ((x.Body.length:Int)<=208))||decide ((o.Guards.length:Int)>6)) ||
 (if o.Kind==7 then !inM (o.Body.length:Int) 1 20 else if o.Kind==9 then (o.Boxes.length:Int)!=(o.Guards.length:Int) else if o.Kind==10 then !inM (o.Boxes.length:Int) 1 6 else if o.Kind==11 then (o.Boxes.length:Int)!=1 else false)
def mT {α:Type} (lt:α->α->Bool):List α->Bool
 | x::y::l=>lt x y&&mT lt (y::l)
 | _=>true
def aXo (o:OpM):Bool:=mT Id.lt o.Past&&mT (fun a b:Int=>decide (a<b)) o.Guards
def uN (o:OpM):Int :=
 if o.Kind<1\/13<o.Kind then 1
 else if gW (lE (eB o)) (oK o.Kind)≠0 then 1
 else if xC o (oK o.Kind)=false then 8
 else if aNd o then 2
 else if aXo o=false then 6
 else if decide (o.Past.length=0)≠decide (o.Kind=1) then 10 else 0
def aTM (k:Int):Bool:=k==1||k==2||k==3||k==4||k==13
def aNe (o:OpM):Bool :=
 let k:=o.Kind
 let bDf:=k==7||k==8||k==12||k==10||k==11||k==13
 !(o.Device !=0&&k !=2&&k !=3&&k !=11&&k !=13) &&
 !((o.Old !=0&&k !=13)||(o.Member !=0&&k !=3&&k !=5)||(o.Role !=0&&k !=2&&k !=5)) &&
 !(decide ((o.Path.length:Int)>0)&&!aTM k) &&
 !(k !=6&&((!(o.Epoch.a==0&&(o.Epoch.b==0&&o.Epoch.c==0)))||o.N !=0||decide ((o.Refs.length:Int)>0))) &&
 !((decide ((o.Body.length:Int)>0)&&k !=6&&k !=7)||((!(o.Of.a==0&&(o.Of.b==0&&o.Of.c==0)))&&!bDf)) &&
 !(k !=9&&(decide ((o.Guards.length:Int)>0)||o.Wait !=0||(o.Pub:Int)!=0)) &&
 !((o.Need !=0&&k !=9&&k !=1)||(decide ((o.Boxes.length:Int)>0)&&k !=9&&k !=10&&k !=11)) &&
 (((o.Hist.length:Int)==0)||k==2||k==13)
def yH (o:OpM):Bool :=
  (inM o.By 1 12&&inM o.Seq 1 2147483647&&inM o.At 0 2147483647) &&
  (if o.Kind=1 then inM o.Need 0 20
   else if o.Kind=2 then inM o.Device 1 12&&inM o.Role 1 3
   else if o.Kind=3 then (inM o.Device 1 12&&o.Member==0)||(o.Device==0&&inM o.Member 1 8)
   else if o.Kind=5 then inM o.Member 1 8&&inM o.Role 1 3
   else if o.Kind=6 then jM o.Epoch&&inM o.N 0 2147483647
   else if o.Kind=9 then inM o.Need 1 o.Guards.length&&inM o.Wait 0 2147483647&&aFU o.Pub
   else if o.Kind=11 then jM o.Of&&inM o.Device 1 12
   else if o.Kind=13 then jM o.Of&&inM o.Device 1 12&&inM o.Old 1 12
   else if o.Kind=4 then true
   else jM o.Of)
def aOy (o:OpM):Bool:=o.Guards.all aDG&&(o.Refs.all aXn&&(o.Past.all jM&&(o.Path.all aKH&&(o.Hist.all aKI&&o.Boxes.all wY))))
def aBH (o:OpM):Int :=
 if o.Kind<1\/13<o.Kind then 1
 else if aNe o=false then 1
 else if (yH o&&aOy o)=false then 8
 else if aNd o then 2
 else if mT Id.lt o.Past=false then 6
 else if mT (fun a b:Int=>decide (a<b)) o.Guards=false then 6
 else if decide (o.Past.length=0)≠decide (o.Kind=1) then 10 else 0
theorem aCU (i:Nat):∀ (X:List (Int×Bool)) (a:Nat),(X.foldl orF a).testBit i=(a.testBit i||X.any fun e=>e.2&&e.1.toNat.testBit i)
 | [],a=>by simp
 | e::X,a=>by
  simp only [List.foldl_cons,List.any_cons,aCU i X]
  unfold orF
  cases h:e.2<;>simp [Nat.testBit_or,Bool.or_assoc]
theorem aQk {a b:Nat} (ha:a<65536) (hb:b<65536):gW a b=0↔∀ i,i<16->a.testBit i=true->b.testBit i=true:=by
 have hx:∀ i,(gW a b).testBit i=(decide (i<64)&&(a.testBit i&&!b.testBit i)):=fun i=>by
  unfold gW
  rw [BitVec.testBit_toNat,BitVec.getLsbD_and,BitVec.getLsbD_not,BitVec.getLsbD_ofNat,BitVec.getLsbD_ofNat]
  cases decide (i<64)<;>simp
 constructor
 ·intro h i hi h1
  have:=hx i
  rw [h,Nat.zero_testBit] at this
  have h64:i<64:=by omega
  simp [h64,h1] at this
  exact this
 ·intro h
  refine Nat.eq_of_testBit_eq fun i=>?_
  rw [hx,Nat.zero_testBit]
  rcases Nat.lt_or_ge i 16 with h1 | h1
  ·have:=h i h1
   cases h2:a.testBit i
   ·simp
   ·rw [this h2];simp
  ·rw [Nat.testBit_lt_two_pow (Nat.lt_of_lt_of_le ha (Nat.le_trans (by decide) (Nat.pow_le_pow_right (by decide) h1)))];simp
theorem aKJ (o:OpM):lE (eB o)<65536:=aSb _ 0 (by decide) fun e he=>by
 simp only [eB,List.mem_cons,List.not_mem_nil,or_false] at he
 rcases he with rfl | rfl | rfl | rfl | rfl | rfl | rfl | rfl | rfl | rfl | rfl | rfl | rfl | rfl | rfl | rfl<;>simp
def aSc:List Nat:=[0,1,2,3,4,5,6,7,8,9,10,11,12,13,14,15]
theorem aOz (k:Int):oK k<65536:=by
 unfold oK mS
 rcases Nat.lt_or_ge k.toNat 14 with h | h
 ·generalize k.toNat=n at *
  have:∀ n,n<14->[0,2064,32793,21,16,12,480,640,512,31744,8704,8705,512,33299].getD n 0<65536:=by decide
  exact this n h
 ·rw [List.getD_eq_getElem?_getD,List.getElem?_eq_none (by simpa using h)];decide
def aBI (o:OpM):List (Bool×Nat):=((eB o).map (·.2)).zip aSc
theorem aQl (o:OpM):eB o=(aBI o).map fun e=>(((2^e.2:Nat):Int),e.1):=rfl
theorem aOA (o:OpM) (m:Nat) (hm:m<65536):(gW (lE (eB o)) m=0)↔(aBI o).all (fun e=>!e.1||m.testBit e.2)=true:=by
 rw [aQk (aKJ o) hm]
 have h1:∀ i,(lE (eB o)).testBit i=(aBI o).any fun e=>e.1&&decide (e.2=i):=fun i=>by
  unfold lE
  rw [aCU,aQl,Nat.zero_testBit,Bool.false_or,List.any_map]
  congr 1
  funext e
  simp only [Function.comp,Int.toNat_natCast,Nat.testBit_two_pow]
 have h2:∀ e∈aBI o,e.2<16:=fun e he=>by
  have:=(List.of_mem_zip (show (e.1,e.2)∈_ from he)).2
  simp only [aSc,List.mem_cons,List.not_mem_nil,or_false] at this
  omega
 simp only [h1,List.any_eq_true,List.all_eq_true,Bool.and_eq_true,decide_eq_true_eq,Bool.or_eq_true,Bool.not_eq_true']
 constructor
 ·intro h e he
  cases hb:e.1
  ·exact .inl rfl
  ·exact .inr (h e.2 (h2 e he) ⟨e,he,hb,rfl⟩)
 ·rintro h i hi ⟨e,he,hb,rfl⟩
  exact (h e he).resolve_left (by simp [hb])
theorem aTN {k:Int} (h1:¬k<1) (h2:¬13<k):k=1\/k=2\/k=3\/k=4\/k=5\/k=6\/k=7\/k=8\/k=9\/k=10\/k=11\/k=12\/k=13:=by omega
theorem bBm (o:OpM):((o.Hist.length:Int)==0)=!(decide ((o.Hist.length:Int)>0)):=by
 cases o.Hist<;>simp<;>omega
theorem aOB (o:OpM) (h1:¬o.Kind<1) (h2:¬13<o.Kind):(gW (lE (eB o)) (oK o.Kind)=0)↔aNe o=true:=by
 rw [aOA o _ (aOz _)]
 unfold aNe
 rw [bBm]
 simp only [aBI,eB,aSc,List.map_cons,List.map_nil,List.zip_cons_cons,List.zip_nil_right,List.all_cons,List.all_nil,Bool.and_true]
 generalize (o.Device !=0)=b0
 generalize (o.Old !=0)=b1
 generalize (o.Member !=0)=b2
 generalize (o.Role !=0)=b3
 generalize (decide ((o.Path.length:Int)>0))=b4
 generalize (!(o.Epoch.a==0&&(o.Epoch.b==0&&o.Epoch.c==0)))=b5
 generalize (o.N !=0)=b6
 generalize (decide ((o.Body.length:Int)>0))=b7
 generalize (decide ((o.Refs.length:Int)>0))=b8
 generalize (!(o.Of.a==0&&(o.Of.b==0&&o.Of.c==0)))=b9
 generalize (decide ((o.Guards.length:Int)>0))=b10
 generalize (o.Need !=0)=b11
 generalize (o.Wait !=0)=b12
 generalize (decide ((o.Boxes.length:Int)>0))=b13
 generalize ((o.Pub:Int)!=0)=b14
 generalize (decide ((o.Hist.length:Int)>0))=b15
 rcases aTN h1 h2 with h | h | h | h | h | h | h | h | h | h | h | h | h<;>rw [h]
 all_goals
  simp only [aTM,show ∀ a b:Int,(a==b)=decide (a=b) from fun _ _=>rfl]
  simp [oK,mS,Nat.testBit,Nat.shiftRight_eq_div_pow]
  try grind
theorem aM5 (o:OpM) (h1:¬o.Kind<1) (h2:¬13<o.Kind):xC o (oK o.Kind)=(yH o&&aOy o):=by
 have hi:(o.Guards.all aDG&&(o.Refs.all aXn&&(o.Past.all jM&&(o.Path.all aKH&&(o.Boxes.all wY&&o.Hist.all aKI)))))=aOy o:=by
  unfold aOy
  rw [Bool.and_comm (o.Boxes.all wY)]
 unfold xC yH
 rw [hi,Bool.and_assoc (inM o.By 1 12&&inM o.Seq 1 2147483647&&inM o.At 0 2147483647)]
 congr 1
 congr 1
 unfold aM4 aBG
 rcases aTN h1 h2 with h | h | h | h | h | h | h | h | h | h | h | h | h<;>rw [h]
 all_goals
  simp [oK,mS]
  try grind
 unfold inM
 rw [Bool.eq_iff_iff]
 simp
 omega
theorem aKK (o:OpM):uN o=aBH o:=by
 unfold uN aBH
 by_cases h0:o.Kind<1\/13<o.Kind
 ·rw [if_pos h0,if_pos h0]
 rw [if_neg h0,if_neg h0]
 have h1:¬o.Kind<1:=fun h=>h0 (.inl h)
 have h2:¬13<o.Kind:=fun h=>h0 (.inr h)
 have hb:=aOB o h1 h2
 rw [aM5 o h1 h2]
 unfold aXo
 by_cases hc:gW (lE (eB o)) (oK o.Kind)=0
 ·rw [if_neg (show ¬(gW (lE (eB o)) (oK o.Kind)≠0) by simp [hc]),if_neg (show ¬(aNe o=false) by simp [hb.1 hc])]
  cases mT Id.lt o.Past<;>cases mT (fun a b:Int=>decide (a<b)) o.Guards<;>simp
 ·rw [if_pos hc,if_pos (show aNe o=false by cases h:aNe o with | false=>rfl | true=>exact (hc (hb.2 h)).elim)]
end
end Hud
