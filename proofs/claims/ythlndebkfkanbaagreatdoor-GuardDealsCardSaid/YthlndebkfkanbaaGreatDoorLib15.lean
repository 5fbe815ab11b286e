import Derived.Test.YthlndebkfkanbaaGreatDoorLib14
set_option linter.all false
namespace Hud
open Go
section
open Go.Proofs.Tryz
def OpM.B (o:OpM):List Nat :=
 fB [o.By,o.Seq,o.Kind,o.At]++(jN Id.B o.Past++(fB [o.Device,o.Old,o.Member,o.Role]++(jN NodeM.B o.Path++(o.Epoch.B++(cB o.N++(aCJ o.Body++(jN jL o.Refs++(o.Of.B++(jN cB o.Guards++(fB [o.Need,o.Wait]++(jN BoxM.B o.Boxes++(jL o.Pub++jN SealM.B o.Hist))))))))))))
theorem oJ:fB []=[]:=rfl
theorem lT (x:Int) (l:List Int):fB (x::l)=cB x++fB l:=by simp [fB]
theorem aKx {l:List Int} {i:Nat} (h:i<l.length):fB (l.take (i+1))=fB (l.take i)++cB l[i]:=by rw [List.take_succ_eq_append_getElem h,aRU]
def aX4 (A:List Nat) (l:List Int):Nat->Tab
 | 0=>[some (.arr 1 (l.map fun n=>[iv n])),some (.box [.ptr 2 0]),some (.box [.own 3]),some (.arr 1 (bl A))]
 | i+1=>[some (.arr 1 (l.map fun n=>[iv n])),some (.box [.ptr 2 0]),some (.box [.own 4]),none,some (.arr 1 (bl (A++fB (l.take (i+1)))))]
theorem aOr (A:List Nat) (l:List Int):aX4 A l 0=[some (.arr 1 (l.map fun n=>[iv n])),some (.box [.ptr 2 0]),some (.box [.own 3]),some (.arr 1 (bl A))]:=rfl
theorem aIe (A:List Nat) (l:List Int) (i:Nat):aX4 A l (i+1)=[some (.arr 1 (l.map fun n=>[iv n])),some (.box [.ptr 2 0]),some (.box [.own 4]),none,some (.arr 1 (bl (A++fB (l.take (i+1)))))]:=rfl
def aX5 (a b c d:Int):Nat->Tab
 | 0=>[some (.arr 1 [[iv a],[iv b],[iv c],[iv d]]),some (.box [.ptr 2 0]),some (.box [.v (.slice none 0 0)])]
 | i+1=>[some (.arr 1 [[iv a],[iv b],[iv c],[iv d]]),some (.box [.ptr 2 0]),some (.box [.own 3]),some (.arr 1 (bl (fB ([a,b,c,d].take (i+1)))))]
theorem aTC (a b c d:Int):aX5 a b c d 0=[some (.arr 1 [[iv a],[iv b],[iv c],[iv d]]),some (.box [.ptr 2 0]),some (.box [.v (.slice none 0 0)])]:=rfl
theorem wD (a b c d:Int) (i:Nat):aX5 a b c d (i+1)=[some (.arr 1 [[iv a],[iv b],[iv c],[iv d]]),some (.box [.ptr 2 0]),some (.box [.own 3]),some (.arr 1 (bl (fB ([a,b,c,d].take (i+1)))))]:=rfl
section
variable {G:Nat->Option (List AV)}
set_option maxHeartbeats 4000000
theorem aX6 (A:List Nat) (l:List Int) (hA:A.length<=600000) (hl:l.length<=1000) (hn:∀ x∈l,okN x):aD prog G oC [.own 0,.ptr 1 0] [some (.arr 1 (l.map fun n=>[iv n])),some (.box [.ptr 2 0]),some (.box [.own 3]),some (.arr 1 (bl A))] fun r T'=>T'=[some (.arr 1 (l.map fun n=>[iv n])),some (.box [.ptr 2 0]),some (.box [.own 4]),none,some (.arr 1 (bl (A++fB l)))]\/(l=[]/\T'=[some (.arr 1 (l.map fun n=>[iv n])),some (.box [.ptr 2 0]),some (.box [.own 3]),some (.arr 1 (bl A))]):=by
 refine aF aBy (by decide) ?_
 unfold aBx
 dsimp only [zj,zT,zF,zC,zE,zP,zQ,zq,zA,zm,zo,zs,zg,zh,zl,zv,zf,zi,zn,zb,zc,ze,zk,zw,zu,zt,zr,zR,zK,zN,zS,z0,zU]
 simp only [go_sem,↓reduceIte,List.length_map]
 refine aL l.length (fun i=>⟨4,[(1,.ptr 1 0),(5,.own 0),(6,.v (.int .i64 (l.length:Int))),(7,.v (.int .i64 (i:Int)))],aX4 A l i⟩) (fun _=>True) ?_ trivial ?_ ?_
 ·simp only [go_sem,↓reduceIte,aOr]
 ·intro i hi _
  have g0:(l.map fun n=>[iv n])[i]?=some [iv l[i]]:=aX _ l i hi
  have hx:=hn l[i] (List.getElem_mem hi)
  have ws:=aH (show i<9223372036854775807 by omega)
  cases i with
  | zero =>
   have e1:fB (l.take (0+1))=cB l[0]:=by rw [aKx hi];simp [fB]
   rw [aOr,aIe,e1]
   simp only [go_sem,↓reduceIte,List.length_map,bQ hi,show decide ((0:Int)<(l.length:Int))=true from decide_eq_true (by omega),hi,g0]
   refine aG [2,3] (aA _) (by decide) (by simp) rfl rfl (sH A l[0] (by omega) hx.1 hx.2) ?_
   rintro r T' rfl
   simp only [go_sem,↓reduceIte,ws,List.map_append]
  | succ i =>
   have k1:=oG (l.take (i+1))
   rw [List.length_take] at k1
   rw [aIe,aIe,aKx hi]
   generalize fB (l.take (i+1))=X at *
   generalize l[i+1]=x at *
   simp only [go_sem,↓reduceIte,List.length_map,bQ hi,hi,g0]
   rw [<-List.map_append]
   refine aG [2,4] (aA _) (by decide) (by simp) rfl rfl (sH (A++X) x (by rw [List.length_append];omega) hx.1 hx.2) ?_
   rintro r T' rfl
   simp only [go_sem,↓reduceIte,List.map_append,List.append_assoc,ws]
 ·intro _
  cases l with
  | nil=>simp only [List.length_nil,aOr,go_sem,↓reduceIte];exact .inr trivial
  | cons x l =>
   simp only [List.length_cons]
   rw [aIe,show (x::l).take (l.length+1)=x::l from List.take_of_length_le (by simp)]
   simp only [go_sem,↓reduceIte,List.length_map,show decide (((l.length+1:Nat):Int)<((l.length+1:Nat):Int))=false from decide_eq_false (by omega)]
   exact .inl trivial
theorem aZe (A:List Nat) (a b c d:Int) (hA:A.length<=600000) (ha:okN a) (hb:okN b) (hc:okN c) (hd:okN d):aD prog G oC [.own 0,.ptr 1 0] [some (.arr 1 [[iv a],[iv b],[iv c],[iv d]]),some (.box [.ptr 2 0]),some (.box [.own 3]),some (.arr 1 (bl A))] fun r T'=>T'=[some (.arr 1 [[iv a],[iv b],[iv c],[iv d]]),some (.box [.ptr 2 0]),some (.box [.own 4]),none,some (.arr 1 (bl (A++fB [a,b,c,d])))] :=
 (aX6 (G:=G) A [a,b,c,d] hA (by simp) (by simp only [List.mem_cons,List.not_mem_nil,or_false];rintro x (rfl | rfl | rfl | rfl)<;>assumption)).mono fun r T' h=>by
  rcases h with h | ⟨h,_⟩
  ·exact h
  ·simp at h
theorem aZf (A:List Nat) (a b:Int) (hA:A.length<=600000) (ha:okN a) (hb:okN b):aD prog G oC [.own 0,.ptr 1 0] [some (.arr 1 [[iv a],[iv b]]),some (.box [.ptr 2 0]),some (.box [.own 3]),some (.arr 1 (bl A))] fun r T'=>T'=[some (.arr 1 [[iv a],[iv b]]),some (.box [.ptr 2 0]),some (.box [.own 4]),none,some (.arr 1 (bl (A++fB [a,b])))] :=
 (aX6 (G:=G) A [a,b] hA (by simp) (by simp only [List.mem_cons,List.not_mem_nil,or_false];rintro x (rfl | rfl)<;>assumption)).mono fun r T' h=>by
  rcases h with h | ⟨h,_⟩
  ·exact h
  ·simp at h
theorem aZg (a b c d:Int) (ha:okN a) (hb:okN b) (hc:okN c) (hd:okN d):aD prog G oC [.own 0,.ptr 1 0] [some (.arr 1 [[iv a],[iv b],[iv c],[iv d]]),some (.box [.ptr 2 0]),some (.box [.v (.slice none 0 0)])] fun r T'=>T'=[some (.arr 1 [[iv a],[iv b],[iv c],[iv d]]),some (.box [.ptr 2 0]),some (.box [.own 3]),some (.arr 1 (bl (fB [a,b,c,d])))]:=by
 refine aF aBy (by decide) ?_
 unfold aBx
 dsimp only [zj,zT,zF,zC,zE,zP,zQ,zq,zA,zm,zo,zs,zg,zh,zl,zv,zf,zi,zn,zb,zc,ze,zk,zw,zu,zt,zr,zR,zK,zN,zS,z0,zU]
 have la:=cC a
 have lb:=cC b
 have lc:=cC c
 simp only [go_sem,↓reduceIte]
 refine aL 4 (fun i=>⟨3,[(1,.ptr 1 0),(5,.own 0),(6,.v (.int .i64 4)),(7,.v (.int .i64 (i:Int)))],aX5 a b c d i⟩) (fun _=>True) ?_ trivial ?_ ?_
 ·simp only [go_sem,↓reduceIte,aTC]
 ·intro i hi _
  rcases i with _ | _ | _ | _ | i
  ·rw [aTC,wD]
   simp only [go_sem,↓reduceIte,lT,oJ]
   refine aG [2] (aA _) (by decide) (by simp) rfl rfl (bB4 a ha.1 ha.2) ?_
   rintro r T' rfl
   simp only [go_sem,↓reduceIte,lT,oJ]
  ·rw [wD,wD]
   simp only [go_sem,↓reduceIte,lT,oJ]
   refine aG [2,3] (aA _) (by decide) (by simp) rfl rfl (sH (cB a) b (by omega) hb.1 hb.2) ?_
   rintro r T' rfl
   simp only [go_sem,↓reduceIte,lT,oJ,List.map_append,List.append_assoc]
  ·rw [wD,wD]
   simp only [go_sem,↓reduceIte,lT,oJ]
   rw [<-List.map_append]
   refine aG [2,3] (aA _) (by decide) (by simp) rfl rfl (sH (cB a++cB b) c (by rw [List.length_append];omega) hc.1 hc.2) ?_
   rintro r T' rfl
   simp only [go_sem,↓reduceIte,lT,oJ,List.map_append,List.append_assoc]
  ·rw [wD,wD]
   simp only [go_sem,↓reduceIte,lT,oJ]
   rw [<-List.map_append,<-List.map_append]
   refine aG [2,3] (aA _) (by decide) (by simp) rfl rfl (sH (cB a++(cB b++cB c)) d (by rw [List.length_append,List.length_append];omega) hd.1 hd.2) ?_
   rintro r T' rfl
   simp only [go_sem,↓reduceIte,lT,oJ,List.map_append,List.append_assoc]
  ·omega
 ·intro _
  rw [wD]
  simp only [go_sem,↓reduceIte]
theorem aTD (o:OpM) (ho:o.ok):aD prog G aC3 [.ag o.A] [] fun r T'=>r=.ptr 0 0/\T'=[some (.box [.own 1]),some (.arr 1 (bl o.B))]:=by
 refine aF aOp (by decide) ?_
 unfold aN8
 dsimp only [zj,zT,zF,zC,zE,zP,zQ,zq,zA,zm,zo,zs,zg,zh,zl,zv,zf,zi,zn,zb,zc,ze,zk,zw,zu,zt,zr,zR,zK,zN,zS,z0,zU]
 have hi:∀ n,n∈[o.By,o.Seq,o.Kind,o.At,o.Device,o.Old,o.Member,o.Role,o.N,o.Need,o.Wait]->okN n:=ho.ints
 have b1:(fB [o.By,o.Seq,o.Kind,o.At]).length<=40:=oG [o.By,o.Seq,o.Kind,o.At]
 have b2:(jN Id.B o.Past).length<=30010:=by have:=jO (f:=Id.B) (l:=o.Past) (k:=30) fun x _=>Id.B_len x;have:=ho.past.1;omega
 have b3:(fB [o.Device,o.Old,o.Member,o.Role]).length<=40:=oG [o.Device,o.Old,o.Member,o.Role]
 have b4:(jN NodeM.B o.Path).length<=40210:=by have:=jO (f:=NodeM.B) (l:=o.Path) (k:=4020) fun x h=>aKu (ho.path.2 x h);have:=ho.path.1;omega
 have b5:o.Epoch.B.length<=30:=Id.B_len _
 have b6:(cB o.N).length<=10:=cC _
 have b7:(aCJ o.Body).length<=1010:=by unfold aCJ;rw [List.length_append];have:=cC (o.Body.length:Int);have:=ho.body.1;omega
 have b8:(jN jL o.Refs).length<=10010:=by have:=jO (f:=jL) (l:=o.Refs) (k:=10) fun x _=>iR x;have:=ho.refs.1;omega
 have b9:o.Of.B.length<=30:=Id.B_len _
 have b10:(jN cB o.Guards).length<=10010:=by have:=jO (f:=cB) (l:=o.Guards) (k:=10) fun x _=>cC x;have:=ho.guards.1;omega
 have b11:(fB [o.Need,o.Wait]).length<=20:=oG [o.Need,o.Wait]
 have b12:(jN BoxM.B o.Boxes).length<=40010:=by have:=jO (f:=BoxM.B) (l:=o.Boxes) (k:=40) fun x _=>aIc x;have:=ho.boxes.1;omega
 have b13:(jL o.Pub).length<=10:=iR _
 have b14:(jN SealM.B o.Hist).length<=104010:=by have:=jO (f:=SealM.B) (l:=o.Hist) (k:=1040) fun x h=>aKv (ho.hist.2 x h);have:=ho.hist.1;omega
 simp only [go_sem,↓reduceIte]
 refine aG [4,2,1] (aA _) (by decide) (by simp) rfl rfl (aZg o.By o.Seq o.Kind o.At (hi _ (by simp)) (hi _ (by simp)) (hi _ (by simp)) (hi _ (by simp))) ?_
 rintro r T' rfl
 obtain ⟨A1,hA1⟩:∃ A1,A1=fB [o.By,o.Seq,o.Kind,o.At]:=⟨_,rfl⟩
 rw [<-hA1]
 have l1:A1.length<=40:=by rw [hA1];exact b1
 simp only [go_sem,↓reduceIte]
 refine aG [1,5] (aA _) (by decide) (by simp) rfl rfl (aZd A1 o.Past (by omega) ho.past.1 ho.past.2) ?_
 rintro r T' rfl
 obtain ⟨A2,hA2⟩:∃ A2,A2=A1++(jN Id.B o.Past):=⟨_,rfl⟩
 rw [<-hA2]
 have l2:A2.length<=30050:=by rw [hA2,List.length_append];omega
 simp only [go_sem,↓reduceIte,↓gR]
 refine aG [7,2,1,6] (aA _) (by decide) (by simp) rfl rfl (aZe A2 o.Device o.Old o.Member o.Role (by omega) (hi _ (by simp)) (hi _ (by simp)) (hi _ (by simp)) (hi _ (by simp))) ?_
 rintro r T' rfl
 obtain ⟨A3,hA3⟩:∃ A3,A3=A2++(fB [o.Device,o.Old,o.Member,o.Role]):=⟨_,rfl⟩
 rw [<-hA3]
 have l3:A3.length<=30090:=by rw [hA3,List.length_append];omega
 simp only [go_sem,↓reduceIte,↓gR]
 refine aG [1,8,2,3] (aA _) (by decide) (by simp) rfl rfl (aV6 A3 o.Path (by omega) ho.path.1 ho.path.2) ?_
 rintro r T' rfl
 obtain ⟨A4,hA4⟩:∃ A4,A4=A3++(jN NodeM.B o.Path):=⟨_,rfl⟩
 rw [<-hA4]
 have l4:A4.length<=70300:=by rw [hA4,List.length_append];omega
 simp only [go_sem,↓reduceIte,↓gR]
 refine aG [1,9] (aA _) (by decide) (by simp) rfl rfl (aZc A4 o.Epoch (by omega) ho.epoch) ?_
 rintro r T' rfl
 obtain ⟨A5,hA5⟩:∃ A5,A5=A4++o.Epoch.B:=⟨_,rfl⟩
 rw [<-hA5]
 have l5:A5.length<=70330:=by rw [hA5,List.length_append];omega
 simp only [go_sem,↓reduceIte,↓gR]
 refine aG [1,10] (aA _) (by decide) (by simp) rfl rfl (sH A5 o.N (by omega) (hi o.N (by simp)).1 (hi o.N (by simp)).2) ?_
 rintro r T' rfl
 obtain ⟨A6,hA6⟩:∃ A6,A6=A5++(cB o.N):=⟨_,rfl⟩
 rw [<-hA6]
 have l6:A6.length<=70340:=by rw [hA6,List.length_append];omega
 simp only [go_sem,↓reduceIte,↓gR]
 refine aG [1,11] (aA _) (by decide) (by simp) rfl rfl (aWZ A6 (bsN o.Body) o.Body (aKt ho.body.2) (aQ1 _) (by omega) (by have:=ho.body.1;omega)) ?_
 rintro r T' rfl
 obtain ⟨A7,hA7⟩:∃ A7,A7=A6++aCJ o.Body:=⟨_,rfl⟩
 rw [show A6++(cB (o.Body.length:Int)++o.Body)=A7 from hA7.symm]
 have l7:A7.length<=71350:=by rw [hA7,List.length_append];omega
 simp only [go_sem,↓reduceIte,↓gR]
 refine aG [1,12] (aA _) (by decide) (by simp) rfl rfl (aX2 A7 o.Refs (by omega) ho.refs.1 ho.refs.2) ?_
 rintro r T' rfl
 obtain ⟨A8,hA8⟩:∃ A8,A8=A7++(jN jL o.Refs):=⟨_,rfl⟩
 rw [<-hA8]
 have l8:A8.length<=81360:=by rw [hA8,List.length_append];omega
 simp only [go_sem,↓reduceIte,↓gR]
 refine aG [1,13] (aA _) (by decide) (by simp) rfl rfl (aZc A8 o.Of (by omega) ho.of) ?_
 rintro r T' rfl
 obtain ⟨A9,hA9⟩:∃ A9,A9=A8++o.Of.B:=⟨_,rfl⟩
 rw [<-hA9]
 have l9:A9.length<=81390:=by rw [hA9,List.length_append];omega
 simp only [go_sem,↓reduceIte,↓gR]
 refine aG [1,14] (aA _) (by decide) (by simp) rfl rfl (aX1 A9 o.Guards (by omega) ho.guards.1 ho.guards.2) ?_
 rintro r T' rfl
 obtain ⟨A10,hA10⟩:∃ A10,A10=A9++(jN cB o.Guards):=⟨_,rfl⟩
 rw [<-hA10]
 have l10:A10.length<=91400:=by rw [hA10,List.length_append];omega
 simp only [go_sem,↓reduceIte,↓gR]
 refine aG [16,2,1,15] (aA _) (by decide) (by simp) rfl rfl (aZf A10 o.Need o.Wait (by omega) (hi _ (by simp)) (hi _ (by simp))) ?_
 rintro r T' rfl
 obtain ⟨A11,hA11⟩:∃ A11,A11=A10++(fB [o.Need,o.Wait]):=⟨_,rfl⟩
 rw [<-hA11]
 have l11:A11.length<=91420:=by rw [hA11,List.length_append];omega
 simp only [go_sem,↓reduceIte,↓gR]
 refine aG [1,17,2] (aA _) (by decide) (by simp) rfl rfl (aQ2 A11 o.Boxes (by omega) ho.boxes.1 ho.boxes.2) ?_
 rintro r T' rfl
 obtain ⟨A12,hA12⟩:∃ A12,A12=A11++(jN BoxM.B o.Boxes):=⟨_,rfl⟩
 rw [<-hA12]
 have l12:A12.length<=131430:=by rw [hA12,List.length_append];omega
 simp only [go_sem,↓reduceIte,↓gR]
 refine aG [1,18] (aA _) (by decide) (by simp) rfl rfl (aEG A12 o.Pub (by omega) (ho.nums o.Pub (by simp))) ?_
 rintro r T' rfl
 obtain ⟨A13,hA13⟩:∃ A13,A13=A12++(jL o.Pub):=⟨_,rfl⟩
 rw [<-hA13]
 have l13:A13.length<=131440:=by rw [hA13,List.length_append];omega
 simp only [go_sem,↓reduceIte,↓gR]
 refine aG [1,19,2] (aA _) (by decide) (by simp) rfl rfl (aV7 A13 o.Hist (by omega) ho.hist.1 ho.hist.2) ?_
 rintro r T' rfl
 obtain ⟨A14,hA14⟩:∃ A14,A14=A13++(jN SealM.B o.Hist):=⟨_,rfl⟩
 rw [<-hA14]
 have l14:A14.length<=235450:=by rw [hA14,List.length_append];omega
 simp only [go_sem,↓reduceIte,↓gR]
 rw [hA14,hA13,hA12,hA11,hA10,hA9,hA8,hA7,hA6,hA5,hA4,hA3,hA2,hA1]
 simp only [OpM.B,List.append_assoc]
theorem OpM.B_len (o:OpM) (ho:o.ok):o.B.length<=300000:=by
 have b1:(fB [o.By,o.Seq,o.Kind,o.At]).length<=40:=oG [o.By,o.Seq,o.Kind,o.At]
 have b2:(jN Id.B o.Past).length<=30010:=by have:=jO (f:=Id.B) (l:=o.Past) (k:=30) fun x _=>Id.B_len x;have:=ho.past.1;omega
 have b3:(fB [o.Device,o.Old,o.Member,o.Role]).length<=40:=oG [o.Device,o.Old,o.Member,o.Role]
 have b4:(jN NodeM.B o.Path).length<=40210:=by have:=jO (f:=NodeM.B) (l:=o.Path) (k:=4020) fun x h=>aKu (ho.path.2 x h);have:=ho.path.1;omega
 have b5:o.Epoch.B.length<=30:=Id.B_len _
 have b6:(cB o.N).length<=10:=cC _
 have b7:(aCJ o.Body).length<=1010:=by unfold aCJ;rw [List.length_append];have:=cC (o.Body.length:Int);have:=ho.body.1;omega
 have b8:(jN jL o.Refs).length<=10010:=by have:=jO (f:=jL) (l:=o.Refs) (k:=10) fun x _=>iR x;have:=ho.refs.1;omega
 have b9:o.Of.B.length<=30:=Id.B_len _
 have b10:(jN cB o.Guards).length<=10010:=by have:=jO (f:=cB) (l:=o.Guards) (k:=10) fun x _=>cC x;have:=ho.guards.1;omega
 have b11:(fB [o.Need,o.Wait]).length<=20:=oG [o.Need,o.Wait]
 have b12:(jN BoxM.B o.Boxes).length<=40010:=by have:=jO (f:=BoxM.B) (l:=o.Boxes) (k:=40) fun x _=>aIc x;have:=ho.boxes.1;omega
 have b13:(jL o.Pub).length<=10:=iR _
 have b14:(jN SealM.B o.Hist).length<=104010:=by have:=jO (f:=SealM.B) (l:=o.Hist) (k:=1040) fun x h=>aKv (ho.hist.2 x h);have:=ho.hist.1;omega
 simp only [OpM.B,List.length_append]
 omega
theorem aAk {α:Type} {f:α->List Nat} {l:List α} (hl:l.length<=1000000) (h:∀ x∈l,okB (f x)):okB (jN f l):=by
 unfold jN
 refine gE (aAd (by omega) (by omega)) fun x hx=>?_
 obtain ⟨y,hy,hxy⟩:=List.mem_flatten.1 hx
 obtain ⟨z,hz,rfl⟩:=List.mem_map.1 hy
 exact h z hz x hxy
theorem aKy {l:List Int} (h:∀ x∈l,okN x):okB (fB l):=fun x hx=>by
 obtain ⟨y,hy,hxy⟩:=List.mem_flatten.1 hx
 obtain ⟨z,hz,rfl⟩:=List.mem_map.1 hy
 exact aAd (h z hz).1 (h z hz).2 x hxy
theorem aX7 {l:List Nat} (h:∀ x∈l,x<18446744073709551616):okB (vY l):=fun x hx=>by
 obtain ⟨y,hy,hxy⟩:=List.mem_flatten.1 hx
 obtain ⟨z,hz,rfl⟩:=List.mem_map.1 hy
 exact aC9 (h z hz) x hxy
theorem Id.B_ok {x:Id} (h:x.ok):okB x.B:=gE (gE (aAd h.1.1 h.1.2) (aAd h.2.1.1 h.2.1.2)) (aC9 (by have:=h.2.2;omega))
theorem aX8 {b:BoxM} (h:b.ok):okB b.B:=aX7 fun x hx=>by
 obtain ⟨h1,h2,h3,h4⟩:=h
 simp only [List.mem_cons,List.not_mem_nil,or_false] at hx
 rcases hx with rfl | rfl | rfl | rfl<;>assumption
theorem aQa {b:List Nat} (hl:b.length<=1000000) (h:okB b):okB (aCJ b):=gE (aAd (by omega) (by omega)) h
theorem OpM.B_ok (o:OpM) (ho:o.ok):okB o.B:=by
 have hi:=ho.ints
 unfold OpM.B
 refine gE (aKy fun x hx=>hi x (by simp at hx ⊢;rcases hx with h | h | h | h<;>simp [h])) ?_
 refine gE (aAk (by have:=ho.past.1;omega) fun x hx=>Id.B_ok (ho.past.2 x hx)) ?_
 refine gE (aKy fun x hx=>hi x (by simp at hx ⊢;rcases hx with h | h | h | h<;>simp [h])) ?_
 refine gE (aAk (by have:=ho.path.1;omega) fun x hx=>gE (aC9 (ho.path.2 x hx).1) (aAk (by have:=(ho.path.2 x hx).2.1;omega) fun y hy=>aX8 ((ho.path.2 x hx).2.2 y hy))) ?_
 refine gE (Id.B_ok ho.epoch) ?_
 refine gE (aAd (hi o.N (by simp)).1 (hi o.N (by simp)).2) ?_
 refine gE (aQa (by have:=ho.body.1;omega) ho.body.2) ?_
 refine gE (aAk (by have:=ho.refs.1;omega) fun x hx=>aC9 (ho.refs.2 x hx)) ?_
 refine gE (Id.B_ok ho.of) ?_
 refine gE (aAk (by have:=ho.guards.1;omega) fun x hx=>aAd (ho.guards.2 x hx).1 (ho.guards.2 x hx).2) ?_
 refine gE (aKy fun x hx=>hi x (by simp at hx ⊢;rcases hx with h | h<;>simp [h])) ?_
 refine gE (aAk (by have:=ho.boxes.1;omega) fun x hx=>aX8 (ho.boxes.2 x hx)) ?_
 refine gE (aC9 (ho.nums o.Pub (by simp))) ?_
 exact aAk (by have:=ho.hist.1;omega) fun x hx=>gE (Id.B_ok (ho.hist.2 x hx).1) (aQa (by have:=(ho.hist.2 x hx).2.1;omega) (ho.hist.2 x hx).2.2)
def OpM.P (o:OpM):List Nat:=o.B++vY [o.SR,o.SS]
end
end
section
open Go.Proofs.Tryz
def lOp:List Nat:=[111,112]
def aTE:List Nat:=[115,105,103,110,101,100]
def bD9:List Nat:=[115,105,103]
def idM (o:OpM):Id:=⟨o.By,o.Seq,((aTx lOp o.B).val:Nat)⟩
def toF (n:Nat):Fq:=⟨n%PP,Nat.mod_lt _ (by decide)⟩
theorem aTF {n:Nat} (h:n<2305843009213693951):(toF n).val=n:=Nat.mod_eq_of_lt h
def aZh (b:List Nat):Fq:=aTx aTE b
def aQb (r pub:Nat) (b:List Nat):Fq:=sG bD9 [r,pub,(aZh b).val]
def aES (pub:Nat) (b:List Nat) (R S:Nat):Bool :=
 (decide (1<=pub)&&decide (pub<=2305843009213693950))&&(decide (1<=R)&&decide (R<=2305843009213693950))&&decide (S<=2305843009213693949) &&
 decide ((37:Fq)^S=toF R*toF pub^(aQb R pub b).val)
theorem aDD {l:List Nat} (h:(l.all fun x=>decide (x<256))=true):okB l:=fun x hx=>by simpa using List.all_eq_true.1 h x hx
theorem aX9 (a:Fq):a.val<18446744073709551616:=Nat.lt_trans a.isLt (by decide)
section
variable {G:Nat->Option (List AV)}
set_option maxHeartbeats 4000000
theorem aZi (o:OpM) (ho:o.ok):aD prog G aEi [.ag o.A] [] fun r T=>r=.ag (idM o).A/\T=[]:=by
 refine aF aRV (by decide) ?_
 unfold aTz
 dsimp only [zj,zT,zF,zC,zE,zP,zQ,zq,zA,zm,zo,zs,zg,zh,zl,zv,zf,zi,zn,zb,zc,ze,zk,zw,zu,zt,zr,zR,zK,zN,zS,z0,zU]
 have hb:=o.B_len ho
 simp only [go_sem,↓reduceIte]
 refine bU (aA _) rfl (aTD o ho) ?_
 simp only [go_sem,↓reduceIte]
 refine aG [2,3] (aA _) (by decide) (by simp) rfl rfl (aTy o.B (by omega)) ?_
 rintro r T' ⟨rfl,rfl⟩
 simp only [go_sem,↓reduceIte]
 refine kR (aA _) rfl rfl (aQ9 _ lOp o.B (by rfl) (by rfl) (aDD (by decide)) (by decide) (by decide) (o.B_ok ho) (by omega)) ?_
 rintro r T' ⟨rfl,rfl⟩
 refine ⟨by simp only [kJ],by simp,?_⟩
 simp only [go_sem,↓reduceIte]
 rfl
theorem bB7 (pub r:Nat) (b:List Nat) (hp:pub<18446744073709551616) (hr:r<18446744073709551616) (hb:okB b) (hl:b.length<=1000000):aD prog G aBf [uv pub,uv r,.ls 1 (bl b)] [] fun x T=>x=.tup [.v (fu (aZh b)),.v (fu (aQb r pub b))]/\T=[]:=by
 refine aF aJT (by decide) ?_
 unfold aGQ
 dsimp only [zj,zT,zF,zC,zE,zP,zQ,zq,zA,zm,zo,zs,zg,zh,zl,zv,zf,zi,zn,zb,zc,ze,zk,zw,zu,zt,zr,zR,zK,zN,zS,z0,zU]
 simp only [go_sem,↓reduceIte]
 refine aC (aA _) rfl (aQ9 _ aTE b (by rfl) (by rfl) (aDD (by decide)) (by decide) (by decide) hb (by omega)) rfl ?_
 simp only [go_sem,↓reduceIte]
 refine kR (aA _) rfl rfl (aQ6 _ bD9 [r,pub,(aZh b).val] (by rfl) (by rfl) (aDD (by decide)) (by decide) (by decide) (fun n hn=>?_) (by simp)) ?_
 ·simp only [List.mem_cons,List.not_mem_nil,or_false] at hn
  rcases hn with rfl | rfl | rfl
  ·exact hr
  ·exact hp
  ·exact aX9 _
 rintro x T' ⟨rfl,rfl⟩
 refine ⟨by simp only [kJ],by simp,?_⟩
 simp only [go_sem,↓reduceIte]
 rfl
theorem aKz (n lo hi:Nat):aD prog G tT [uv n,uv lo,uv hi] [] fun r T=>r=.v (.bool (decide (lo<=n)&&decide (n<=hi)))/\T=[]:=by
 refine aF aEF (by decide) ?_
 unfold aBu
 dsimp only [zj,zT,zF,zC,zE,zP,zQ,zq,zA,zm,zo,zs,zg,zh,zl,zv,zf,zi,zn,zb,zc,ze,zk,zw,zu,zt,zr,zR,zK,zN,zS,z0,zU]
 have e1:decide ((lo:Int)<=(n:Int))=decide (lo<=n):=by rw [Bool.eq_iff_iff];simp
 have e2:decide ((n:Int)<=(hi:Int))=decide (n<=hi):=by rw [Bool.eq_iff_iff];simp
 simp only [go_sem,↓reduceIte,ge_iff_le,e1,e2]
 cases decide (lo<=n)<;>simp only [go_sem,↓reduceIte,undef,e1,e2,Bool.true_and,Bool.false_and]
theorem aOs (pub:Nat) (b:List Nat) (R S:Nat) (hp:pub<18446744073709551616) (hR:R<18446744073709551616) (hS:S<18446744073709551616) (hb:okB b) (hl:b.length<=1000000):aD prog G zZ [uv pub,.ls 1 (bl b),.ag [uv R,uv S]] [] fun r T=>r=.v (.bool (aES pub b R S))/\T=[]:=by
 refine aF aHA (by decide) ?_
 unfold aEE
 dsimp only [zj,zT,zF,zC,zE,zP,zQ,zq,zA,zm,zo,zs,zg,zh,zl,zv,zf,zi,zn,zb,zc,ze,zk,zw,zu,zt,zr,zR,zK,zN,zS,z0,zU]
 simp only [go_sem,↓reduceIte]
 refine aC (aA _) rfl (aKz pub 1 2305843009213693950) rfl ?_
 cases h1:(decide (1<=pub)&&decide (pub<=2305843009213693950))
 ·simp only [go_sem,↓reduceIte,undef,aES,h1,Bool.false_and]
 simp only [go_sem,↓reduceIte]
 refine aC (aA _) rfl (aKz R 1 2305843009213693950) rfl ?_
 cases h2:(decide (1<=R)&&decide (R<=2305843009213693950))
 ·simp only [go_sem,↓reduceIte,undef,aES,h1,h2,Bool.false_and,Bool.and_false]
 simp only [go_sem,↓reduceIte]
 refine aC (aA _) rfl (aKz S 0 2305843009213693949) rfl ?_
 cases h3:decide (S<=2305843009213693949)
 ·simp only [go_sem,↓reduceIte,undef,aES,h1,h2,h3,Bool.false_and,Bool.and_false,Nat.zero_le,Bool.true_and]
 simp only [go_sem,↓reduceIte,Nat.zero_le]
 refine aC (aA _) rfl (bB7 pub R b hp hR hb hl) rfl ?_
 simp only [Bool.and_eq_true,decide_eq_true_eq] at h1 h2 h3
 have e1:uv pub=.v (fu (toF pub)):=by simp only [fu,aTF (show pub<2305843009213693951 by omega)]
 have e2:uv R=.v (fu (toF R)):=by simp only [fu,aTF (show R<2305843009213693951 by omega)]
 have eq37:AV.v (.int .u64 37)=.v (fu (37:Fq)):=rfl
 simp only [go_sem,↓reduceIte]
 refine aC (R:=.v (fu ((37:Fq)^S))) (aA _) rfl (aJt (37:Fq) S hS) rfl ?_
 simp only [go_sem,↓reduceIte]
 refine aC (R:=.v (fu (toF pub^(aQb R pub b).val))) (aA _) rfl (by rw [e1];exact aJt (toF pub) (aQb R pub b).val (aX9 _)) rfl ?_
 simp only [go_sem,↓reduceIte]
 refine aC (R:=.v (fu (toF R*toF pub^(aQb R pub b).val))) (aA _) rfl (by rw [e2];exact aGD (toF R) _) rfl ?_
 have e3:∀ x y:Fq,((x.val:Int)==(y.val:Int))=decide (x=y):=fun x y=>by
  rw [Bool.eq_iff_iff];simp [Fin.ext_iff];omega
 simp only [go_sem,↓reduceIte,e3,aES]
 simp [h1,h2,h3]
theorem aXa (c:CardM) (o:OpM) (ho:o.ok) (hc:c.Sign<18446744073709551616):aD prog G aB7 [.ag c.A,.ag o.A] [] fun r T=>r=.v (.bool ((o.By==c.Device)&&aES c.Sign o.B o.SR o.SS))/\T=[]:=by
 refine aF aKj (by decide) ?_
 unfold aH5
 dsimp only [zj,zT,zF,zC,zE,zP,zQ,zq,zA,zm,zo,zs,zg,zh,zl,zv,zf,zi,zn,zb,zc,ze,zk,zw,zu,zt,zr,zR,zK,zN,zS,z0,zU]
 have hb:=o.B_len ho
 have h1:=ho.nums o.SR (by simp)
 have h2:=ho.nums o.SS (by simp)
 simp only [go_sem,↓reduceIte,CardM.A_def]
 cases he:(o.By==c.Device)
 ·simp only [go_sem,↓reduceIte,undef,Bool.false_and]
 simp only [go_sem,↓reduceIte]
 refine bU (aA _) rfl (aTD o ho) ?_
 simp only [go_sem,↓reduceIte]
 refine aG [2,3] (aA _) (by decide) (by simp) rfl rfl (aTy o.B (by omega)) ?_
 rintro r T' ⟨rfl,rfl⟩
 simp only [go_sem,↓reduceIte]
 refine kR (aA _) rfl rfl (aOs c.Sign o.B o.SR o.SS hc h1 h2 (o.B_ok ho) (by omega)) ?_
 rintro r T' ⟨rfl,rfl⟩
 refine ⟨by simp only [kJ],by simp,?_⟩
 simp only [go_sem,↓reduceIte,Bool.true_and]
end
end
section
section
variable {G:Nat->Option (List AV)}
set_option maxHeartbeats 4000000
end
end
section
open Go.Proofs.Tryz
def bB8:List Nat:=[110,111,110,99,101]
def uL:List Nat:=[115,105,103,110]
def aTG:List Nat:=[108,101,97,100]
def yF:List Nat:=[107,101,101,112]
def aOt:Nat:=2305843009213693950
def aRY (a b:Nat):Nat:=(a*b)%aOt
def aHe (secret:Nat) (b:List Nat):Nat:=aDw bB8 [secret,(aZh b).val]
def aET (secret:Nat) (b:List Nat):Fq:=(37:Fq)^aHe secret b
def aHf (secret:Nat) (b:List Nat):Nat:=(aHe secret b+aRY (aQb (aET secret b).val ((37:Fq)^secret).val b).val secret)%aOt
def nU (lab:List Nat) (d:Nat):Nat:=aDw lab [d]
def dD (o:OpM):OpM:={ o with SR:=(aET (nU uL o.By.toNat) o.B).val,SS:=aHf (nU uL o.By.toNat) o.B }
theorem aVb (o:OpM):(dD o).B=o.B:=by simp only [OpM.B,dD]
theorem aNb (lab ns:List Nat):aDw lab ns<18446744073709551616:=Nat.lt_of_le_of_lt (aEz lab ns).2 (by decide)
section
variable {G:Nat->Option (List AV)}
set_option maxHeartbeats 4000000
theorem aG5 (s:Nat) (hs:s<18446744073709551616):aD prog G qB [uv s] [] fun r T=>r=.v (fu ((37:Fq)^s))/\T=[]:=by
 refine aF aEx (by decide) ?_
 unfold aFQ
 dsimp only [zj,zT,zF,zC,zE,zP,zQ,zq,zA,zm,zo,zs,zg,zh,zl,zv,zf,zi,zn,zb,zc,ze,zk,zw,zu,zt,zr,zR,zK,zN,zS,z0,zU]
 simp only [go_sem,↓reduceIte]
 refine aC (R:=.v (fu ((37:Fq)^s))) (aA _) rfl (aPO (37:Fq) s hs) rfl ?_
 simp only [go_sem,↓reduceIte]
theorem sW (S:ByteArray) (lab:List Nat) (d:Nat) (hS:iG S=bl lab) (hs:S.size=lab.length) (hb:okB lab) (hl:lab.length<=1000) (hd:d<=9223372036854775807):aD prog G fC [.v (.string S),iv d] [] fun r T=>r=uv (nU lab d)/\T=[]:=by
 refine aF aAC (by decide) ?_
 unfold aAe
 dsimp only [zj,zT,zF,zC,zE,zP,zQ,zq,zA,zm,zo,zs,zg,zh,zl,zv,zf,zi,zn,zb,zc,ze,zk,zw,zu,zt,zr,zR,zK,zN,zS,z0,zU]
 have w1:IntKind.u64.wrap (d:Int)=(d:Int):=aS d (by omega)
 simp only [go_sem,↓reduceIte,w1]
 refine kR (aA _) rfl rfl (aN0 S lab [d] hS hs hb hl (fun n hn=>?_) (by simp)) ?_
 ·simp only [List.mem_singleton] at hn;subst hn;omega
 rintro x T' ⟨rfl,rfl⟩
 refine ⟨by simp only [kJ],by simp,?_⟩
 simp only [go_sem,↓reduceIte]
 rfl
end
end
section
open Go.Proofs.Tryz
structure BX where
 To:Fq
 Eph:Fq
 Body:Fq
 Tag:Fq
def BX.A (b:BX):List AV:=[.v (fu b.To),.v (fu b.Eph),.v (fu b.Body),.v (fu b.Tag)]
def aQc:List Nat:=[109,97,115,107]
def aXb:List Nat:=[116,97,103]
def uM (k:Fq):Fq:=sG aQc [k.val]
def aQd (k body to:Fq):Fq:=sG aXb [k.val,body.val,to.val]
def aBF (to:Fq) (once:Nat) (v:Fq):BX:=⟨to,37^once,v+uM (to^once),aQd (to^once) (v+uM (to^once)) to⟩
def aCR (s:Nat) (b:BX):Fq×Int :=
 if b.To≠37^s then (0,20) else if b.Tag≠aQd (b.Eph^s) b.Body b.To then (0,21) else (b.Body-uM (b.Eph^s),0)
theorem aCc (a:Fq):a.val<18446744073709551616:=Nat.lt_trans a.isLt (by decide)
theorem aXc (a b:Fq):(((a.val:Nat):Int)!=((b.val:Nat):Int))=!decide (a=b):=by
 rw [Bool.eq_iff_iff]
 simp only [bne_iff_ne,ne_eq,Bool.not_eq_true',decide_eq_false_iff_not]
 constructor
 ·intro h e;exact h (by rw [e])
 ·intro h e;exact h (Fin.ext (by omega))
theorem aXd (a b:Fq):(((a.val:Nat):Int)==((b.val:Nat):Int))=decide (a=b):=by
 have:=aXc a b
 rw [bne,Bool.not_eq_eq_eq_not,Bool.not_not] at this
 exact this
section
variable {G:Nat->Option (List AV)}
set_option maxHeartbeats 4000000
theorem bB9 (k:Fq):aD prog G nA [.v (.string (bs [109,97,115,107])),.ls 1 (ul [k.val])] [] fun r T=>r=.v (fu (uM k))/\T=[] :=
 aWW (bs [109,97,115,107]) aQc [k.val] (by rfl) (by rfl) (by intro x hx;simp [aQc] at hx;omega) (by decide) (fun n hn=>by rw [List.mem_singleton.1 hn];exact aCc k) (by simp)
theorem bDa (k b t:Fq):aD prog G nA [.v (.string (bs [116,97,103])),.ls 1 (ul [k.val,b.val,t.val])] [] fun r T=>r=.v (fu (aQd k b t))/\T=[] :=
 aWW (bs [116,97,103]) aXb [k.val,b.val,t.val] (by rfl) (by rfl) (by intro x hx;simp [aXb] at hx;omega) (by decide) (fun n hn=>by simp at hn;rcases hn with rfl | rfl | rfl<;>exact aCc _) (by simp)
theorem aXe (k:Fq):aD prog G kQ [.v (.string (bs [109,97,115,107])),.ls 1 (ul [k.val])] [] fun r T=>r=.v (fu (uM k))/\T=[] :=
 aQ6 (bs [109,97,115,107]) aQc [k.val] (by rfl) (by rfl) (by intro x hx;simp [aQc] at hx;omega) (by decide) (by decide) (fun n hn=>by rw [List.mem_singleton.1 hn];exact aCc k) (by simp)
theorem bDb (k b t:Fq):aD prog G kQ [.v (.string (bs [116,97,103])),.ls 1 (ul [k.val,b.val,t.val])] [] fun r T=>r=.v (fu (aQd k b t))/\T=[] :=
 aQ6 (bs [116,97,103]) aXb [k.val,b.val,t.val] (by rfl) (by rfl) (by intro x hx;simp [aXb] at hx;omega) (by decide) (by decide) (fun n hn=>by simp at hn;rcases hn with rfl | rfl | rfl<;>exact aCc _) (by simp)
theorem aVc (s:Nat) (hs:s<18446744073709551616):aD prog G xT [uv s] [] fun r T=>r=.v (fu ((37:Fq)^s))/\T=[]:=by
 refine aF aEw (by decide) ?_
 unfold aFP
 dsimp only [zj,zT,zF,zC,zE,zP,zQ,zq,zA,zm,zo,zs,zg,zh,zl,zv,zf,zi,zn,zb,zc,ze,zk,zw,zu,zt,zr,zR,zK,zN,zS,z0,zU]
 simp only [go_sem,↓reduceIte]
 refine aC (R:=.v (fu ((37:Fq)^s))) (aA _) rfl (aPO (37:Fq) s hs) rfl ?_
 simp only [go_sem,↓reduceIte]
theorem aNc (s:Nat) (hs:s<18446744073709551616):aD prog G aC4 [uv s] [] fun r T=>r=.v (fu ((37:Fq)^s))/\T=[]:=by
 refine aF aOk (by decide) ?_
 unfold aN1
 dsimp only [zj,zT,zF,zC,zE,zP,zQ,zq,zA,zm,zo,zs,zg,zh,zl,zv,zf,zi,zn,zb,zc,ze,zk,zw,zu,zt,zr,zR,zK,zN,zS,z0,zU]
 simp only [go_sem,↓reduceIte]
 refine aC (R:=.v (fu ((37:Fq)^s))) (aA _) rfl (aJt (37:Fq) s hs) rfl ?_
 simp only [go_sem,↓reduceIte]
theorem aRZ (to:Fq) (once:Nat) (v:Fq) (ho:once<18446744073709551616):aD prog G tR [.v (fu to),uv once,.v (fu v)] [] fun r T=>r=.ag (aBF to once v).A/\T=[]:=by
 refine aF aCB (by decide) ?_
 unfold aDu
 dsimp only [zj,zT,zF,zC,zE,zP,zQ,zq,zA,zm,zo,zs,zg,zh,zl,zv,zf,zi,zn,zb,zc,ze,zk,zw,zu,zt,zr,zR,zK,zN,zS,z0,zU]
 simp only [go_sem,↓reduceIte]
 refine aC (R:=.v (fu (to^once))) (aA _) rfl (aPO to once ho) rfl ?_
 simp only [go_sem,↓reduceIte]
 refine aC (R:=.v (fu ((37:Fq)^once))) (aA _) rfl (aVc once ho) rfl ?_
 simp only [go_sem,↓reduceIte]
 refine bJ (aA _) rfl rfl (bB9 (to^once)) ?_
 simp only [go_sem,↓reduceIte]
 refine aC (R:=.v (fu (v+uM (to^once)))) (aA _) rfl (aTl v (uM (to^once))) rfl ?_
 simp only [go_sem,↓reduceIte]
 refine bJ (aA _) rfl rfl (bDa (to^once) (v+uM (to^once)) to) ?_
 simp only [go_sem,↓reduceIte,BX.A,aBF]
theorem aQe (k:Fq) (b:BX):aD prog G sR [.ag b.A,.ptr 0 0] [some (.box [.v (fu k)])] fun r T=>r=.ag (BX.A ⟨b.To,b.Eph,b.Body,aQd k b.Body b.To⟩)/\T=[some (.box [.v (fu k)])]:=by
 refine aF aHz (by decide) ?_
 unfold aED
 dsimp only [zj,zT,zF,zC,zE,zP,zQ,zq,zA,zm,zo,zs,zg,zh,zl,zv,zf,zi,zn,zb,zc,ze,zk,zw,zu,zt,zr,zR,zK,zN,zS,z0,zU]
 simp only [go_sem,↓reduceIte,BX.A]
 refine bJ (aA _) rfl rfl (bDb k b.Body b.To) ?_
 simp only [go_sem,↓reduceIte]
theorem aXf (k:Fq):aD prog G zJ [.v (fu k)] [] fun r T=>r=.cl sR [.ptr 0 0]/\T=[some (.box [.v (fu k)])]:=by
 refine aF aLP (by decide) ?_
 unfold aJR
 dsimp only [zj,zT,zF,zC,zE,zP,zQ,zq,zA,zm,zo,zs,zg,zh,zl,zv,zf,zi,zn,zb,zc,ze,zk,zw,zu,zt,zr,zR,zK,zN,zS,z0,zU]
 simp only [go_sem,↓reduceIte]
theorem aS0 (to:Fq) (once:Nat) (v:Fq) (ho:once<18446744073709551616):aD prog G aDe [.v (fu to),uv once,.v (fu v)] [] fun r T=>r=.ag (aBF to once v).A/\T=[]:=by
 refine aF aLO (by decide) ?_
 unfold aJQ
 dsimp only [zj,zT,zF,zC,zE,zP,zQ,zq,zA,zm,zo,zs,zg,zh,zl,zv,zf,zi,zn,zb,zc,ze,zk,zw,zu,zt,zr,zR,zK,zN,zS,z0,zU]
 simp only [go_sem,↓reduceIte]
 refine aC (R:=.v (fu (to^once))) (aA _) rfl (aJt to once ho) rfl ?_
 simp only [go_sem,↓reduceIte]
 refine bU (aA _) rfl (aXf (to^once)) ?_
 simp only [go_sem,↓reduceIte]
 refine aC (R:=.v (fu ((37:Fq)^once))) (aA _) rfl (aNc once ho) rfl ?_
 simp only [go_sem,↓reduceIte]
 refine bJ (aA _) rfl rfl (aXe (to^once)) ?_
 simp only [go_sem,↓reduceIte]
 refine aC (R:=.v (fu (v+uM (to^once)))) (aA _) rfl (aMO v (uM (to^once))) rfl ?_
 simp only [go_sem,↓reduceIte]
 refine aG (args2:=[.ag (BX.A ⟨to,37^once,v+uM (to^once),0⟩),.ptr 0 0]) (T2:=[some (.box [.v (fu (to^once))])]) [1] (aA _) (by decide) (by simp) rfl rfl (aQe (to^once) ⟨to,37^once,v+uM (to^once),0⟩) ?_
 rintro r T' ⟨rfl,rfl⟩
 simp only [go_sem,↓reduceIte,BX.A,aBF]
theorem aS1 (s:Nat) (b:BX) (hs:s<18446744073709551616):aD prog G aD9 [uv s,.ag b.A] [] fun r T=>r=.tup [.v (fu (aCR s b).1),iv (aCR s b).2]/\T=[]:=by
 refine aF aLM (by decide) ?_
 unfold aJN
 dsimp only [zj,zT,zF,zC,zE,zP,zQ,zq,zA,zm,zo,zs,zg,zh,zl,zv,zf,zi,zn,zb,zc,ze,zk,zw,zu,zt,zr,zR,zK,zN,zS,z0,zU]
 simp only [go_sem,↓reduceIte,BX.A]
 refine aC (R:=.v (fu ((37:Fq)^s))) (aA _) rfl (aNc s hs) rfl ?_
 simp only [go_sem,↓reduceIte,aXc]
 by_cases h1:b.To=37^s
 rotate_left
 ·simp only [go_sem,↓reduceIte,h1,aCR,decide_false,Bool.not_false,ne_eq,not_false_eq_true]
  rfl
 have hd:decide (b.To=37^s)=true:=decide_eq_true h1
 have ho:aCR s b=if b.Tag≠aQd (b.Eph^s) b.Body b.To then (0,21) else (b.Body-uM (b.Eph^s),0):=by rw [aCR,if_neg (by simp [h1])]
 rw [ho]
 simp only [go_sem,↓reduceIte,hd]
 refine aC (R:=.v (fu (b.Eph^s))) (aA _) rfl (aJt b.Eph s hs) rfl ?_
 simp only [go_sem,↓reduceIte]
 refine bU (aA _) rfl (aXf (b.Eph^s)) ?_
 simp only [go_sem,↓reduceIte]
 refine aG (args2:=[.ag b.A,.ptr 0 0]) (T2:=[some (.box [.v (fu (b.Eph^s))])]) [1] (aA _) (by decide) (by simp) rfl rfl (aQe (b.Eph^s) b) ?_
 rintro r T' ⟨rfl,rfl⟩
 by_cases h2:b.Tag=aQd (b.Eph^s) b.Body b.To
 rotate_left
 ·rw [if_pos h2]
  simp only [go_sem,↓reduceIte,BX.A,aXd,decide_eq_false (fun h:aQd (b.Eph^s) b.Body b.To=b.Tag=>h2 h.symm)]
  rfl
 rw [if_neg (by simp [h2])]
 simp only [go_sem,↓reduceIte,BX.A,aXd,decide_eq_true h2.symm]
 refine bJ (aA _) rfl rfl (aXe (b.Eph^s)) ?_
 simp only [go_sem,↓reduceIte]
 refine aC (R:=.v (fu (b.Body-uM (b.Eph^s)))) (aA _) rfl (aWN b.Body (uM (b.Eph^s))) rfl ?_
 simp only [go_sem,↓reduceIte]
end
end
end Hud
