import Derived.Test.YthlndebkfkanbaaGreatDoorLib28
set_option linter.all false
namespace Hud
open Go
section
open Go.Proofs.Tryz
def aIk (n:NodeM):Bool:=decide ((n.Boxes.length:Int)<=12)
def aIl (x:SealM):Bool:=decide ((x.Body.length:Int)<=208)
section
variable {G:Nat->Option (List AV)}
set_option maxHeartbeats 4000000
theorem aXS (n:NodeM):aD prog G vL [.ag n.A] [] fun r T=>r=.v (.bool (aIk n))/\T=[]:=by
 refine aF aKq (by decide) ?_
 unfold aHa
 dsimp only [zj,zT,zF,zC,zE,zP,zQ,zq,zA,zm,zo,zs,zg,zh,zl,zv,zf,zi,zn,zb,zc,ze,zk,zw,zu,zt,zr,zR,zK,zN,zS,z0,zU]
 simp only [go_sem,↓reduceIte,NodeM.A,List.length_map,aIk]
theorem aXT (x:SealM):aD prog G vM [.ag x.A] [] fun r T=>r=.v (.bool (aIl x))/\T=[]:=by
 refine aF aKr (by decide) ?_
 unfold aHb
 dsimp only [zj,zT,zF,zC,zE,zP,zQ,zq,zA,zm,zo,zs,zg,zh,zl,zv,zf,zi,zn,zb,zc,ze,zk,zw,zu,zt,zr,zR,zK,zN,zS,z0,zU]
 simp only [go_sem,↓reduceIte,SealM.A,List.length_map,aIl]
theorem aVA (o:OpM) (ho:o.ok):aD prog G aFC [.ag o.A] [] fun r T=>r=.v (.bool (aNd o))/\T=[]:=by
 refine aF aOq (by decide) ?_
 unfold aN9
 dsimp only [zj,zT,zF,zC,zE,zP,zQ,zq,zA,zm,zo,zs,zg,zh,zl,zv,zf,zi,zn,zb,zc,ze,zk,zw,zu,zt,zr,zR,zK,zN,zS,z0,zU]
 have l1:=ho.path.1
 have l2:=ho.hist.1
 have e1:(o.Path.all fun n=>decide ((n.Boxes.length:Int)<=12))=o.Path.all aIk:=rfl
 have e2:(o.Hist.all fun n=>decide ((n.Body.length:Int)<=208))=o.Hist.all aIl:=rfl
 simp only [go_sem,↓reduceIte]
 repeat' (first
  | ((with_reducible refine bM (fun h=>?_) (fun h=>?_))<;>(try simp only [Bool.not_eq_eq_eq_not,Bool.not_true,Bool.not_false] at h)<;>simp only [go_sem,↓reduceIte,List.length_map,gt_iff_lt,h,undef])
  | (with_reducible refine nD (f:=aQ) ?_;refine aC (aA _) rfl (nM _ _ _) rfl ?_;simp only [go_sem,↓reduceIte,List.length_map,gt_iff_lt,undef])
  | (with_reducible refine nD (f:=fM) ?_;refine aC (aA _) rfl (aLj vL aIk o.Path (by omega) fun x _=>aXS x) rfl ?_;simp only [go_sem,↓reduceIte,List.length_map,gt_iff_lt,undef])
  | (with_reducible refine nD (f:=eF) ?_;refine aC (aA _) rfl (aLk vM aIl o.Hist (by omega) fun x _=>aXT x) rfl ?_;simp only [go_sem,↓reduceIte,List.length_map,gt_iff_lt,undef]))
 all_goals simp only [aNd,e1,e2,gt_iff_lt, *,Bool.not_true,Bool.not_false,Bool.or_true,Bool.true_or,Bool.or_false,Bool.false_or,if_true,if_false,Bool.false_eq_true]
theorem aSD (n:NodeM) (hn:n.ok):aD prog G qP [.ag n.A] [] fun r T=>r=.v (.bool (aKH n))/\T=[]:=by
 refine aF aFX (by decide) ?_
 unfold aCK
 dsimp only [zj,zT,zF,zC,zE,zP,zQ,zq,zA,zm,zo,zs,zg,zh,zl,zv,zf,zi,zn,zb,zc,ze,zk,zw,zu,zt,zr,zR,zK,zN,zS,z0,zU]
 have l1:=hn.2.1
 simp only [go_sem,↓reduceIte,NodeM.A,aKH]
 refine aC (aA _) rfl (wF n.Pub) rfl ?_
 cases h1:aFU n.Pub
 ·simp only [go_sem,↓reduceIte,Bool.false_and]
 simp only [go_sem,↓reduceIte]
 refine aC (aA _) rfl (aNC qD wY n.Boxes (by omega) fun x _=>aKL x) rfl ?_
 simp only [go_sem,↓reduceIte,Bool.true_and]
theorem aSE (x:SealM):aD prog G qQ [.ag x.A] [] fun r T=>r=.v (.bool (aKI x))/\T=[]:=by
 refine aF aFY (by decide) ?_
 unfold aCL
 dsimp only [zj,zT,zF,zC,zE,zP,zQ,zq,zA,zm,zo,zs,zg,zh,zl,zv,zf,zi,zn,zb,zc,ze,zk,zw,zu,zt,zr,zR,zK,zN,zS,z0,zU]
 simp only [go_sem,↓reduceIte,SealM.A,aKI]
 refine aC (aA _) rfl (aAm x.Of) rfl ?_
 simp only [go_sem,↓reduceIte]
theorem aSF (n:Int):aD prog G qR [iv n] [] fun r T=>r=.v (.bool (aDG n))/\T=[]:=by
 refine aF aFZ (by decide) ?_
 unfold aCM
 dsimp only [zj,zT,zF,zC,zE,zP,zQ,zq,zA,zm,zo,zs,zg,zh,zl,zv,zf,zi,zn,zb,zc,ze,zk,zw,zu,zt,zr,zR,zK,zN,zS,z0,zU]
 simp only [go_sem,↓reduceIte,aDG]
 refine aC (aA _) rfl (nM n 1 12) rfl ?_
 simp only [go_sem,↓reduceIte]
end
end
section
open Go.Proofs.Tryz
section
variable {G:Nat->Option (List AV)}
set_option maxHeartbeats 4000000
theorem aQN (o:OpM) (ho:o.ok) (k:Nat) (hk:k<65536):aD prog G aBc [.ag o.A,iv k] [] fun r T=>r=.v (.bool (xC o k))/\T=[]:=by
 refine aF aKs (by decide) ?_
 unfold aHc
 dsimp only [zj,zT,zF,zC,zE,zP,zQ,zq,zA,zm,zo,zs,zg,zh,zl,zv,zf,zi,zn,zb,zc,ze,zk,zw,zu,zt,zr,zR,zK,zN,zS,z0,zU]
 rw [aOa,dH]
 refine gV (fun s=>s=⟨0,[(2,.ptr 0 0),(1,iv k)],[some (.box o.A)]⟩) ?_ ?_
 ·simp only [go_sem,↓reduceIte]
 rintro s rfl
 rw [dH]
 refine gV (fun s=>s=⟨0,[(2,.ptr 0 0),(1,iv k)],[some (.box o.A)]⟩/\(inM o.By 1 12&&inM o.Seq 1 2147483647&&inM o.At 0 2147483647)=true) ?_ ?_
 ·simp only [go_sem,↓reduceIte]
  repeat' (first
   | ((with_reducible refine bM (fun h=>?_) (fun h=>?_))<;>(try simp only [Bool.not_eq_eq_eq_not,Bool.not_true,Bool.not_false] at h)<;>simp only [go_sem,↓reduceIte,h,undef])
   | (with_reducible refine nD (f:=aQ) ?_;refine aC (aA _) rfl (nM _ _ _) rfl ?_;simp only [go_sem,↓reduceIte,undef]))
  all_goals simp only [xC, *,Bool.and_self,Bool.false_and,Bool.and_false,Bool.true_and]
 rintro s ⟨rfl,hfirst⟩
 have hrest:xC o k=(aM4 k (aBG o)&&(o.Guards.all aDG&&(o.Refs.all aXn&&(o.Past.all jM&&(o.Path.all aKH&&(o.Boxes.all wY&&o.Hist.all aKI)))))):=by
  unfold xC;rw [hfirst,Bool.true_and]
 rw [dH]
 refine gV (fun s=>s=⟨0,[(7,iv o.Guards.length),(6,iv 1),(5,iv 1),(2,.ptr 0 0),(1,iv k)],[some (.box o.A)]⟩) ?_ ?_
 ·simp only [go_sem,↓reduceIte,List.length_map]
 rintro s rfl
 rw [dH]
 refine gV (fun s=>s=⟨0,[(8,.v (.bool (inM o.Member 1 8))),(7,iv o.Guards.length),(6,iv 1),(5,iv 1),(2,.ptr 0 0),(1,iv k)],[some (.box o.A)]⟩) ?_ ?_
 ·simp only [go_sem,↓reduceIte]
  refine aC (aA _) rfl (nM o.Member 1 8) rfl ?_
  simp only [go_sem,↓reduceIte]
 rintro s rfl
 obtain ⟨le,hle⟩:∃ le:Int,le=if o.Kind=3 then 0 else 1:=⟨_,rfl⟩
 obtain ⟨nd,hnd⟩:∃ nd:Int,nd=if o.Kind=1 then 0 else 1:=⟨_,rfl⟩
 obtain ⟨mo,hmo⟩:∃ mo:Int,mo=if o.Kind=1 then 20 else (o.Guards.length:Int):=⟨_,rfl⟩
 obtain ⟨me,hme⟩:∃ me:Bool,me=if o.Kind=3 then (inM o.Member 1 8&&(o.Device==0))||((o.Member==0)&&(o.Device !=0)) else inM o.Member 1 8:=⟨_,rfl⟩
 have hE:aBG o=[(1,inM o.Device le 12),(2,inM o.Old 1 12),(4,me),(8,inM o.Role 1 3),(64,inM o.N 0 2147483647),(4096,inM o.Wait 0 2147483647),(2048,inM o.Need nd mo),(32,jM o.Epoch),(512,jM o.Of),(16384,aFU o.Pub)]:=by
  rw [hle,hnd,hmo,hme];rfl
 refine aVy ?_
 rw [dH]
 refine gV (fun s=>s.r=0/\s.T=[some (.box o.A)]/\mJ s.s=[(1,iv k),(2,.ptr 0 0),(5,iv le),(6,iv nd),(7,iv mo),(8,.v (.bool me))]) ?_ ?_
 ·simp only [go_sem,↓reduceIte]
  clear hE
  generalize inM o.Member 1 8=im at *
  repeat' (first
   | ((with_reducible refine bM (fun h=>?_) (fun h=>?_))<;>(try simp only [Bool.not_eq_eq_eq_not,Bool.not_true,Bool.not_false] at h)<;>simp only [go_sem,↓reduceIte,h,undef]))
  all_goals subst hle hme hnd hmo
  all_goals simp only [beq_iff_eq,beq_eq_false_iff_ne,ne_eq] at *
  all_goals first | (simp [*];done) | (exfalso;omega)
 rintro ⟨r1,s1,T1⟩ ⟨h1,h2,h3⟩
 simp only at h1 h2 h3
 subst h1 h2
 have hp1:s1.Perm [(1,iv k),(2,.ptr 0 0),(5,iv le),(6,iv nd),(7,iv mo),(8,.v (.bool me))]:=by rw [<-h3];exact (aQL s1).symm
 have hkey:(s1.map (·.1)).Perm [1,2,5,6,7,8]:=hp1.map _
 have hg:∀ j x,(j,x)∈[(1,iv k),(2,AV.ptr 0 0),(5,iv le),(6,iv nd),(7,iv mo),(8,.v (.bool me))]->aK s1 j=x:=fun j x hm=>yO (hkey.nodup_iff.2 (by decide)) (hp1.mem_iff.2 hm)
 have hd:∀ j,j∉[1,2,5,6,7,8]->aDR s1 j=s1:=fun j hj=>aF7 fun h=>hj (hkey.mem_iff.1 h)
 have g1:=hg 1 (iv k) (by simp)
 have g2:=hg 2 (.ptr 0 0) (by simp)
 have g5:=hg 5 (iv le) (by simp)
 have g6:=hg 6 (iv nd) (by simp)
 have g7:=hg 7 (iv mo) (by simp)
 have g8:=hg 8 (.v (.bool me)) (by simp)
 simp only [go_sem,↓reduceIte,g1,g2,g5,g6,g7,g8,hd 58 (by decide),hd 59 (by decide),hd 60 (by decide),hd 61 (by decide),hd 62 (by decide),hd 63 (by decide),hd 64 (by decide),hd 65 (by decide),hd 66 (by decide),hd 67 (by decide),hd 68 (by decide),hd 69 (by decide),hd 70 (by decide),hd 71 (by decide),hd 72 (by decide),hd 73 (by decide),hd 74 (by decide),hd 75 (by decide),hd 76 (by decide),hd 77 (by decide),hd 78 (by decide),hd 79 (by decide),hd 80 (by decide),hd 81 (by decide),hd 82 (by decide),hd 83 (by decide),hd 84 (by decide),hd 85 (by decide),hd 86 (by decide),hd 87 (by decide),hd 88 (by decide),hd 89 (by decide),hd 90 (by decide),hd 91 (by decide)]
 obtain ⟨Lq,hLq⟩:∃ Lq:List (Nat×AV),Lq=[(88,uv o.Pub),(87,.ptr 0 23),(85,.ag o.Of.A),(84,.ptr 0 16),(82,.ag o.Epoch.A),(81,.ptr 0 10),(79,iv mo),(78,iv nd),(77,iv o.Need),(76,.ptr 0 20),(74,iv o.Wait),(73,.ptr 0 21),(71,iv o.N),(70,.ptr 0 13),(68,iv o.Role),(67,.ptr 0 8),(66,.v (.bool me)),(64,iv o.Old),(63,.ptr 0 6),(61,iv le),(60,iv o.Device),(59,.ptr 0 5)]:=⟨_,rfl⟩
 have hk0:((Lq++s1).map (·.1)).Perm ([88,87,85,84,82,81,79,78,77,76,74,73,71,70,68,67,66,64,63,61,60,59]++[1,2,5,6,7,8]):=by
  rw [List.map_append,hLq];exact hkey.append_left _
 have hmem:∀ j,j∈([88,87,85,84,82,81,79,78,77,76,74,73,71,70,68,67,66,64,63,61,60,59]++[1,2,5,6,7,8]:List Nat)->j∈(Lq++s1).map (·.1):=fun j hj=>hk0.mem_iff.2 hj
 refine aZM fun p hp=>?_
 have hXE:∀ vs:Nat->Bool,vs=(fun j=>if j=62 then inM o.Device le 12 else if j=65 then inM o.Old 1 12 else if j=69 then inM o.Role 1 3 else if j=72 then inM o.N 0 2147483647 else if j=75 then inM o.Wait 0 2147483647 else if j=80 then inM o.Need nd mo else if j=83 then jM o.Epoch else if j=86 then jM o.Of else if j=89 then aFU o.Pub else me)->([⟨5,1,62,1⟩,⟨9,2,65,2⟩,⟨11,4,66,0⟩,⟨15,8,69,3⟩,⟨19,64,72,4⟩,⟨23,4096,75,5⟩,⟨29,2048,80,6⟩,⟨33,32,83,7⟩,⟨37,512,86,8⟩,⟨41,16384,89,9⟩]:List IE).map (fun e=>(e.k,vs e.s))=aBG o:=fun vs hv=>by subst hv;rw [hE];rfl
 obtain ⟨vs,hvs⟩:∃ vs:Nat->Bool,vs=(fun j=>if j=62 then inM o.Device le 12 else if j=65 then inM o.Old 1 12 else if j=69 then inM o.Role 1 3 else if j=72 then inM o.N 0 2147483647 else if j=75 then inM o.Wait 0 2147483647 else if j=80 then inM o.Need nd mo else if j=83 then jM o.Epoch else if j=86 then jM o.Of else if j=89 then aFU o.Pub else me):=⟨_,rfl⟩
 refine bBO (P:=prog) (G:=G) (p:=p) (Q:=[39,38,35,34,31,30,27,26,25,24,21,20,17,16,13,12,10,7,6,3,2,1]) (m:=58) (z:=42) (y:=43) (dz:=90) (dy:=91) (r0:=0) (cs:=[⟨4,62,aQ,[.tmp 60,.tmp 61,.const (.int .i64 12)]⟩,⟨8,65,aQ,[.tmp 64,.const (.int .i64 1),.const (.int .i64 12)]⟩,⟨14,69,aQ,[.tmp 68,.const (.int .i64 1),.const (.int .i64 3)]⟩,⟨18,72,aQ,[.tmp 71,.const (.int .i64 0),.const (.int .i64 2147483647)]⟩,⟨22,75,aQ,[.tmp 74,.const (.int .i64 0),.const (.int .i64 2147483647)]⟩,⟨28,80,aQ,[.tmp 77,.tmp 78,.tmp 79]⟩,⟨32,83,cI,[.tmp 82]⟩,⟨36,86,cI,[.tmp 85]⟩,⟨40,89,fG,[.tmp 88]⟩]) (es:=[⟨5,1,62,1⟩,⟨9,2,65,2⟩,⟨11,4,66,0⟩,⟨15,8,69,3⟩,⟨19,64,72,4⟩,⟨23,4096,75,5⟩,⟨29,2048,80,6⟩,⟨33,32,83,7⟩,⟨37,512,86,8⟩,⟨41,16384,89,9⟩]) (s0:=Lq++s1) (T0:=[some (.box o.A)])
  (vs:=vs) ?_ ?_ ?_ ?_ ?_ ?_ ?_ (by decide) ?_ ?_ ?_ (by decide) ?_ 23 false false 0 [] _ _ (Nat.zero_le _) List.nodup_nil (fun e h=>by simp at h) ?_ ?_ (.inr ⟨rfl,rfl⟩) (by decide)
 ·rw [hp];constructor<;>decide +kernel
 ·rw [hp];rfl
 ·rw [hp]
  intro c hc
  simp only [List.mem_cons,List.not_mem_nil,or_false] at hc
  rcases hc with rfl | rfl | rfl | rfl | rfl | rfl | rfl | rfl | rfl<;>rfl
 ·rw [hp]
  intro c hc
  simp only [List.mem_cons,List.not_mem_nil,or_false] at hc
  rcases hc with rfl | rfl | rfl | rfl | rfl | rfl | rfl | rfl | rfl | rfl<;>rfl
 ·rw [hp];rfl
 ·rw [hp];rfl
 ·exact ((hk0.append_right _).nodup_iff).2 (by decide)
 ·intro c hc s T K' hs hk
  have e59:aK s 59=.ptr 0 5:=(hs 59 (hmem 59 (by decide))).trans (by rw [hLq];rfl)
  have e60:aK s 60=iv o.Device:=(hs 60 (hmem 60 (by decide))).trans (by rw [hLq];rfl)
  have e61:aK s 61=iv le:=(hs 61 (hmem 61 (by decide))).trans (by rw [hLq];rfl)
  have e63:aK s 63=.ptr 0 6:=(hs 63 (hmem 63 (by decide))).trans (by rw [hLq];rfl)
  have e64:aK s 64=iv o.Old:=(hs 64 (hmem 64 (by decide))).trans (by rw [hLq];rfl)
  have e66:aK s 66=.v (.bool me):=(hs 66 (hmem 66 (by decide))).trans (by rw [hLq];rfl)
  have e67:aK s 67=.ptr 0 8:=(hs 67 (hmem 67 (by decide))).trans (by rw [hLq];rfl)
  have e68:aK s 68=iv o.Role:=(hs 68 (hmem 68 (by decide))).trans (by rw [hLq];rfl)
  have e70:aK s 70=.ptr 0 13:=(hs 70 (hmem 70 (by decide))).trans (by rw [hLq];rfl)
  have e71:aK s 71=iv o.N:=(hs 71 (hmem 71 (by decide))).trans (by rw [hLq];rfl)
  have e73:aK s 73=.ptr 0 21:=(hs 73 (hmem 73 (by decide))).trans (by rw [hLq];rfl)
  have e74:aK s 74=iv o.Wait:=(hs 74 (hmem 74 (by decide))).trans (by rw [hLq];rfl)
  have e76:aK s 76=.ptr 0 20:=(hs 76 (hmem 76 (by decide))).trans (by rw [hLq];rfl)
  have e77:aK s 77=iv o.Need:=(hs 77 (hmem 77 (by decide))).trans (by rw [hLq];rfl)
  have e78:aK s 78=iv nd:=(hs 78 (hmem 78 (by decide))).trans (by rw [hLq];rfl)
  have e79:aK s 79=iv mo:=(hs 79 (hmem 79 (by decide))).trans (by rw [hLq];rfl)
  have e81:aK s 81=.ptr 0 10:=(hs 81 (hmem 81 (by decide))).trans (by rw [hLq];rfl)
  have e82:aK s 82=.ag o.Epoch.A:=(hs 82 (hmem 82 (by decide))).trans (by rw [hLq];rfl)
  have e84:aK s 84=.ptr 0 16:=(hs 84 (hmem 84 (by decide))).trans (by rw [hLq];rfl)
  have e85:aK s 85=.ag o.Of.A:=(hs 85 (hmem 85 (by decide))).trans (by rw [hLq];rfl)
  have e87:aK s 87=.ptr 0 23:=(hs 87 (hmem 87 (by decide))).trans (by rw [hLq];rfl)
  have e88:aK s 88=uv o.Pub:=(hs 88 (hmem 88 (by decide))).trans (by rw [hLq];rfl)
  have e1:aK s 1=iv (k:Int):=(hs 1 (hmem 1 (by decide))).trans (by rw [hLq];exact g1)
  have e2:aK s 2=.ptr 0 0:=(hs 2 (hmem 2 (by decide))).trans (by rw [hLq];exact g2)
  have e5:aK s 5=iv le:=(hs 5 (hmem 5 (by decide))).trans (by rw [hLq];exact g5)
  have e6:aK s 6=iv nd:=(hs 6 (hmem 6 (by decide))).trans (by rw [hLq];exact g6)
  have e7:aK s 7=iv mo:=(hs 7 (hmem 7 (by decide))).trans (by rw [hLq];exact g7)
  have e8:aK s 8=.v (.bool me):=(hs 8 (hmem 8 (by decide))).trans (by rw [hLq];exact g8)
  simp only [List.mem_cons,List.not_mem_nil,or_false] at hc
  subst hvs
  rcases hc with rfl | rfl | rfl | rfl | rfl | rfl | rfl | rfl | rfl<;>simp only [List.map_cons,List.map_nil,evO,e59,e60,e61,e63,e64,e66,e67,e68,e70,e71,e73,e74,e76,e77,e78,e79,e81,e82,e84,e85,e87,e88,e1,e2,e5,e6,e7,e8]
  ·exact aC (aA _) rfl (nM o.Device le 12) rfl hk
  ·exact aC (aA _) rfl (nM o.Old 1 12) rfl hk
  ·exact aC (aA _) rfl (nM o.Role 1 3) rfl hk
  ·exact aC (aA _) rfl (nM o.N 0 2147483647) rfl hk
  ·exact aC (aA _) rfl (nM o.Wait 0 2147483647) rfl hk
  ·exact aC (aA _) rfl (nM o.Need nd mo) rfl hk
  ·exact aC (aA _) rfl (aAm o.Epoch) rfl hk
  ·exact aC (aA _) rfl (aAm o.Of) rfl hk
  ·exact aC (aA _) rfl (wF o.Pub) rfl hk
 ·intro e he
  simp only [List.mem_cons,List.not_mem_nil,or_false] at he
  subst hvs
  rcases he with rfl | rfl | rfl | rfl | rfl | rfl | rfl | rfl | rfl | rfl
  ·exact .inr ⟨_,rfl,by decide,rfl⟩
  ·exact .inr ⟨_,rfl,by decide,rfl⟩
  ·exact .inl ⟨hmem 66 (by decide),by rw [hLq];rfl⟩
  ·exact .inr ⟨_,rfl,by decide,rfl⟩
  ·exact .inr ⟨_,rfl,by decide,rfl⟩
  ·exact .inr ⟨_,rfl,by decide,rfl⟩
  ·exact .inr ⟨_,rfl,by decide,rfl⟩
  ·exact .inr ⟨_,rfl,by decide,rfl⟩
  ·exact .inr ⟨_,rfl,by decide,rfl⟩
  ·exact .inr ⟨_,rfl,by decide,rfl⟩
 ·intro s T hs hT q hqm o' ho'
  have eT:T[0]?=some (some (.box o.A)):=aN (hT 0 Nat.zero_lt_one)
  have e59:aK s 59=.ptr 0 5:=(hs 59 (hmem 59 (by decide))).trans (by rw [hLq];rfl)
  have e60:aK s 60=iv o.Device:=(hs 60 (hmem 60 (by decide))).trans (by rw [hLq];rfl)
  have e61:aK s 61=iv le:=(hs 61 (hmem 61 (by decide))).trans (by rw [hLq];rfl)
  have e63:aK s 63=.ptr 0 6:=(hs 63 (hmem 63 (by decide))).trans (by rw [hLq];rfl)
  have e64:aK s 64=iv o.Old:=(hs 64 (hmem 64 (by decide))).trans (by rw [hLq];rfl)
  have e66:aK s 66=.v (.bool me):=(hs 66 (hmem 66 (by decide))).trans (by rw [hLq];rfl)
  have e67:aK s 67=.ptr 0 8:=(hs 67 (hmem 67 (by decide))).trans (by rw [hLq];rfl)
  have e68:aK s 68=iv o.Role:=(hs 68 (hmem 68 (by decide))).trans (by rw [hLq];rfl)
  have e70:aK s 70=.ptr 0 13:=(hs 70 (hmem 70 (by decide))).trans (by rw [hLq];rfl)
  have e71:aK s 71=iv o.N:=(hs 71 (hmem 71 (by decide))).trans (by rw [hLq];rfl)
  have e73:aK s 73=.ptr 0 21:=(hs 73 (hmem 73 (by decide))).trans (by rw [hLq];rfl)
  have e74:aK s 74=iv o.Wait:=(hs 74 (hmem 74 (by decide))).trans (by rw [hLq];rfl)
  have e76:aK s 76=.ptr 0 20:=(hs 76 (hmem 76 (by decide))).trans (by rw [hLq];rfl)
  have e77:aK s 77=iv o.Need:=(hs 77 (hmem 77 (by decide))).trans (by rw [hLq];rfl)
  have e78:aK s 78=iv nd:=(hs 78 (hmem 78 (by decide))).trans (by rw [hLq];rfl)
  have e79:aK s 79=iv mo:=(hs 79 (hmem 79 (by decide))).trans (by rw [hLq];rfl)
  have e81:aK s 81=.ptr 0 10:=(hs 81 (hmem 81 (by decide))).trans (by rw [hLq];rfl)
  have e82:aK s 82=.ag o.Epoch.A:=(hs 82 (hmem 82 (by decide))).trans (by rw [hLq];rfl)
  have e84:aK s 84=.ptr 0 16:=(hs 84 (hmem 84 (by decide))).trans (by rw [hLq];rfl)
  have e85:aK s 85=.ag o.Of.A:=(hs 85 (hmem 85 (by decide))).trans (by rw [hLq];rfl)
  have e87:aK s 87=.ptr 0 23:=(hs 87 (hmem 87 (by decide))).trans (by rw [hLq];rfl)
  have e88:aK s 88=uv o.Pub:=(hs 88 (hmem 88 (by decide))).trans (by rw [hLq];rfl)
  have e1:aK s 1=iv (k:Int):=(hs 1 (hmem 1 (by decide))).trans (by rw [hLq];exact g1)
  have e2:aK s 2=.ptr 0 0:=(hs 2 (hmem 2 (by decide))).trans (by rw [hLq];exact g2)
  have e5:aK s 5=iv le:=(hs 5 (hmem 5 (by decide))).trans (by rw [hLq];exact g5)
  have e6:aK s 6=iv nd:=(hs 6 (hmem 6 (by decide))).trans (by rw [hLq];exact g6)
  have e7:aK s 7=iv mo:=(hs 7 (hmem 7 (by decide))).trans (by rw [hLq];exact g7)
  have e8:aK s 8=.v (.bool me):=(hs 8 (hmem 8 (by decide))).trans (by rw [hLq];exact g8)
  rw [hp] at ho'
  simp only [List.mem_cons,List.not_mem_nil,or_false] at hqm
  rcases hqm with rfl | rfl | rfl | rfl | rfl | rfl | rfl | rfl | rfl | rfl | rfl | rfl | rfl | rfl | rfl | rfl | rfl | rfl | rfl | rfl | rfl | rfl<;>(obtain rfl:=Option.some.inj ho';simp only [go_sem,↓reduceIte,eT,e59,e60,e61,e63,e64,e66,e67,e68,e70,e71,e73,e74,e76,e77,e78,e79,e81,e82,e84,e85,e87,e88,e1,e2,e5,e6,e7,e8])
 ·intro X hX
  rw [hXE vs hvs] at hX
  have hX2:X.Perm (aBG o):=hX
  have hall:aM4 k X=aM4 k (aBG o):=by
   unfold aM4
   rw [Bool.eq_iff_iff,List.all_eq_true,List.all_eq_true]
   exact ⟨fun h x hx=>h x (hX2.mem_iff.2 hx),fun h x hx=>h x (hX2.mem_iff.1 hx)⟩
  have hkX:∀ e∈X,∃ j:Nat,e.1=(j:Int)/\j<65536:=fun e he=>by
   have:=hX2.mem_iff.1 he
   simp only [aBG,List.mem_cons,List.not_mem_nil,or_false] at this
   rcases this with rfl | rfl | rfl | rfl | rfl | rfl | rfl | rfl | rfl | rfl
   ·exact ⟨1,rfl,by decide⟩
   ·exact ⟨2,rfl,by decide⟩
   ·exact ⟨4,rfl,by decide⟩
   ·exact ⟨8,rfl,by decide⟩
   ·exact ⟨64,rfl,by decide⟩
   ·exact ⟨4096,rfl,by decide⟩
   ·exact ⟨2048,rfl,by decide⟩
   ·exact ⟨32,rfl,by decide⟩
   ·exact ⟨512,rfl,by decide⟩
   ·exact ⟨16384,rfl,by decide⟩
  have hlen:X.length=10:=hX2.length_eq
  rw [<-hall] at hrest
  clear hX hX2 hE hXE hall
  have hgc:=aQI (r:=0) (T:=[some (.box o.A)]++[some (MP X),some (.mit (some 1) X.length [] X.length)]) (s:=(91,.ptr 2 0)::(90,.mp 1)::plS 58 [⟨4,62,aQ,[.tmp 60,.tmp 61,.const (.int .i64 12)]⟩,⟨8,65,aQ,[.tmp 64,.const (.int .i64 1),.const (.int .i64 12)]⟩,⟨14,69,aQ,[.tmp 68,.const (.int .i64 1),.const (.int .i64 3)]⟩,⟨18,72,aQ,[.tmp 71,.const (.int .i64 0),.const (.int .i64 2147483647)]⟩,⟨22,75,aQ,[.tmp 74,.const (.int .i64 0),.const (.int .i64 2147483647)]⟩,⟨28,80,aQ,[.tmp 77,.tmp 78,.tmp 79]⟩,⟨32,83,cI,[.tmp 82]⟩,⟨36,86,cI,[.tmp 85]⟩,⟨40,89,fG,[.tmp 88]⟩] (Lq++s1) 1 vs true 9) (t:=(91,.ptr 2 0)::(90,.mp 1)::plS 58 [⟨4,62,aQ,[.tmp 60,.tmp 61,.const (.int .i64 12)]⟩,⟨8,65,aQ,[.tmp 64,.const (.int .i64 1),.const (.int .i64 12)]⟩,⟨14,69,aQ,[.tmp 68,.const (.int .i64 1),.const (.int .i64 3)]⟩,⟨18,72,aQ,[.tmp 71,.const (.int .i64 0),.const (.int .i64 2147483647)]⟩,⟨22,75,aQ,[.tmp 74,.const (.int .i64 0),.const (.int .i64 2147483647)]⟩,⟨28,80,aQ,[.tmp 77,.tmp 78,.tmp 79]⟩,⟨32,83,cI,[.tmp 82]⟩,⟨36,86,cI,[.tmp 85]⟩,⟨40,89,fG,[.tmp 88]⟩] (Lq++[(1,iv k),(2,.ptr 0 0),(5,iv le),(6,iv nd),(7,iv mo),(8,.v (.bool me))]) 1 vs true 9)
   ?_ ((((hp1.append_left Lq).append_right _).cons _).cons _)
  ·rw [show ([some (AObj.box o.A)]:Tab).length=1 from rfl,show ([⟨4,62,aQ,[.tmp 60,.tmp 61,.const (.int .i64 12)]⟩,⟨8,65,aQ,[.tmp 64,.const (.int .i64 1),.const (.int .i64 12)]⟩,⟨14,69,aQ,[.tmp 68,.const (.int .i64 1),.const (.int .i64 3)]⟩,⟨18,72,aQ,[.tmp 71,.const (.int .i64 0),.const (.int .i64 2147483647)]⟩,⟨22,75,aQ,[.tmp 74,.const (.int .i64 0),.const (.int .i64 2147483647)]⟩,⟨28,80,aQ,[.tmp 77,.tmp 78,.tmp 79]⟩,⟨32,83,cI,[.tmp 82]⟩,⟨36,86,cI,[.tmp 85]⟩,⟨40,89,fG,[.tmp 88]⟩]:List CE).length=9 from rfl,hgc,hLq]
   simp only [go_sem,↓reduceIte,plS]
   clear hgc
   refine fS (fun n st=>∃ seen:List Nat,n=10-seen.length/\seen.Nodup/\(∀ b∈seen,b<X.length)/\(∀ b∈seen,∀ h:b<X.length,((k &&& X[b].1.toNat==0)||X[b].2)=true)/\st=⟨0,[(1,iv k),(2,.ptr 0 0),(91,.ptr 1 0)],[some (.box o.A),some (.mit (some 2) X.length seen X.length),some (MP X)]⟩) 10 ⟨[],rfl,List.nodup_nil,fun b hb=>by simp at hb,fun b hb=>by simp at hb,?_⟩ ?_
   ·simp only [go_sem,↓reduceIte,MP]
   rintro n st ⟨seen,rfl,hn,hs,hok,rfl⟩
   have hsl:seen.length<=10:=by
    have h1:seen.length<=(List.range X.length).length:=rN hn fun b hb=>List.mem_range.2 (hs b hb)
    simpa [hlen] using h1
   simp only [go_sem,↓reduceIte]
   refine bAf (i:=1) (j:=2) rfl rfl (Nat.le_refl _) (Nat.le_refl _) (fun hall=>?_) fun b hb hns=>?_
   ·have hX:aM4 k X=true:=by
     unfold aM4
     rw [List.all_eq_true]
     intro x hx
     obtain ⟨j,hj,rfl⟩:=List.getElem_of_mem hx
     exact hok j (hall j hj) hj
    rw [hX,Bool.true_and] at hrest
    have q1:=ho.guards.1
    have q2:=ho.refs.1
    have q3:=ho.past.1
    have q4:=ho.path.1
    have q5:=ho.boxes.1
    have q6:=ho.hist.1
    simp only [go_sem,↓reduceIte]
    repeat' (first
     | ((with_reducible refine bM (fun h=>?_) (fun h=>?_))<;>(try simp only [Bool.not_eq_eq_eq_not,Bool.not_true,Bool.not_false] at h)<;>simp only [go_sem,↓reduceIte,h,undef])
     | (with_reducible refine nD (f:=sT) ?_;refine aC (aA _) rfl (aVs qR aDG o.Guards (by omega) fun x _=>aSF x) rfl ?_;simp only [go_sem,↓reduceIte,undef])
     | (with_reducible refine nD (f:=nL) ?_;refine aC (aA _) rfl (aVv aA2 aXn o.Refs (by omega) fun x _=>aIf (x:Int)) rfl ?_;simp only [go_sem,↓reduceIte,undef])
     | (with_reducible refine nD (f:=kF) ?_;refine aC (aA _) rfl (aXR cI jM o.Past (by omega) fun x _=>aAm x) rfl ?_;simp only [go_sem,↓reduceIte,undef])
     | (with_reducible refine nD (f:=fM) ?_;refine aC (aA _) rfl (aLj qP aKH o.Path (by omega) fun x hx=>aSD x (ho.path.2 x hx)) rfl ?_;simp only [go_sem,↓reduceIte,undef])
     | (with_reducible refine nD (f:=jH) ?_;refine aC (aA _) rfl (aNC qD wY o.Boxes (by omega) fun x _=>aKL x) rfl ?_;simp only [go_sem,↓reduceIte,undef])
     | (with_reducible refine nD (f:=eF) ?_;refine aC (aA _) rfl (aLk qQ aKI o.Hist (by omega) fun x _=>aSE x) rfl ?_;simp only [go_sem,↓reduceIte,undef]))
    all_goals rw [hrest]
    all_goals simp [*]
   ·obtain ⟨j,h1,h2⟩:=hkX X[b] (List.getElem_mem hb)
    have h3:(X.map fun e=>[Value.int .i64 e.1])[b]?=some [.int .i64 (j:Int)]:=by simp [hb,h1]
    have h4:(X.map fun e=>AV.v (.bool e.2))[b]?=some (.v (.bool X[b].2)):=by simp [hb]
    have hkv:fD false [Value.int .i64 (j:Int)]=.int .i64 (j:Int):=Eq.trans rfl rfl
    have hor:=aVe k j hk h2
    have hfin:((k &&& X[b].1.toNat==0)||X[b].2)=true->∃ m,m<10-seen.length/\∃ seen':List Nat,m=10-seen'.length/\seen'.Nodup/\(∀ b∈seen',b<X.length)/\(∀ b∈seen',∀ h:b<X.length,((k &&& X[b].1.toNat==0)||X[b].2)=true)/\(⟨0,[(1,iv k),(2,.ptr 0 0),(91,.ptr 1 0)],[some (.box o.A),some (.mit (some 2) X.length (seen++[b]) X.length),some (MP X)]⟩:St)=⟨0,[(1,iv k),(2,.ptr 0 0),(91,.ptr 1 0)],[some (.box o.A),some (.mit (some 2) X.length seen' X.length),some (MP X)]⟩:=fun hv=>by
     have hn2:(seen++[b]).Nodup:=List.nodup_append.2 ⟨hn,by simp,fun x hx y hy e=>hns (by rw [List.mem_singleton] at hy;rw [<-hy,<-e];exact hx)⟩
     have hl2:(seen++[b]).length<=(List.range X.length).length:=rN hn2 fun x hx=>List.mem_range.2 ((List.mem_append.1 hx).elim (hs x) fun h=>by rw [List.mem_singleton.1 h];exact hb)
     simp [hlen] at hl2
     refine ⟨10-(seen++[b]).length,by simp;omega,seen++[b],rfl,hn2,fun x hx=>(List.mem_append.1 hx).elim (hs x) fun h=>by rw [List.mem_singleton.1 h];exact hb,fun x hx hxl=>?_,rfl⟩
     rcases List.mem_append.1 hx with h | h
     ·exact hok x h hxl
     ·obtain rfl:=List.mem_singleton.1 h
      exact hv
    have hbad:((k &&& X[b].1.toNat==0)||X[b].2)=false->xC o k=false:=fun hv=>by
     rw [hrest]
     have:aM4 k X=false:=by
      unfold aM4
      rw [List.all_eq_false]
      exact ⟨X[b],List.getElem_mem hb,by rw [hv];simp⟩
     rw [this,Bool.false_and]
    rw [h1] at hfin hbad
    simp only [Int.toNat_natCast] at hfin hbad
    have hne:(((k &&& j:Nat):Int)!=0)=!(k &&& j==0):=by rw [Bool.eq_iff_iff];simp
    generalize X[b].2=t at h4 hfin hbad
    simp only [go_sem,↓reduceIte,MP,List.getLast?_concat,xB hb,h3,h4,↓hkv,↓hor,hne,h1]
    generalize (k &&& j==0)=u at hfin hbad
    cases u<;>cases t<;>simp only [go_sem,↓reduceIte,MP,List.getLast?_concat]
    all_goals first
     | exact hfin rfl
     | rw [hbad rfl]
  ·have hpm:(((91,AV.ptr 2 0)::(90,AV.mp 1)::plS 58 [⟨4,62,aQ,[.tmp 60,.tmp 61,.const (.int .i64 12)]⟩,⟨8,65,aQ,[.tmp 64,.const (.int .i64 1),.const (.int .i64 12)]⟩,⟨14,69,aQ,[.tmp 68,.const (.int .i64 1),.const (.int .i64 3)]⟩,⟨18,72,aQ,[.tmp 71,.const (.int .i64 0),.const (.int .i64 2147483647)]⟩,⟨22,75,aQ,[.tmp 74,.const (.int .i64 0),.const (.int .i64 2147483647)]⟩,⟨28,80,aQ,[.tmp 77,.tmp 78,.tmp 79]⟩,⟨32,83,cI,[.tmp 82]⟩,⟨36,86,cI,[.tmp 85]⟩,⟨40,89,fG,[.tmp 88]⟩] (Lq++s1) 1 vs true 9).map (·.1)).Perm (91::90::(([88,87,85,84,82,81,79,78,77,76,74,73,71,70,68,67,66,64,63,61,60,59]++[1,2,5,6,7,8])++[62,65,69,72,75,80,83,86,89,58])):=by
    simp only [List.map_cons]
    refine List.Perm.cons _ (List.Perm.cons _ ?_)
    rw [plS,List.map_append]
    exact hk0.append_right _
   exact hpm.nodup_iff.2 (by decide)
 ·simp only [plS,Bool.false_eq_true,if_false,List.take_zero,List.map_nil,List.append_nil,hLq]
  exact List.Perm.refl _
 ·intro j;simp
end
end
section
open Go.Proofs.Tryz
def GK (G:Nat->Option (List AV)):Prop:=G 0=some (mS.map fun n:Nat=>iv (n:Int))
theorem aOX (a b:Nat) (ha:a<65536) (hb:b<65536):aU .andNot (.int .i64 (a:Int)) (.int .i64 (b:Int))=some (.int .i64 ((gW a b:Nat):Int)):=by
 have hc:gW a b<65536:=by
  unfold gW
  rw [BitVec.toNat_and]
  refine Nat.lt_of_le_of_lt Nat.and_le_left ?_
  rw [BitVec.toNat_ofNat];omega
 have h1:(BitVec.ofInt IntKind.i64.bits (a:Int) &&& ~~~(BitVec.ofInt IntKind.i64.bits (b:Int))).toNat=gW a b:=by
  show (BitVec.ofInt 64 (a:Int) &&& ~~~(BitVec.ofInt 64 (b:Int))).toNat=gW a b
  unfold gW
  rw [BitVec.ofInt_natCast,BitVec.ofInt_natCast]
 simp only [aU,if_true,h1]
 rw [aM (by omega) (by omega)]
def rr {α:Type} (lt:α->α->Bool) (d:α) (l:List α) (i:Nat):Bool:=(List.range i).all fun j=>lt (l.getD j d) (l.getD (j+1) d)
theorem aXU {α:Type} {lt:α->α->Bool} {d:α} {l:List α} {i:Nat} (hi:i+1<l.length):rr lt d l (i+1)=(rr lt d l i&&lt l[i] l[i+1]):=by
 unfold rr
 rw [List.range_succ,List.all_append]
 simp [List.getD_eq_getElem?_getD,List.getElem?_eq_getElem hi,List.getElem?_eq_getElem (show i<l.length by omega)]
theorem aXV {α:Type} {lt:α->α->Bool} {d:α} {l:List α}:rr lt d l (l.length-1)=mT lt l:=by
 rw [Bool.eq_iff_iff,aNh]
 unfold rr
 rw [List.all_eq_true]
 constructor
 ·intro h j hj
  have:=h j (List.mem_range.2 (by omega))
  simpa [List.getD_eq_getElem?_getD,List.getElem?_eq_getElem hj,List.getElem?_eq_getElem (show j<l.length by omega)] using this
 ·intro h j hj
  have hj:=List.mem_range.1 hj
  have:=h j (by omega)
  simpa [List.getD_eq_getElem?_getD,List.getElem?_eq_getElem (show j+1<l.length by omega),List.getElem?_eq_getElem (show j<l.length by omega)] using this
section
variable {G:Nat->Option (List AV)}
set_option maxHeartbeats 4000000
theorem aSG (hK:GK G) (o:OpM) (ho:o.ok):aD prog G aDh [.ag o.A] [] fun r T=>r=.v (.int .i64 (uN o))/\T=[]:=by
 refine aF aM0 (by decide) ?_
 unfold aKi
 dsimp only [zj,zT,zF,zC,zE,zP,zQ,zq,zA,zm,zo,zs,zg,zh,zl,zv,zf,zi,zn,zb,zc,ze,zk,zw,zu,zt,zr,zR,zK,zN,zS,z0,zU]
 obtain ⟨c,hc⟩:∃ c,c=mS.map fun n:Nat=>iv (n:Int):=⟨_,rfl⟩
 have hG:G 0=some c:=by rw [hc];exact hK
 have hpk:(0:Int)<=o.Kind->o.Kind<14->(c.drop o.Kind.toNat)[0]?=some (iv (oK o.Kind:Nat)):=fun h1 h2=>by
  subst hc
  obtain ⟨n,hn⟩:∃ n:Nat,o.Kind=(n:Int):=⟨o.Kind.toNat,by omega⟩
  rw [hn,oK,Int.toNat_natCast]
  have:n<14:=by omega
  clear h1 h2 hn
  have key:∀ n,n<14->((mS.map fun n:Nat=>iv (n:Int)).drop n)[0]?=some (iv ((mS.getD n 0:Nat):Int)):=fun n h=>by
   rw [List.getElem?_drop,Nat.add_zero,List.getElem?_map,List.getD_eq_getElem?_getD]
   have:n<mS.length:=h
   simp [this]
  exact key n this
 clear hc hK
 simp only [go_sem,↓reduceIte,gt_iff_lt]
 refine bM (fun h=>?_) (fun h=>?_)<;>simp only [Bool.not_eq_eq_eq_not,Bool.not_true,Bool.not_false,decide_eq_false_iff_not,decide_eq_true_eq] at h
 rotate_left
 ·simp only [go_sem,↓reduceIte,decide_eq_true h]
  rw [uN,if_pos (.inl h)]
 have k1:=h
 simp only [go_sem,↓reduceIte,gt_iff_lt,decide_eq_false k1]
 refine bM (fun h=>?_) (fun h=>?_)<;>simp only [Bool.not_eq_eq_eq_not,Bool.not_true,Bool.not_false,decide_eq_false_iff_not,decide_eq_true_eq] at h
 rotate_left
 ·simp only [go_sem,↓reduceIte,decide_eq_false k1,decide_eq_true h,undef,hG]
  rw [uN,if_pos (.inr h)]
 have k2:=h
 have hgk:=hpk (by omega) (by omega)
 have p1:0<=o.Kind:=by omega
 have p2:o.Kind<14:=by omega
 have hpre:uN o=if gW (lE (eB o)) (oK o.Kind)≠0 then 1 else if xC o (oK o.Kind)=false then 8 else if aNd o then 2 else if aXo o=false then 6 else if decide (o.Past.length=0)≠decide (o.Kind=1) then 10 else 0:=by
  rw [uN,if_neg (by omega)]
 have b1:=aOX (lE (eB o)) (oK o.Kind) (aKJ o) (aOz o.Kind)
 simp only [go_sem,↓reduceIte,gt_iff_lt,decide_eq_false k1,decide_eq_false k2,hG,hgk,p1,p2,Int.mul_one,Nat.mul_one]
 refine aC (aA _) rfl (aVz o) rfl ?_
 have hz:(((gW (lE (eB o)) (oK o.Kind):Nat):Int)!=0)=decide (gW (lE (eB o)) (oK o.Kind)≠0):=by
  generalize gW (lE (eB o)) (oK o.Kind)=x
  rw [Bool.eq_iff_iff];simp
 simp only [go_sem,↓reduceIte,gt_iff_lt,hG,hgk,p1,p2,Int.mul_one,Nat.mul_one,↓b1,hz]
 refine bM (fun h=>?_) (fun h=>?_)<;>simp only [decide_eq_false_iff_not,decide_eq_true_eq] at h
 ·simp only [go_sem,↓reduceIte]
  rw [hpre,if_pos h]
 rw [if_neg h] at hpre
 clear b1 hz h
 have q1:=ho.past.1
 have q2:=ho.guards.1
 have w1:IntKind.i64.wrap ((o.Past.length:Int)-1)=(o.Past.length:Int)-1:=aM (by omega) (by omega)
 have w2:IntKind.i64.wrap ((o.Guards.length:Int)-1)=(o.Guards.length:Int)-1:=aM (by omega) (by omega)
 simp only [go_sem,↓reduceIte,List.length_map,w1]
 refine aL (o.Past.length-1) (fun i=>⟨0,[(1,.ptr 0 0),(3,.v (.bool (rr Id.lt default o.Past i))),(27,iv ((o.Past.length:Int)-1)),(28,iv i)],[some (.box o.A)]⟩) (fun _=>True) ?_ trivial ?_ ?_
 ·simp only [go_sem,↓reduceIte]
  rfl
 ·intro i hi _
  have d1:decide ((i:Int)<(o.Past.length:Int)-1)=true:=decide_eq_true (by omega)
  have g0:(o.Past.map Id.A)[i]?=some o.Past[i].A:=aX _ o.Past i (by omega)
  have g1:(o.Past.map Id.A)[i+1]?=some o.Past[i+1].A:=aX _ o.Past (i+1) (by omega)
  have ws:=aH (show i<9223372036854775807 by omega)
  rw [aXU (show i+1<o.Past.length by omega)]
  generalize rr Id.lt default o.Past i=b
  simp only [go_sem,↓reduceIte,List.length_map,d1]
  cases b
  ·simp only [go_sem,↓reduceIte,List.length_map,undef,ws,Bool.false_and]
  ·simp only [go_sem,↓reduceIte,List.length_map,undef,ws,show i<o.Past.length by omega,show i+1<o.Past.length by omega,g0,g1]
   refine aC (aA _) rfl (aVg o.Past[i] o.Past[i+1]) rfl ?_
   simp only [go_sem,↓reduceIte,List.length_map,undef,ws,Bool.true_and,show i<o.Past.length by omega,show i+1<o.Past.length by omega,g0,g1]
 intro _
 have d1:decide (((o.Past.length-1:Nat):Int)<(o.Past.length:Int)-1)=false:=decide_eq_false (by omega)
 rw [aXV]
 simp only [go_sem,↓reduceIte,List.length_map,d1,w2]
 refine aL (o.Guards.length-1) (fun i=>⟨0,[(1,.ptr 0 0),(3,.v (.bool (mT Id.lt o.Past&&rr (fun a b:Int=>decide (a<b)) 0 o.Guards i))),(50,iv ((o.Guards.length:Int)-1)),(51,iv i)],[some (.box o.A)]⟩) (fun _=>True) ?_ trivial ?_ ?_
 ·simp only [go_sem,↓reduceIte,rr,List.range_zero,List.all_nil]
 ·intro i hi _
  have d1:decide ((i:Int)<(o.Guards.length:Int)-1)=true:=decide_eq_true (by omega)
  have g0:(o.Guards.map fun n=>[iv n])[i]?=some [iv o.Guards[i]]:=aX _ o.Guards i (by omega)
  have g1:(o.Guards.map fun n=>[iv n])[i+1]?=some [iv o.Guards[i+1]]:=aX _ o.Guards (i+1) (by omega)
  have ws:=aH (show i<9223372036854775807 by omega)
  rw [aXU (show i+1<o.Guards.length by omega),<-Bool.and_assoc]
  generalize (mT Id.lt o.Past&&rr (fun a b:Int=>decide (a<b)) 0 o.Guards i)=b
  simp only [go_sem,↓reduceIte,List.length_map,d1]
  cases b
  ·simp only [go_sem,↓reduceIte,List.length_map,undef,ws,Bool.false_and]
  ·simp only [go_sem,↓reduceIte,List.length_map,undef,ws,show i<o.Guards.length by omega,show i+1<o.Guards.length by omega,g0,g1,Bool.true_and]
 intro _
 have d2:decide (((o.Guards.length-1:Nat):Int)<(o.Guards.length:Int)-1)=false:=decide_eq_false (by omega)
 rw [aXV]
 have hrow:(mT Id.lt o.Past&&mT (fun a b:Int=>decide (a<b)) o.Guards)=aXo o:=rfl
 simp only [go_sem,↓reduceIte,List.length_map,d2,hrow,hG,hgk,p1,p2,Int.mul_one,Nat.mul_one]
 refine aC (aA _) rfl (aQN o ho (oK o.Kind) (aOz _)) rfl ?_
 cases h1:xC o (oK o.Kind)
 ·simp only [go_sem,↓reduceIte]
  rw [hpre,if_pos h1]
 rw [if_neg (by simp [h1])] at hpre
 simp only [go_sem,↓reduceIte]
 refine aC (aA _) rfl (aVA o ho) rfl ?_
 cases h2:aNd o
 rotate_left
 ·simp only [go_sem,↓reduceIte]
  rw [hpre,if_pos h2]
 rw [if_neg (by simp [h2])] at hpre
 simp only [go_sem,↓reduceIte]
 cases h3:aXo o
 ·simp only [go_sem,↓reduceIte]
  rw [hpre,if_pos h3]
 rw [if_neg (by simp [h3])] at hpre
 rw [hpre]
 have hp:((o.Past.length:Int)==0)=decide (o.Past.length=0):=by rw [Bool.eq_iff_iff];simp
 have hk:(o.Kind==1)=decide (o.Kind=1):=rfl
 simp only [go_sem,↓reduceIte,List.length_map,hp,hk]
 generalize decide (o.Past.length=0)=a
 generalize decide (o.Kind=1)=b
 cases a<;>cases b<;>simp only [go_sem,↓reduceIte]<;>rfl
end
end
section
def PGM.at (g:PGM) (x:Id):Nat:=(g.I.findIdx? fun y=>decide (y=x)).getD 0
def z4:List Nat:=[0,0,0,0]
def dfN:ND:=⟨default,⟨0,0,0⟩,z4,0⟩
def PGM.nd (g:PGM) (x:Id):ND:=g.nodes.getD (g.at x) dfN
def aDO (g:PGM) (l:List Id):List Nat:=l.foldl (fun W x=>aMm W (g.at x)) z4
def aCv (g:PGM) (l:List Id):List Nat:=l.foldl (fun W x=>orW W (g.nd x).W) z4
def aCZ (g:PGM) (l:List Id):Int:=l.foldl (fun m x=>max m (g.nd x).o.At) 0
def aDP (g:PGM) (l:List Id):Int:=l.foldl (fun m x=>max m ((g.nd x).lv+1)) 1
def yP (W V:List Nat):List Nat:=List.zipWith (fun a b=>a &&& b) W V
def uX (nodes:List ND) (o:OpM) (W:List Nat):Nat->Int×Bool
 | 0=>(0,false)
 | i+1=>if ((nodes.getD i dfN).o.By==o.By)&&nG W i then (max (uX nodes o W i).1 (nodes.getD i dfN).o.Seq,(uX nodes o W i).2||((nodes.getD i dfN).o.Seq==o.Seq-1)) else uX nodes o W i
def yQ (g:PGM) (o:OpM):List Nat:=orW (aCv g o.Past) (aDO g o.Past)
def aIm (g:PGM) (o:OpM):Bool :=
 decide (o.Seq<=(uX g.nodes o (yQ g o) g.nodes.length).1)||(decide (1<o.Seq)&&!(uX g.nodes o (yQ g o) g.nodes.length).2)
def aU2 (g:PGM) (o:OpM):PGM×Int :=
 if !(yP (aDO g o.Past) (aCv g o.Past)==z4&&!decide (o.At<aCZ g o.Past)) then (g,6)
 else if aIm g o then (g,11)
 else (⟨g.cards,g.nodes++[⟨o,idM o,yQ g o,aDP g o.Past⟩]⟩,0)
def aQO (g:PGM) (o:OpM):PGM×Int :=
 if idM o∈g.I then (g,5)
 else if 200<=g.nodes.length then (g,3)
 else if (aV g.cards o.By).2=false then (g,17)
 else if ((o.By==(aV g.cards o.By).1.Device)&&aES (aV g.cards o.By).1.Sign o.B o.SR o.SS)=false then (g,12)
 else if ((o.Kind==1)&&decide (0<g.nodes.length))=true then (g,1)
 else if 0<(xH g o).length then (g,10)
 else aU2 g o
def uY (g:PGM) (o:OpM):PGM×Int:=if uN o≠0 then (g,uN o) else aQO g o
structure PGM.ok (g:PGM):Prop where
 n:g.nodes.length<=200
 cn:g.cards.length<=1000
 cs:∀ c∈g.cards,c.ok
 ops:∀ x∈g.nodes,x.o.ok
 ids:∀ x∈g.nodes,x.id.ok
 ws:∀ x∈g.nodes,okW x.W
 lv:∀ x∈g.nodes,0<=x.lv/\x.lv<=g.nodes.length
def TA (g:PGM) (o:OpM):Tab:=[some (.box [.ls 5 (g.cards.map CardM.A),.mp 1,.own 2]),some (.map true (g.I.map Id.K) ((List.range g.I.length).map fun i:Nat=>iv (i:Int)) (List.range g.I.length) g.I.length),some (.arr 35 (g.nodes.map ND.A)),some (.box o.A)]
def TN (o:OpM) (W:List Nat) (lv:Int):Option AObj:=some (.box (o.A++((idM o).A++(uvs W++[iv lv]))))
theorem aLl:okW z4:=⟨rfl,fun w hw=>by simp [z4] at hw;omega⟩
theorem aXW {g:PGM} (hg:g.ok) (x:Id):okW (g.nd x).W:=by
 unfold PGM.nd
 rw [List.getD_eq_getElem?_getD]
 rcases Nat.lt_or_ge (g.at x) g.nodes.length with h | h
 ·rw [List.getElem?_eq_getElem h];exact hg.ws _ (List.getElem_mem h)
 ·rw [List.getElem?_eq_none h];exact aLl
theorem aXX (g:PGM) (l:List Id) (x:Id):aDO g (l++[x])=aMm (aDO g l) (g.at x):=by simp [aDO]
theorem aXY (g:PGM) (l:List Id) (x:Id):aCv g (l++[x])=orW (aCv g l) (g.nd x).W:=by simp [aCv]
theorem aVB (g:PGM) (l:List Id) (x:Id):aCZ g (l++[x])=max (aCZ g l) (g.nd x).o.At:=by simp [aCZ]
theorem aXZ (g:PGM) (l:List Id) (x:Id):aDP g (l++[x])=max (aDP g l) ((g.nd x).lv+1):=by simp [aDP]
theorem aOY {α:Type} (p:List Nat->Prop) (f:List Nat->α->List Nat) (hf:∀ W x,p W->p (f W x)):∀ (l:List α) (W:List Nat),p W->p (l.foldl f W)
 | [],_,h=>h
 | x::l,W,h=>aOY p f hf l (f W x) (hf W x h)
theorem aF8 (g:PGM) (l:List Id):okW (aDO g l):=aOY okW _ (fun W x h=>aTY h _) l z4 aLl
theorem aF9 {g:PGM} (hg:g.ok) (l:List Id):okW (aCv g l):=aOY okW _ (fun W x h=>aOT h (aXW hg x)) l z4 aLl
theorem bAl (o:OpM) (i:Id) (X:List AV):(o.A++(i.A++X)).drop 30=X:=by
 rw [show 30=o.A.length+3 by rw [OpM.len],List.drop_length_add_append];rfl
theorem tk4 (W:List Nat) (h:W.length=4) (X:List AV):(uvs W++X).take 4=uvs W:=List.take_left' (by rw [List.length_map,h])
theorem aVC (o:OpM) (X:List AV) (k:Nat) (h:k<27):(o.A++X)[k]?=o.A[k]?:=List.getElem?_append_left (by rw [OpM.len];exact h)
theorem drA (o:OpM) (X:List AV) (k:Nat) (h:k<=27):(o.A++X).drop k=o.A.drop k++X:=List.drop_append_of_le_length (by rw [OpM.len];exact h)
theorem aY0 (o:OpM) (i:Id) (W:List Nat) (lv:AV) (h:W.length=4):(o.A++(i.A++(uvs W++[lv]))).drop 34=[lv]:=by
 rw [show 34=o.A.length+7 by rw [OpM.len],List.drop_length_add_append,show 7=i.A.length+4 from rfl,List.drop_length_add_append,show 4=(uvs W).length by rw [List.length_map,h]]
 exact List.drop_left' rfl
theorem bAm (o:OpM) (i:Id) (W:List Nat) (lv:AV) (h:W.length=4):(o.A++(i.A++(uvs W++[lv])))[34]?=some lv:=by
 have:=congrArg (fun l=>l[0]?) (aY0 o i W lv h)
 simpa using this
theorem bDB (o:OpM) (i:Id) (W:List Nat) (lv:AV) (h:W.length=4):(o.A++(i.A++(uvs W++[lv]))).drop 35=[]:=by
 have:=congrArg (fun l=>l.drop 1) (aY0 o i W lv h)
 simpa using this
theorem bDC (o:OpM) (i:Id) (W:List Nat) (lv:AV) (h:W.length=4):(o.A++(i.A++(uvs W++[lv]))).take 34=o.A++(i.A++uvs W):=by
 rw [show o.A++(i.A++(uvs W++[lv]))=(o.A++(i.A++uvs W))++[lv] by simp]
 exact List.take_left' (by simp only [List.length_append,List.length_map,h,OpM.len];rfl)
theorem aQP {W V:List Nat} (hW:okW W) (hV:okW V):(yP W V).length=4:=by unfold yP;rw [List.length_zipWith,hW.1,hV.1];rfl
theorem aVD (W V:List Nat) (hl:V.length=W.length) (i:Nat) (h:i<W.length):(yP W V).take (i+1)++W.drop (i+1)=((yP W V).take i++W.drop i).set i (W.getD i 0 &&& V.getD i 0):=by
 have hol:(yP W V).length=W.length:=by unfold yP;rw [List.length_zipWith];omega
 have hlt:((yP W V).take i).length=i:=by rw [List.length_take];omega
 have e:(yP W V)[i]'(by omega)=W.getD i 0 &&& V.getD i 0:=by
  unfold yP
  rw [List.getElem_zipWith,List.getD_eq_getElem?_getD,List.getD_eq_getElem?_getD,List.getElem?_eq_getElem h,List.getElem?_eq_getElem (by omega)];rfl
 rw [List.take_succ_eq_append_getElem (by omega),List.append_assoc,e,List.drop_eq_getElem_cons h,List.set_append_right _ _ (by omega),hlt,Nat.sub_self]
 rfl
end
section
open Go.Proofs.Tryz
theorem bFO (o:OpM) (X:List AV):(o.A++X).take 27=o.A:=List.take_left' (OpM.len o)
theorem bFP (o:OpM) (a b c:AV) (X:List AV):(o.A++(a::b::c::X)).drop 30=X:=by
 rw [show 30=o.A.length+3 by rw [OpM.len],List.drop_length_add_append];rfl
theorem bFQ (o:OpM) (i:Id) (a b c d e:AV):(o.A++i.A++[a,b,c,d,e]).take 34=o.A++(i.A++[a,b,c,d]):=by
 rw [List.append_assoc,show 34=o.A.length+7 by rw [OpM.len],List.take_length_add_append];rfl
theorem bFR (o:OpM) (i:Id) (a b c d e:AV):(o.A++i.A++[a,b,c,d,e]).drop 35=[]:=by
 rw [List.append_assoc,show 35=o.A.length+8 by rw [OpM.len],List.drop_length_add_append];rfl
theorem jS (o:OpM) (X:List AV):(o.A++X).drop 27=X:=List.drop_left' (OpM.len o)
theorem tk3 (i:Id) (X:List AV):(i.A++X).take 3=i.A:=List.take_left' rfl
def TL (g:PGM) (o:OpM) (i:Nat):Tab:=TA g o++[TN o z4 (aDP g (o.Past.take i)),some (.box (uvs (aDO g (o.Past.take i)))),some (.box (uvs (aCv g (o.Past.take i))))]
theorem mx (a b:Int):(if b>a then b else a)=max a b:=by rw [Int.max_def];split<;>split<;>omega
theorem bFS (o:OpM) (i:Id) (X:List AV):(o.A++(i.A++X)).take 30=o.A++i.A:=by
 rw [<-List.append_assoc];exact List.take_left' (by rw [List.length_append,OpM.len];rfl)
theorem aVE {o:OpM} (h:uN o=0):1<=o.Seq:=(aKW (by rw [<-aKK];exact h)).1
theorem bDD (o:OpM) (i:Id) (W:List Nat) (lv:AV) (h:W.length=4):(o.A++(i.A++(uvs W++[lv]))).take 35=o.A++(i.A++(uvs W++[lv])) :=
 List.take_of_length_le (by simp only [List.length_append,List.length_map,h,OpM.len];exact Nat.le_refl _)
theorem bDE (o:OpM) (i:Id) (W:List Nat) (lv:Int):(o.A++(i.A++(uvs W++[iv lv]))).all gM=true:=by
 simp only [List.all_append,OpM.one,Bool.true_and]
 simp [Id.A,uvs,gM]
theorem aU3 (o:OpM) (i:Id) (W:List Nat) (lv:Int):(o.A++(i.A++(uvs W++[iv lv]))).all aP=true:=by
 simp only [List.all_append,OpM.closed,Bool.true_and]
 simp [Id.A,uvs,aP]
def TH (g:PGM):Tab:=[some (.box [.ls 5 (g.cards.map CardM.A),.mp 1,.own 3]),some (MG g.I),none,some (.arr 35 (g.nodes.map ND.A))]
theorem aY1 (g:PGM) (n:ND):TH ⟨g.cards,g.nodes++[n]⟩=[some (.box [.ls 5 (g.cards.map CardM.A),.mp 1,.own 3]),some (.map true (g.I.map Id.K++[n.id.K]) ((List.range g.I.length).map (fun x:Nat=>AV.v (Value.int IntKind.i64 (x:Int)))++[AV.v (Value.int IntKind.i64 (g.nodes.length:Int))]) (List.range g.I.length++[g.I.length]) (g.I.length+1)),none,some (.arr 35 (g.nodes.map ND.A++[n.A]))]:=by
 have hI:PGM.I ⟨g.cards,g.nodes++[n]⟩=g.I++[n.id]:=by simp [PGM.I]
 have hl:g.I.length=g.nodes.length:=by simp [PGM.I]
 simp only [TH,MG,hI,List.length_append,List.length_singleton,List.map_append,List.range_succ,List.map_cons,List.map_nil,hl]
section
variable {G:Nat->Option (List AV)}
set_option maxHeartbeats 8000000
theorem bBP (hK:GK G) (g:PGM) (o:OpM) (hg:g.ok) (ho:o.ok):aD prog G oW [.ptr 0 0,.ag o.A] (TG 0 g) fun r T=>r=iv (uY g o).2/\((T=TG 0 (uY g o).1/\(uY g o).1=g)\/T=TH (uY g o).1):=by
 refine aF aBE (by decide) ?_
 unfold wC
 dsimp only [zj,zT,zF,zC,zE,zP,zQ,zq,zA,zm,zo,zs,zg,zh,zl,zv,zf,zi,zn,zb,zc,ze,zk,zw,zu,zt,zr,zR,zK,zN,zS,z0,zU]
 have hn:=hg.n
 have hpl:=ho.past.1
 simp only [go_sem,↓reduceIte,TG,MG,true_or]
 refine aC (aA _) rfl (aSG hK o ho) rfl ?_
 simp only [go_sem,↓reduceIte,MG]
 refine bM (fun h=>?_) (fun h=>?_)
 ·simp only [bne_iff_ne,ne_eq] at h
  simp only [go_sem,↓reduceIte,uY,h,TG,MG,true_or]
 simp only [bne_eq_false_iff_eq] at h
 have k1:=h
 have hW:uY g o=aQO g o:=by rw [uY,if_neg (by simp [k1])]
 unfold aQO at hW
 clear h
 refine gV (fun s=>s=⟨3,[(3,.ptr 3 0),(0,.ptr 0 0)],TA g o⟩) (by simp only [go_sem,↓reduceIte,MG,TA]) ?_
 rintro s rfl
 rw [dH]
 refine gV (fun s=>s=⟨3,[(0,.ptr 0 0),(3,.ptr 3 0),(6,.ptr 4 0)],TA g o++[TN o z4 1]⟩) ?_ ?_
 ·simp only [go_sem,↓reduceIte,TA]
  refine And.intro ?_ ?_
  all_goals refine aC (aA _) rfl (aZJ o ho) rfl ?_
  all_goals simp only [go_sem,↓reduceIte]
  all_goals try with_reducible refine And.intro ?_ ?_
  all_goals refine aC (aA _) rfl (aZi o ho) rfl ?_
  all_goals simp only [go_sem,↓reduceIte,bFO,bFP,bFQ,bFR,show 27<=min 27 35 by decide,TN,List.append_nil,List.all_append,Bool.and_true,Bool.and_self,gM]
  all_goals (rw [List.append_assoc,List.append_assoc];rfl)
 rintro s rfl
 have hWl:z4.length=4:=rfl
 have n30:30<=27+(3+(4+1)):=by decide
 have hk:=aOU (idM o)
 have hf:=aIj (idM o) g.I 0
 by_cases hx:idM o∈g.I
 ·rw [hW,if_pos hx]
  obtain ⟨j,h1,h2,_⟩:=aAq hx
  rw [h1] at hf
  have gv:=aLi g.I.length j h2
  simp only [Option.map_some,Nat.add_zero] at hf
  simp only [go_sem,↓reduceIte,TA,TN,jS,tk3,hk,hWl,n30,hf,gv,TG,MG,true_or]
 rw [aF6 hx] at hf
 rw [if_neg hx] at hW
 simp only [Option.map_none] at hf
 rw [dH]
 refine gV (fun s=>s=⟨3,[(0,.ptr 0 0),(3,.ptr 3 0),(6,.ptr 4 0)],TA g o++[TN o z4 1]⟩) ?_ ?_
 ·simp only [go_sem,↓reduceIte,TA,TN,jS,tk3,hk,hWl,n30,hf]
 rintro s rfl
 have d200:decide ((200:Int)<=(g.nodes.length:Int))=decide (200<=g.nodes.length):=by rw [Bool.eq_iff_iff];simp;omega
 simp only [go_sem,↓reduceIte,TA,TN,jS,tk3,hk,hWl,n30,List.length_map,ge_iff_le,d200]
 refine bM (fun h=>?_) (fun h=>?_)<;>simp only [decide_eq_true_eq,decide_eq_false_iff_not] at h
 ·rw [hW,if_pos h];simp only [go_sem,↓reduceIte,TA,TN,jS,tk3,hk,hWl,n30,TG,MG,true_or]
 rw [if_neg h] at hW
 have h200:=h
 clear h d200
 simp only [go_sem,↓reduceIte,TA,TN,jS,tk3,hk,hWl,n30]
 refine aG [0,1,2] (aA _) (by decide) (by simp) rfl (by simp only [go_sem,↓reduceIte,TA,TN,jS,tk3,hk,hWl,n30,TG,MG]) (aU1 g o.By hg.cn) ?_
 rintro r T' ⟨rfl,rfl⟩
 simp only [go_sem,↓reduceIte,TA,TN,jS,tk3,hk,hWl,n30,TG,MG,CardM.A_def]
 cases hc:(aV g.cards o.By).2
 ·rw [hW,if_pos hc];simp only [go_sem,↓reduceIte,TA,TN,jS,tk3,hk,hWl,n30,TG,MG,true_or]
 rw [if_neg (by simp [hc])] at hW
 have hcs:=aXF (d:=o.By) hg.cs
 generalize (aV g.cards o.By).1=c at *
 simp only [go_sem,↓reduceIte,TA,TN,jS,tk3,hk,hWl,n30]
 refine aC (aA _) rfl (aXa c o ho hcs) rfl ?_
 simp only [go_sem,↓reduceIte,TA,TN,jS,tk3,hk,hWl,n30]
 cases hsg:((o.By==c.Device)&&aES c.Sign o.B o.SR o.SS)
 ·rw [hW,if_pos hsg];simp only [go_sem,↓reduceIte,TA,TN,jS,tk3,hk,hWl,n30,TG,MG,true_or]
 rw [if_neg (by simp [hsg])] at hW
 have hpos:decide ((g.nodes.length:Int)>0)=decide (0<g.nodes.length):=by rw [Bool.eq_iff_iff];simp
 refine gV (fun s=>s=⟨3,[(0,.ptr 0 0),(3,.ptr 3 0),(6,.ptr 4 0)],TA g o++[TN o z4 1,some (.box [iv c.Device,iv c.Member,uv c.Lead,uv c.Keep,uv c.Sign])]⟩) ?_ ?_
 ·simp only [go_sem,↓reduceIte,TA,TN,jS,tk3,hk,hWl,n30]
 rintro s rfl
 rw [dH]
 refine gV (fun s=>s=⟨3,[(0,.ptr 0 0),(3,.ptr 3 0),(6,.ptr 4 0)],TA g o++[TN o z4 1,some (.box [iv c.Device,iv c.Member,uv c.Lead,uv c.Keep,uv c.Sign])]⟩/\((o.Kind==1)&&decide (0<g.nodes.length))=false) ?_ ?_
 ·cases hK:(o.Kind==1)
  ·simp only [go_sem,↓reduceIte,TA,TN,jS,tk3,hk,hWl,n30,List.length_map,hpos,hK,undef]
  ·cases h2:decide (0<g.nodes.length)
   ·simp only [go_sem,↓reduceIte,TA,TN,jS,tk3,hk,hWl,n30,List.length_map,hpos,hK,h2]
   ·rw [hW,if_pos (by rw [hK,h2];rfl)]
    simp only [go_sem,↓reduceIte,TA,TN,jS,tk3,hk,hWl,n30,List.length_map,hpos,hK,h2,TG,MG,true_or]
 rintro s ⟨rfl,hkn⟩
 rw [if_neg (by simp [hkn])] at hW
 simp only [go_sem,↓reduceIte,TA,TN,jS,tk3,hk,hWl,n30]
 refine aG [0,1,2] (aA _) (by decide) (by simp) rfl (by simp only [go_sem,↓reduceIte,TA,TN,jS,tk3,hk,hWl,n30,TG,MG]) (aZK g o ho) ?_
 rintro r T' ⟨rfl,rfl⟩
 have dl:decide (((xH g o).length:Int)>0)=decide (0<(xH g o).length):=by rw [Bool.eq_iff_iff];simp
 simp only [go_sem,↓reduceIte,TA,TN,jS,tk3,hk,hWl,n30,TG,MG,List.length_map,dl]
 refine bM (fun h=>?_) (fun h=>?_)<;>simp only [decide_eq_true_eq,decide_eq_false_iff_not] at h
 ·rw [hW,if_pos h];simp only [go_sem,↓reduceIte,TA,TN,jS,tk3,hk,hWl,n30,TG,MG,true_or]
 rw [if_neg h] at hW
 have hlk:∀ x∈o.Past,x∈g.I:=by
  intro x hxp
  have h0:xH g o=[]:=List.eq_nil_of_length_eq_zero (by omega)
  have:=List.filter_eq_nil_iff.1 h0 x hxp
  simpa using this
 clear h dl
 simp only [go_sem,↓reduceIte,TA,TN,jS,tk3,hk,hWl,n30]
 refine aL o.Past.length (fun i=>⟨3,[(0,.ptr 0 0),(3,.ptr 3 0),(6,.ptr 4 0),(11,.ptr 5 0),(12,.ptr 6 0),(13,iv (aCZ g (o.Past.take i))),(80,ids o.Past),(81,iv o.Past.length),(82,iv i)],TL g o i⟩) (fun _=>True) ?_ trivial ?_ ?_
 ·simp only [go_sem,↓reduceIte,TA,TN,jS,tk3,hk,hWl,n30,TL,List.take_zero,aDO,aCv,aCZ,aDP,List.foldl_nil,z4]
  rfl
 ·intro i hi _
  have ws:=aH (show i<9223372036854775807 by omega)
  have g0:(o.Past.map Id.A)[i]?=some o.Past[i].A:=aX _ o.Past i hi
  have hxI:=hlk _ (List.getElem_mem hi)
  obtain ⟨j,f1,f2,_⟩:=aAq hxI
  have ft:=List.take_succ_eq_append_getElem hi
  have hk2:=aOU o.Past[i]
  have hf2:=aIj o.Past[i] g.I 0
  rw [f1] at hf2
  simp only [Option.map_some,Nat.add_zero] at hf2
  have gv:=aLi g.I.length j f2
  have hjn:j<g.nodes.length:=by simpa [PGM.I] using f2
  have hat:g.at o.Past[i]=j:=by unfold PGM.at;rw [f1];rfl
  have hnd:g.nd o.Past[i]=g.nodes[j]:=by unfold PGM.nd;rw [hat,List.getD_eq_getElem?_getD,List.getElem?_eq_getElem hjn];rfl
  have g1:(g.nodes.map ND.A)[j]?=some (g.nodes[j].o.A++(g.nodes[j].id.A++(uvs g.nodes[j].W++[iv g.nodes[j].lv]))):=aX _ g.nodes j hjn
  have hxl:=hg.lv _ (List.getElem_mem hjn)
  have hxW:=hg.ws _ (List.getElem_mem hjn)
  have eP:=aXX g (o.Past.take i) o.Past[i]
  have eA:=aXY g (o.Past.take i) o.Past[i]
  have eL:=aVB g (o.Past.take i) o.Past[i]
  have eV:=aXZ g (o.Past.take i) o.Past[i]
  rw [<-ft,hat] at eP
  rw [<-ft,hnd] at eA eL eV
  have oP:=aF8 g (o.Past.take i)
  have oA:=aF9 hg (o.Past.take i)
  simp only [TL]
  generalize aDO g (o.Past.take i)=Pa at *
  generalize aCv g (o.Past.take i)=Ab at *
  generalize aCZ g (o.Past.take i)=la at *
  generalize aDP g (o.Past.take i)=lv at *
  clear hat hnd
  generalize g.nodes[j]=x at *
  have w1:IntKind.i64.wrap (x.lv+1)=x.lv+1:=aM (by omega) (by omega)
  have hx4:=hxW.1
  simp only [go_sem,↓reduceIte,TA,TN,jS,tk3,hk,hWl,n30,TL,List.length_map,bQ hi,hi,g0,hk2,hf2,gv,hjn]
  refine aG (T2:=[some (.box (uvs Pa))]) [5] (aA _) (by decide) (by simp) rfl (by simp only [go_sem,↓reduceIte]) (aVm Pa j oP (by omega)) ?_
  rintro r T' rfl
  have n34:34<=27+(3+(4+1)):=by decide
  simp only [go_sem,↓reduceIte,TA,TN,jS,tk3,hk,hWl,n30,TL,List.length_map,bQ hi,hi,g0,hk2,hf2,gv,hjn,g1,bAl,tk4 _ hx4,hx4,n34]
  refine aG (T2:=[some (.box (uvs Ab))]) (args2:=[.ptr 0 0,.ag (uvs x.W)]) [6] (aA _) (by decide) (by simp) (by simp only [go_sem,↓reduceIte]) (by simp only [go_sem,↓reduceIte]) (aSt Ab x.W oA hxW) ?_
  rintro r T' rfl
  simp only [go_sem,↓reduceIte,TA,TN,jS,tk3,hk,hWl,n30,TL,List.length_map,bQ hi,hi,g0,hk2,hf2,gv,hjn,g1,bAl,tk4 _ hx4,hx4,n34,aVC,drA,bAm _ _ _ _ hx4,aY0 _ _ _ _ hx4,bAm _ _ _ _ hWl,aY0 _ _ _ _ hWl,bDC _ _ _ _ hWl,bDB _ _ _ _ hWl,w1,ws,eP,eA,eL,eV,mx,List.append_assoc]
 intro _
 rw [List.take_length]
 have oP:=aF8 g o.Past
 have oA:=aF9 hg o.Past
 unfold aU2 aIm yQ at hW
 have hT0:TL g o o.Past.length=TA g o++[TN o z4 (aDP g o.Past),some (.box (uvs (aDO g o.Past))),some (.box (uvs (aCv g o.Past)))]:=by rw [TL,List.take_length]
 rw [hT0]
 clear hT0
 generalize aDO g o.Past=Pa at *
 generalize aCv g o.Past=Ab at *
 generalize aDP g o.Past=lv at *
 generalize aCZ g o.Past=la at *
 have hP4:=oP.1
 have hA4:=oA.1
 have tP:(uvs Pa).take 4=uvs Pa:=List.take_of_length_le (by rw [List.length_map,hP4];decide)
 have tA:(uvs Ab).take 4=uvs Ab:=List.take_of_length_le (by rw [List.length_map,hA4];decide)
 have oPl:(uvs Pa).all gM=true:=by simp [uvs,gM]
 simp only [go_sem,↓reduceIte,TA,TN,jS,tk3,hk,hWl,n30,List.length_map,bV (Nat.lt_irrefl _),hP4,tP,oPl]
 have hol:=aQP oP oA
 refine aL 4 (fun i=>⟨3,[(0,.ptr 0 0),(3,.ptr 3 0),(6,.ptr 4 0),(11,.ptr 5 0),(12,.ptr 6 0),(13,iv la),(17,.ptr 7 0),(127,iv i)],TA g o++[TN o z4 lv,some (.box (uvs Pa)),some (.box (uvs Ab)),some (.box (uvs ((yP Pa Ab).take i++Pa.drop i)))]⟩) (fun _=>True) ?_ trivial ?_ ?_
 ·simp only [go_sem,↓reduceIte,TA,TN,jS,tk3,hk,hWl,n30,List.take_zero,List.drop_zero,List.nil_append]
 ·intro i hi _
  have ws:=aH (show i<9223372036854775807 by omega)
  have hX:((yP Pa Ab).take i++Pa.drop i).length=4:=by rw [List.length_append,List.length_take,List.length_drop,hol,hP4];omega
  have gX:((yP Pa Ab).take i++Pa.drop i).getD i 0=Pa.getD i 0:=by
   rw [List.getD_eq_getElem?_getD,List.getElem?_append_right (by rw [List.length_take];omega),List.length_take,hol,show min i 4=i by omega,Nat.sub_self,List.getElem?_drop,Nat.add_zero,<-List.getD_eq_getElem?_getD]
  have eX:=aVD Pa Ab (by omega) i (by omega)
  have a1:=aNy (Pa.getD i 0) (Ab.getD i 0) (wM oP _) (wM oA _)
  have gv:=aCe Ab i (by omega)
  generalize hXd:(yP Pa Ab).take i++Pa.drop i=X at *
  have gx:=aCe X i (by omega)
  rw [gX] at gx
  have es:(uvs X).take i++[uv (Pa.getD i 0 &&& Ab.getD i 0)]++(uvs X).drop (i+1)=uvs (X.set i (Pa.getD i 0 &&& Ab.getD i 0)):=by
   show _=(X.set i (Pa.getD i 0 &&& Ab.getD i 0)).map fun w=>uv w
   rw [List.map_set,List.set_eq_take_append_cons_drop,if_pos (by rw [List.length_map,hX];exact hi),List.append_assoc];rfl
  have d1:decide ((i:Int)<4)=true:=decide_eq_true (by omega)
  have i1:(i:Int)<4:=by omega
  simp only [go_sem,↓reduceIte,TA,TN,jS,tk3,hk,hWl,n30,List.length_map,d1,i1,hX,hA4,gx,gv,↓a1,es,ws,eX,Nat.mul_one,Nat.zero_add,show i<=3 by omega]
 intro _
 rw [List.take_of_length_le (by omega),List.drop_of_length_le (by omega),List.append_nil]
 obtain ⟨b0,b1,b2,b3,hb⟩:∃ a b c d:Nat,yP Pa Ab=[a,b,c,d]:=by
  match h:yP Pa Ab,hol with
  | [a,b,c,d],_=>exact ⟨a,b,c,d,rfl⟩
 rw [hb] at hW ⊢
 have e4:(((b0:Nat):Int)==0&&(((b1:Nat):Int)==0&&(((b2:Nat):Int)==0&&((b3:Nat):Int)==0)))=([b0,b1,b2,b3]==z4):=by
  rw [Bool.eq_iff_iff];simp [z4]
 cases he:([b0,b1,b2,b3]==z4)
 ·rw [hW,if_pos (by rw [he];rfl)]
  simp only [go_sem,↓reduceIte,TA,TN,jS,tk3,hk,hWl,n30,e4,he,undef,TG,MG,true_or]
 cases hl:decide (o.At<la)
 rotate_left
 ·rw [hW,if_pos (by rw [he,hl];rfl)]
  simp only [go_sem,↓reduceIte,TA,TN,jS,tk3,hk,hWl,n30,e4,he,hl,TG,MG,true_or]
 rw [if_neg (by rw [he,hl];decide)] at hW
 have oAl:(uvs Ab).all gM=true:=by simp [uvs,gM]
 simp only [go_sem,↓reduceIte,TA,TN,jS,tk3,hk,hWl,n30,e4,he,hl,hA4,tA,aY0 _ _ _ _ hWl,bFS,oAl,hP4,tP]
 refine aG (T2:=[some (.box ((o.A++(idM o).A)++(uvs Ab++[iv lv])))]) (args2:=[.ptr 0 30,.ag (uvs Pa)]) [4] (aA _) (by decide) (by simp) (by simp only [go_sem,↓reduceIte]) (by simp only [go_sem,↓reduceIte,List.append_assoc]) (aHq (o.A++(idM o).A) [iv lv] 30 (by rw [List.length_append,OpM.len];rfl) Ab Pa oA oP (by simp only [go_sem,↓reduceIte]) rfl) ?_
 rintro r T' rfl
 have hLl:=aOT oA oP
 generalize orW Ab Pa=Wn at *
 simp only [go_sem,↓reduceIte,TA,TN,jS,tk3,hk,hWl,n30,List.append_assoc]
 have hW4:=hLl.1
 have w2:IntKind.i64.wrap (o.Seq-1)=o.Seq-1:=aM (by have:=aVE k1;omega) (by have:=(ho.ints o.Seq (by simp)).2;omega)
 refine aL g.nodes.length (fun i=>⟨3,[(0,.ptr 0 0),(3,.ptr 3 0),(6,.ptr 4 0),(19,iv (uX g.nodes o Wn i).1),(20,.v (.bool (uX g.nodes o Wn i).2)),(157,iv g.nodes.length),(158,iv i)],TA g o++[TN o Wn lv]⟩) (fun _=>True) ?_ trivial ?_ ?_
 ·simp only [go_sem,↓reduceIte,TA,TN,jS,tk3,hk,hWl,n30,uX,List.length_map]
 ·intro i hi _
  have ws:=aH (show i<9223372036854775807 by omega)
  have g1:(g.nodes.map ND.A)[i]?=some (g.nodes[i].o.A++(g.nodes[i].id.A++(uvs g.nodes[i].W++[iv g.nodes[i].lv]))):=aX _ g.nodes i hi
  have gd:g.nodes.getD i dfN=g.nodes[i]:=by rw [List.getD_eq_getElem?_getD,List.getElem?_eq_getElem hi];rfl
  have sq:uX g.nodes o Wn (i+1)=if ((g.nodes[i].o.By==o.By)&&nG Wn i) then (max (uX g.nodes o Wn i).1 g.nodes[i].o.Seq,(uX g.nodes o Wn i).2||(g.nodes[i].o.Seq==o.Seq-1)) else uX g.nodes o Wn i:=by
   rw [uX,gd]
  generalize uX g.nodes o Wn (i+1)=S1 at *
  generalize uX g.nodes o Wn i=S at *
  obtain ⟨la1,ah⟩:=S
  clear gd
  generalize g.nodes[i]=x at *
  cases hby:(x.o.By==o.By)
  ·rw [hby,Bool.false_and,if_neg (by decide)] at sq
   simp only [go_sem,↓reduceIte,TA,TN,jS,tk3,hk,hWl,n30,List.length_map,bQ hi,hi,g1,aVC,drA,hby,undef,ws,sq]
  rw [hby,Bool.true_and] at sq
  simp only [go_sem,↓reduceIte,TA,TN,jS,tk3,hk,hWl,n30,List.length_map,bQ hi,hi,g1,aVC,drA,hby]
  refine aG (T2:=[some (.box ((o.A++(idM o).A)++(uvs Wn++[iv lv])))]) (args2:=[.ptr 0 30,iv i]) [4] (aA _) (by decide) (by simp) (by simp only [go_sem,↓reduceIte]) (by simp only [go_sem,↓reduceIte,List.append_assoc]) (aVn (o.A++(idM o).A) [iv lv] 30 (by rw [List.length_append,OpM.len];rfl) Wn i hLl (by omega) (by simp only [go_sem,↓reduceIte]) rfl) ?_
  rintro r T' ⟨rfl,rfl⟩
  cases hh:nG Wn i
  ·rw [hh,if_neg (by decide)] at sq
   simp only [go_sem,↓reduceIte,TA,TN,jS,tk3,hk,hWl,n30,List.append_assoc,List.length_map,hi,g1,aVC,drA,hh,ws,sq]
  rw [hh,if_pos rfl] at sq
  cases ah
  ·simp only [go_sem,↓reduceIte,TA,TN,jS,tk3,hk,hWl,n30,List.append_assoc,List.length_map,hi,g1,aVC,drA,hh,ws,sq,w2,mx,undef]
  ·simp only [go_sem,↓reduceIte,TA,TN,jS,tk3,hk,hWl,n30,List.append_assoc,List.length_map,hi,g1,aVC,drA,hh,ws,sq,w2,mx,undef]
 intro _
 generalize uX g.nodes o Wn g.nodes.length=S at *
 obtain ⟨la1,ah⟩:=S
 have hdl:(g.nodes.map ND.A).length=g.nodes.length:=List.length_map _
 cases h1:decide (o.Seq<=la1)
 rotate_left
 ·rw [if_pos (by simp [h1])] at hW
  rw [hW]
  simp only [go_sem,↓reduceIte,TA,TN,jS,tk3,hk,hWl,n30,List.length_map,bV (Nat.lt_irrefl _),ge_iff_le,gt_iff_lt,h1,TG,MG,undef,true_or]
 have fin:∀ b3:Bool,decide (1<o.Seq)=b3->(b3=true->ah=false)->True:=fun _ _ _=>trivial
 clear fin
 cases h2:decide (1<o.Seq)
 ·rw [if_neg (by simp [h1,h2])] at hW
  rw [hW]
  simp only [go_sem,↓reduceIte,TA,TN,jS,tk3,hk,hWl,n30,List.length_map,bV (Nat.lt_irrefl _),ge_iff_le,gt_iff_lt,h1,h2,TG,MG,undef,hW4,hf,bDD _ _ _ _ hW4,bDE,aU3,show g.nodes.length+1<=maxLen by unfold maxLen;omega,show (g.nodes.length+1)*392<=140737488355328 by omega]
  exact .inr (aY1 g ⟨o,idM o,Wn,lv⟩).symm
 cases ah
 ·rw [if_pos (by simp [h1,h2])] at hW
  rw [hW]
  simp only [go_sem,↓reduceIte,TA,TN,jS,tk3,hk,hWl,n30,List.length_map,bV (Nat.lt_irrefl _),ge_iff_le,gt_iff_lt,h1,h2,TG,MG,undef,true_or]
 ·rw [if_neg (by simp [h1,h2])] at hW
  rw [hW]
  simp only [go_sem,↓reduceIte,TA,TN,jS,tk3,hk,hWl,n30,List.length_map,bV (Nat.lt_irrefl _),ge_iff_le,gt_iff_lt,h1,h2,TG,MG,undef,hW4,hf,bDD _ _ _ _ hW4,bDE,aU3,show g.nodes.length+1<=maxLen by unfold maxLen;omega,show (g.nodes.length+1)*392<=140737488355328 by omega]
  exact .inr (aY1 g ⟨o,idM o,Wn,lv⟩).symm
end
end
end Hud
