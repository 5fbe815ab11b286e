import Derived.Test.YthlndebkfkanbaaGreatDoorLib41
set_option linter.all false
namespace Hud
open Go Go.Proofs.Tryz
section
section
variable {G:Nat->Option (List AV)}
set_option maxHeartbeats 4000000
theorem bA0 (l:List (Nat×Fq)) (at_:List Int) (most:Nat) (hl:l.length<=1000) (ha:at_.length<=9223372036854775807) (hok:∀ x∈at_,okN x) (hm:most<=l.length) :
  aD prog G nQ [shs l,nts at_,iv most] [] fun r T=>∃ hd:List Nat,hd.Nodup/\(∀ x∈hd,x<l.length)/\hd.length=most/\r=shs (iD l hd)/\T=[]:=by
 refine (aOH l at_ most hl ha hok hm).fin [0] ?_
 rintro r T' ⟨hd,h1,h2,h3,rfl,rfl⟩
 refine ⟨hd,h1,h2,h3,?_⟩
 simp only [go_sem,↓reduceIte,List.length_nil]
theorem bA1 (hK:GK G) (secret other seed:Nat) (need:Int) (at_:List Int) (h1:secret<18446744073709551616) (h2:seed<18446744073709551616) (h3:other<18446744073709551616) (h4:okN need) (h5:∀ x∈at_,okN x) (h6:at_.length<=9223372036854775807) :
  aD prog G xR [uv secret,uv other,iv need,uv seed,nts at_] [] fun r T=>r=.v (.bool true)/\T=[]:=by
 refine aF aCt (by decide) ?_
 unfold yL
 dsimp only [zj,zT,zF,zC,zE,zP,zQ,zq,zA,zm,zo,zs,zg,zh,zl,zv,zf,zi,zn,zb,zc,ze,zk,zw,zu,zt,zr,zR,zK,zN,zS,z0,zU]
 simp only [go_sem,↓reduceIte]
 refine gL (args':=[.ls 1 []]) (iL (aR2 1) rP) rfl (aFd hK) ?_
 rintro r T' ⟨p,g,hL,rfl,rfl⟩
 have har:=yJ need 6 (by omega)
 obtain ⟨k0,hk0⟩:∃ k0:Nat,kW need 6=k0:=⟨(kW need 6).toNat,by omega⟩
 have hk6:k0<6:=by omega
 have hw:=bAo (k:=k0+1) (by omega) (by omega)
 have wk:IntKind.i64.wrap (1+(k0:Int))=((k0+1:Nat):Int):=by rw [show (1+(k0:Int))=((k0+1:Nat):Int) by omega];exact aEq (by omega)
 have wk2:IntKind.i64.wrap (((k0+1:Nat):Int)-1)=(k0:Int):=aML (by omega)
 have hD:=aP2 (G:=G) hL (nq (gZ secret)) six (k0+1) seed (by decide) hw h2
 rw [pI _ (aBV secret)] at hD
 simp only [go_sem,↓reduceIte,TG,MG,d5,List.append_nil]
 refine aC (aA _) rfl (pJ need 6 h4.1 h4.2 (by omega) (by omega)) rfl ?_
 simp only [go_sem,↓reduceIte,hk0,wk]
 refine aC (aA _) rfl (sY secret h1) rfl ?_
 simp only [go_sem,↓reduceIte]
 refine bU (args':=[uv seed,.ls 1 (ul [])]) (iL (tC _) (iL (aR2 1) rP)) rfl (qK seed [] (by simp)) ?_
 simp only [go_sem,↓reduceIte,TD]
 refine aG (args2:=[.ptr 0 0,uv (gZ secret),nns six,iv (k0+1:Nat),.ptr 3 0]) (T2:=TG 0 p++TD 3 seed [] 0) [0,1,2,3,4,5,6] (aA _) (by decide) (fun i hi=>by simp at hi ⊢;omega) rfl (by simp only [go_sem,↓reduceIte,TG,MG,TD]) hD ?_
 rintro r T' ⟨rfl,rfl⟩
 have hO1:=aIo (G:=G) (nq (gZ secret)) six (k0+1) (cU seed []) (by decide) (by decide)
 rw [show six.length=6 from rfl] at hO1
 generalize (pO aJ (nq (gZ secret)) (aI six) (k0+1) (cU seed []))=DA at *
 generalize nq (gZ secret)::bL (k0+1) (cU seed [])=P at *
 simp only [go_sem,↓reduceIte,TG,MG,TD]
 refine aC (aA _) rfl hO1 rfl ?_
 simp only [go_sem,↓reduceIte]
 refine aC (aA _) rfl (sY other h3) rfl ?_
 have hS:(aT P 6).length=6:=gT _ _
 have sS:=bA0 (G:=G) (aT P 6) at_ k0 (by rw [hS];omega) h6 h5 (by rw [hS];omega)
 rw [hS] at sS
 simp only [go_sem,↓reduceIte,wk2]
 refine gL (aA _) rfl sS ?_
 rintro r T' ⟨hd,n1,x1,l1,rfl,rfl⟩
 have hn0:nq (gZ other)≠0:=by
  intro e
  have:=congrArg Fin.val e
  rw [aS3 _ (aBV other)] at this
  have:=(aTX other).1
  simp at *
  omega
 have hFl:(iD (aT P 6) hd).length=k0:=by simp [iD,l1]
 have hFp:=aGh P 6 hd x1
 have hFi:=wN P 6 hd x1
 have hlt:=aFe P 6 hd x1 (by decide)
 have hnd:=wO (nq (gZ other)) P 6 hd x1 (by decide) n1
 have hle:=aYp (nq (gZ other)) P 6 hd x1 (by decide) n1
 have hhi:=bC0 (nq (gZ other)) P 6 hd x1 (by decide) n1
 obtain ⟨rr,hr⟩:=aVL (nq (gZ other)) hn0 P 6 hd x1 (by decide) n1
 generalize iD (aT P 6) hd=F at *
 simp only [go_sem,↓reduceIte]
 refine aL k0 (fun i=>⟨0,[(14,iv (k0+1:Nat)),(19,uv (gZ other)),(20,shs F),(21,.own 0),(22,.own 1),(23,iv i)],[some (.arr 1 ([uv 0]::(F.take i).map fun p=>[uv p.1])),some (.arr 1 ([uv (gZ other)]::(F.take i).map fun p=>[AV.v (fu p.2)]))]⟩) (fun _=>True) ?_ trivial ?_ ?_
 ·simp only [go_sem,↓reduceIte,List.take_zero,List.map_nil]
  rfl
 ·intro i hi _
  have hd':decide (((i:Nat):Int)<(k0:Int))=true:=decide_eq_true (by omega)
  have ws:=aH (show i<9223372036854775807 by omega)
  have hiF:i<F.length:=by omega
  have g0:(F.map fW)[i]?=some [uv F[i].1,.v (fu F[i].2)]:=by simp [fW,hiF]
  have ht:F.take (i+1)=F.take i++[F[i]]:=(List.take_append_getElem hiF).symm
  have hlen:(F.take i).length=i:=by simp;omega
  have b1:i+1+1<=maxLen:=by unfold maxLen;omega
  have b2:(i+1+1)*8<=140737488355328:=by omega
  rw [ht]
  generalize hq:F.take i=q at *
  simp only [go_sem,↓reduceIte,List.length_map,hFl,hd',g0,ws,hlen,hi,b1,b2,List.map_append,List.map_cons,List.map_nil,List.length_cons]
 ·intro _
  have hd':decide (((k0:Nat):Int)<(k0:Int))=false:=decide_eq_false (by omega)
  have eX:([uv 0]::F.map fun p=>[uv p.1])=fl ((uW (nq (gZ other)) P hd).map (·.1)):=by
   rw [bAj hlt,hFp];rfl
  have eY:([uv (gZ other)]::F.map fun p=>[AV.v (fu p.2)])=fl ((uW (nq (gZ other)) P hd).map (·.2)):=by
   have e:uv (gZ other)=.v (fu (nq (gZ other))):=by rw [pI _ (aBV other)]
   rw [bAk,hFp,e];rfl
  have hFr:=aXj (G:=G) (uW (nq (gZ other)) P hd) _ _ rfl rfl hnd (by simp [uW];omega) (by simp [uW])
  rw [show F.take k0=F from List.take_of_length_le (by omega),eX,eY]
  generalize (uW (nq (gZ other)) P hd).map (·.1)=X at *
  generalize (uW (nq (gZ other)) P hd).map (·.2)=Y at *
  rw [hr] at hFr hle hhi
  simp only [go_sem,↓reduceIte,List.length_map,hFl,hd']
  refine aIb [0,1] [0,1] (aA _) (args3:=[.ls 1 (fl X),.ls 1 (fl Y)]) (by decide) (by simp) rfl rfl (by simp only [go_sem,↓reduceIte]) rfl (by simp only [go_sem,↓reduceIte]) hFr (by simp only [go_sem,↓reduceIte]) ?_
  have hz:(((rr.length+1:Nat):Int)==0)=false:=by rw [beq_eq_false_iff_ne];omega
  rw [List.length_cons] at hle
  have hg:decide (((rr.length+1:Nat):Int)>((k0+1:Nat):Int))=false:=decide_eq_false (by omega)
  have hfu:=pI _ (aBV other)
  have htk:(rr.map fun c=>[AV.v (fu c)]).take (rr.length+1-1)=rr.map fun c=>[AV.v (fu c)]:=List.take_of_length_le (by simp)
  have hSp:=aCS (G:=G) (nq (gZ other)) rr 6 (by omega) (by omega)
  rw [hfu] at hSp
  have hT6:(aT (nq (gZ other)::rr) 6).length=6:=gT _ _
  simp only [go_sem,↓reduceIte,List.length_map,List.length_cons,List.map_cons,hz,hg,hfu,bne_self_eq_false,htk]
  refine aC (R:=shs (aT (nq (gZ other)::rr) 6)) (aA _) rfl hSp rfl ?_
  simp only [go_sem,↓reduceIte,List.length_map,hT6]
  refine aL k0 (fun i=>⟨0,[(20,shs F),(25,shs (aT (nq (gZ other)::rr) 6)),(26,iv i)],[]⟩) (fun _=>True) ?_ trivial ?_ ?_
  ·simp only [go_sem,↓reduceIte]
  ·intro i hi _
   have hd2:decide (((i:Nat):Int)<(k0:Int))=true:=decide_eq_true (by omega)
   have ws:=aH (show i<9223372036854775807 by omega)
   have hih:i<hd.length:=by omega
   obtain ⟨j,hj⟩:∃ j,j=hd[i]:=⟨_,rfl⟩
   have hj6:j<6:=by rw [hj];exact x1 _ (List.getElem_mem hih)
   have hjm:j∈hd:=by rw [hj];exact List.getElem_mem hih
   have g0:(F.map fW)[i]?=some [uv (j+1),.v (fu (ev P (nq (j+1))))]:=by rw [hFi,hj];simp [fW,hih]
   have g1:((aT (nq (gZ other)::rr) 6).map fW)[j]?=some [uv (j+1),.v (fu (ev P (nq (j+1))))]:=by
    rw [<-hhi j hjm];simp [aT,fW,hj6]
   have c1:decide (((j+1:Nat):Int)<1)=false:=decide_eq_false (by omega)
   have c2:decide (((j+1:Nat):Int)>6)=false:=decide_eq_false (by omega)
   have wj:aU .sub (.int .u64 ((j+1:Nat):Int)) (.int .u64 1)=some (.int .u64 (j:Int)):=aMP (j+1) 1 (by omega) (by omega)
   simp only [go_sem,↓reduceIte,List.length_map,hFl,hd2,g0,g1,ws,hi,c1,c2,↓wj,hT6,hj6]
  ·intro _
   have hd2:decide (((k0:Nat):Int)<(k0:Int))=false:=decide_eq_false (by omega)
   simp only [go_sem,↓reduceIte,List.length_map,hFl,hd2]
   refine aC (aA _) rfl (aCh hK) rfl ?_
   simp only [go_sem,↓reduceIte]
end
end
end Hud
