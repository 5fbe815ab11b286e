import Derived.Test.YthlndebkfkanbaaGreatDoorLib40
set_option linter.all false
namespace Hud
open Go Go.Proofs.Tryz
section
theorem bC5:cE aJ (aI [1,2,3,4,5,6]) ((1:Nat):Int)=0:=by kernel_rfl
theorem bC6:cE aJ (aI [1,2,3,4,5,6]) ((2:Nat):Int)=0:=by kernel_rfl
theorem bC7:cE aJ (aI [1,2,3,4,5,6]) ((3:Nat):Int)=0:=by kernel_rfl
theorem bC8:cE aJ (aI [1,2,3,4,5,6]) ((4:Nat):Int)=0:=by kernel_rfl
theorem bC9:cE aJ (aI [1,2,3,4,5,6]) ((5:Nat):Int)=0:=by kernel_rfl
theorem bCa:cE aJ (aI [1,2,3,4,5,6]) ((6:Nat):Int)=0:=by kernel_rfl
theorem bAo {k:Nat} (h1:1<=k) (h2:k<=6):cE aJ (aI [1,2,3,4,5,6]) (k:Int)=0:=by
 have:k=1\/k=2\/k=3\/k=4\/k=5\/k=6:=by omega
 rcases this with rfl | rfl | rfl | rfl | rfl | rfl
 ·exact bC5
 ·exact bC6
 ·exact bC7
 ·exact bC8
 ·exact bC9
 ·exact bCa
abbrev six:List Nat:=[1,2,3,4,5,6]
theorem aBV (n:Nat):gZ n<PP:=by
 have:=aTX n
 have hP:PP=2305843009213693951:=by decide
 omega
theorem aYv (l:List (Nat×Fq)):aIr (some (.arr 2 (l.map fW))):=by
 intro e he c hc
 obtain ⟨p,-,rfl⟩:=List.mem_map.1 he
 simp only [fW,List.mem_cons,List.not_mem_nil,or_false] at hc
 rcases hc with rfl | rfl
 ·exact ⟨_,rfl⟩
 ·exact ⟨_,rfl⟩
section
variable {G:Nat->Option (List AV)}
set_option maxHeartbeats 4000000
theorem aYw (hK:GK G) (secret seed other:Nat) (need:Int) (at_:List Int) (h1:secret<18446744073709551616) (h2:seed<18446744073709551616) (h3:other<18446744073709551616) (h4:okN need) (h5:∀ x∈at_,okN x) (h6:at_.length<=9223372036854775807) :
  aD prog G vC [uv secret,iv need,uv seed,uv other,nts at_] [] fun r T=>r=.v (.bool true)/\T=[]:=by
 refine aF aBM (by decide) ?_
 unfold wL
 dsimp only [zj,zT,zF,zC,zE,zP,zQ,zq,zA,zm,zo,zs,zg,zh,zl,zv,zf,zi,zn,zb,zc,ze,zk,zw,zu,zt,zr,zR,zK,zN,zS,z0,zU]
 simp only [go_sem,↓reduceIte]
 refine gL (args':=[.ls 1 []]) (iL (aR2 1) rP) rfl (aFd hK) ?_
 rintro r T' ⟨p,g,hL,rfl,rfl⟩
 have har:=yJ need 6 (by omega)
 obtain ⟨k0,hk0⟩:∃ k0:Nat,kW need 6=k0:=⟨(kW need 6).toNat,by omega⟩
 have hk6:k0<6:=by omega
 have hw:=bAo (k:=k0+1) (by omega) (by omega)
 have wk:IntKind.i64.wrap (1+(k0:Int))=((k0+1:Nat):Int):=by rw [show (1+(k0:Int))=((k0+1:Nat):Int) by omega];exact aEq (by omega)
 have hD:=aP2 (G:=G) hL (nq (gZ secret)) six (k0+1) seed (by decide) hw h2
 rw [pI _ (aBV secret)] at hD
 have hF:=aYq (G:=G) hL six (k0+1) other (by decide) hw h3
 simp only [go_sem,↓reduceIte,TG,MG,d5,List.append_nil]
 refine aC (aA _) rfl (sY secret h1) rfl ?_
 simp only [go_sem,↓reduceIte]
 refine aC (aA _) rfl (pJ need 6 h4.1 h4.2 (by omega) (by omega)) rfl ?_
 simp only [go_sem,↓reduceIte,hk0,wk]
 refine bU (args':=[uv seed,.ls 1 (ul [])]) (iL (tC _) (iL (aR2 1) rP)) rfl (qK seed [] (by simp)) ?_
 simp only [go_sem,↓reduceIte,TD]
 refine aG (args2:=[.ptr 0 0,uv (gZ secret),nns six,iv (k0+1:Nat),.ptr 3 0]) (T2:=TG 0 p++TD 3 seed [] 0) [0,1,2,3,4,5,6] (aA _) (by decide) (fun i hi=>by simp at hi ⊢;omega) rfl (by simp only [go_sem,↓reduceIte,TG,MG,TD]) hD ?_
 rintro r T' ⟨rfl,rfl⟩
 simp only [go_sem,↓reduceIte,TG,MG,TD]
 refine bU (args':=[uv other,.ls 1 (ul [])]) (iL (tC _) (iL (aR2 1) rP)) rfl (qK other [] (by simp)) ?_
 simp only [go_sem,↓reduceIte,TD]
 refine aG (args2:=[.ptr 0 0,nns six,iv (k0+1:Nat),.ptr 3 0]) (T2:=TG 0 p++TD 3 other [] 0) [0,1,2,7,8,9,10] (aA _) (by decide) (fun i hi=>by simp at hi ⊢;omega) rfl (by simp only [go_sem,↓reduceIte,TG,MG,TD]) hF ?_
 rintro r T' ⟨rfl,rfl⟩
 have hO1:=aIo (G:=G) (nq (gZ secret)) six (k0+1) (cU seed []) (by decide) (by decide)
 have hO2:=aIo (G:=G) 0 six (k0+1) (cU other []) (by decide) (by decide)
 have hPl:(nq (gZ secret)::bL (k0+1) (cU seed [])).length=k0+1:=by simp [qL]
 have hQl:((0:Fq)::bL (k0+1) (cU other [])).length=k0+1:=by simp [qL]
 have hP0:=ev0 (nq (gZ secret)) (bL (k0+1) (cU seed []))
 have hQ0:=ev0 0 (bL (k0+1) (cU other []))
 rw [show six.length=6 from rfl] at hO1 hO2
 generalize (pO aJ (nq (gZ secret)) (aI six) (k0+1) (cU seed []))=DA at *
 generalize (pO aJ 0 (aI six) (k0+1) (cU other []))=DB at *
 generalize nq (gZ secret)::bL (k0+1) (cU seed [])=P at *
 generalize (0:Fq)::bL (k0+1) (cU other [])=Q at *
 simp only [go_sem,↓reduceIte,TG,MG,TD]
 refine aC (aA _) rfl hO1 rfl ?_
 simp only [go_sem,↓reduceIte]
 refine aC (aA _) rfl hO2 rfl ?_
 simp only [go_sem,↓reduceIte]
 have key:∀ (X:List Fq) (c:Fq) (hd:List Nat),X.length<=hd.length->ev X 0=c->(∀ x∈hd,x<6)->hd.Nodup->1<=hd.length->aD prog G dW [shs (iD (aT X 6) hd)] [] fun r T=>r=.tup [.v (fu c),iv 0]/\T=[]:=by
  intro X c hd hX hc hx hn hl
  have hx6:=xD (a:=hd) (b:=List.range 6) hn fun x h=>List.mem_range.2 (hx x h)
  rw [List.length_range] at hx6
  have hJ:=aEX (G:=G) (iD (aT X 6) hd) (by simp [iD];omega) (by intro e;have:=congrArg List.length e;simp [iD] at this;subst this;simp at hl) (aFe X 6 hd hx (by decide)) (aBR X 6 hd hx hn)
  rwa [aP1 X 6 hd hx (by decide) hn hX,hc] at hJ
 have hS:(aT P 6).length=6:=gT _ _
 have hU:(aT Q 6).length=6:=gT _ _
 refine aL 6 (fun i=>⟨0,[(4,nts at_),(14,uv (gZ secret)),(15,iv (k0+1:Nat)),(20,shs (aT P 6)),(22,shs (aT Q 6)),(24,.own 0),(25,iv i)],[some (.arr 2 ((aT (pa P Q) i).map fW))]⟩) (fun _=>True) ?_ trivial ?_ ?_
 ·simp only [go_sem,↓reduceIte]
  rfl
 ·intro i hi _
  have hd:decide (((i:Nat):Int)<6)=true:=decide_eq_true (by omega)
  have ws:=aH (show i<9223372036854775807 by omega)
  have gP:((aT P 6).map fW)[i]?=some (fW (i+1,ev P (nq (i+1)))):=by simp [aT,hi]
  have gQ:((aT Q 6).map fW)[i]?=some (fW (i+1,ev Q (nq (i+1)))):=by simp [aT,hi]
  have hlen:(aT (pa P Q) i).length=i:=gT _ _
  have hiP:i+1<PP:=by
   have hP:PP=2305843009213693951:=by decide
   omega
  have hAdd:=aQq (G:=G) (i+1,ev P (nq (i+1))) (i+1,ev Q (nq (i+1))) hiP rfl
  have e1:aT (pa P Q) (i+1)=aT (pa P Q) i++[(i+1,ev P (nq (i+1))+ev Q (nq (i+1)))]:=by rw [aDE,aGC]
  simp only [fW] at gP gQ hAdd
  simp only [go_sem,↓reduceIte,List.length_map,hd,gP,gQ,ws,hS,hU,hi]
  have b1:i+1<=maxLen:=by unfold maxLen;omega
  have b2:(i+1)*16<=140737488355328:=by omega
  refine And.intro ?_ ?_
  all_goals
   refine aC (aA _) rfl hAdd rfl ?_
   simp only [go_sem,↓reduceIte,gP,gQ,ws,List.length_map,hlen,e1,List.map_append,List.map_cons,List.map_nil,b1,b2,fW]
 ·intro _
  have hd:decide (((6:Nat):Int)<6)=false:=by decide
  have hB:(aT (pa P Q) 6).length=6:=gT _ _
  have hB0:ev (pa P Q) 0=nq (gZ secret):=by rw [aGC,hP0,hQ0,aZ4]
  have hBl:(pa P Q).length=k0+1:=by rw [aA7,hPl,hQl,Nat.max_self]
  have sS:=aOH (G:=G) (aT P 6) at_ (k0+1) (by rw [hS];omega) h6 h5 (by rw [hS];omega)
  have sB:=aOH (G:=G) (aT (pa P Q) 6) at_ (k0+1) (by rw [hB];omega) h6 h5 (by rw [hB];omega)
  have sU:=aOH (G:=G) (aT Q 6) at_ (k0+1) (by rw [hU];omega) h6 h5 (by rw [hU];omega)
  rw [hS] at sS
  rw [hB] at sB
  rw [hU] at sU
  simp only [go_sem,↓reduceIte,hd]
  refine gL (aA _) rfl sS ?_
  rintro r T' ⟨hd1,n1,x1,l1,rfl,rfl⟩
  have j1:=key P _ hd1 (by omega) hP0 x1 n1 (by omega)
  rw [pI _ (aBV secret)] at j1
  simp only [go_sem,↓reduceIte]
  refine kR (aA _) rfl rfl j1 ?_
  rintro r T' ⟨rfl,rfl⟩
  refine ⟨by simp only [kJ,kX,and_self],by simp,?_⟩
  simp only [go_sem,↓reduceIte]
  refine kR (aA _) rfl rfl sB ?_
  rintro r T' ⟨hd2,n2,x2,l2,rfl,rfl⟩
  have j2:=key (pa P Q) _ hd2 (by omega) hB0 x2 n2 (by omega)
  rw [pI _ (aBV secret)] at j2
  refine ⟨by simp only [kJ],fun o ho=>by rw [List.mem_singleton.1 ho];exact aYv _,?_⟩
  simp only [go_sem,↓reduceIte]
  refine kR (aA _) rfl rfl j2 ?_
  rintro r T' ⟨rfl,rfl⟩
  refine ⟨by simp only [kJ,kX,and_self],by simp,?_⟩
  simp only [go_sem,↓reduceIte]
  refine gL (aA _) rfl sU ?_
  rintro r T' ⟨hd3,n3,x3,l3,rfl,rfl⟩
  have j3:aD prog G dW [shs (iD (aT Q 6) hd3)] [] fun r T=>r=.tup [uv 0,iv 0]/\T=[]:=key Q _ hd3 (by omega) hQ0 x3 n3 (by omega)
  simp only [go_sem,↓reduceIte]
  refine kR (aA _) rfl rfl j3 ?_
  rintro r T' ⟨rfl,rfl⟩
  refine ⟨by simp only [kJ,kX,and_self],by simp,?_⟩
  simp only [go_sem,↓reduceIte]
  refine aC (aA _) rfl (aCh hK) rfl ?_
  simp only [go_sem,↓reduceIte]
end
end
end Hud
