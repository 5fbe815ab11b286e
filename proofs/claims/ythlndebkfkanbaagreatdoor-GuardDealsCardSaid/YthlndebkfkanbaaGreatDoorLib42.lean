import Derived.Test.YthlndebkfkanbaaGreatDoorLib41
set_option linter.all false
namespace Hud
open Go Go.Proofs.Tryz
section
theorem aVY (l:List Nat):nts (aI l)=nns l:=by simp only [nts,nns,aI,List.map_map];rfl
section
variable {G:Nat->Option (List AV)}
set_option maxHeartbeats 4000000
theorem bA2 (hK:GK G) (l:List Int) (need:Int) (secret seed:Nat) (said:List Nat) (h0:l.length<=9223372036854775807) (hl:∀ x∈l,okN x) (h1:secret<18446744073709551616) (h2:seed<18446744073709551616) (h4:okN need) (h5:∀ x∈said,x<18446744073709551616) (h6:said.length<=9223372036854775807) :
  aD prog G xS [nts l,iv need,uv secret,uv seed,.ls 1 (ul said)] [] fun r T=>r=.v (.bool true)/\T=[]:=by
 refine aF aCu (by decide) ?_
 unfold yM
 dsimp only [zj,zT,zF,zC,zE,zP,zQ,zq,zA,zm,zo,zs,zg,zh,zl,zv,zf,zi,zn,zb,zc,ze,zk,zw,zu,zt,zr,zR,zK,zN,zS,z0,zU]
 simp only [go_sem,↓reduceIte]
 refine gL (args':=[.ls 1 []]) (iL (aR2 1) rP) rfl (aFd hK) ?_
 rintro r T' ⟨p,g,hL,rfl,rfl⟩
 have har:=yJ need 9 (by omega)
 obtain ⟨k0,hk0⟩:∃ k0:Nat,kW need 9=k0:=⟨(kW need 9).toNat,by omega⟩
 have hk9:k0<9:=by omega
 have hs7:=aNx l
 have hSome:=aSp (G:=G) l h0 hl
 generalize hq:yN l=q at *
 have hq7:q.length<=7:=by omega
 have h4s:(said.take 4).length<=4:=by simp;omega
 have h4l:∀ x∈said.take 4,x<18446744073709551616:=fun x hx=>h5 x (List.mem_of_mem_take hx)
 have hN:=bBN (G:=G) said 4 h6 (by omega)
 generalize said.take 4=first at *
 have hD:=aR1 (G:=G) p (nq (gZ secret)) q k0 seed first 0 hL.pok hL.keep (by omega) h2 h4l (by omega) (by omega)
 have hF:=aNJ (G:=G) p q k0 seed first 0 hL.pok hL.keep (by omega) h2 h4l (by omega) (by omega)
 have hRD:=aLu (G:=G) g (nq (gZ secret)) (aI q) k0 seed first hL.gok (by rw [hL.gc];exact aLr) (by simp [aI];omega) h2 h4l (by omega)
 have hRF:=aLu (G:=G) g 0 (aI q) k0 seed first hL.gok (by rw [hL.gc];exact aLr) (by simp [aI];omega) h2 h4l (by omega)
 rw [hL.gc,aVY] at hRD hRF
 rw [aBQ hL.card,aAs hL.card,aSO] at hD hF
 rw [pI _ (aBV secret)] at hD hRD
 have hw:cE aJ (aI q) (k0:Int)=0->1<=k0:=by
  intro h
  unfold cE at h
  split at h
  ·simp at h
  ·omega
 have he:∀ n:Fq,(lF aJ n (aI q) (k0:Int) (cU seed first)).2=cE aJ (aI q) (k0:Int)/\(lF aJ n (aI q) (k0:Int) (cU seed first)).1.length<=7:=by
  intro n
  unfold lF
  split
  ·exact ⟨rfl,by simp⟩
  ·rename_i h
   exact ⟨by simpa using (Decidable.not_not.1 h).symm,by simp [pO,aI];omega⟩
 obtain ⟨e1,s1⟩:=he (nq (gZ secret))
 obtain ⟨e2,s2⟩:=he 0
 have hdr:pQ aJ (aI q) (k0:Int)=if cE aJ (aI q) (k0:Int)=0 then k0-1+q.length else 0:=by
  unfold pQ
  split<;>simp [aI]
 rw [e1,hdr] at hD
 rw [e2,hdr] at hF
 rw [e1] at hRD
 rw [e2] at hRF
 have sB1:=aHp (G:=G) (lF aJ (nq (gZ secret)) (aI q) (k0:Int) (cU seed first)).1 (by omega)
 have sB2:=aHp (G:=G) (lF aJ 0 (aI q) (k0:Int) (cU seed first)).1 (by omega)
 generalize (lF aJ (nq (gZ secret)) (aI q) (k0:Int) (cU seed first)).1=DA at *
 generalize (lF aJ 0 (aI q) (k0:Int) (cU seed first)).1=DB at *
 generalize cE aJ (aI q) (k0:Int)=e at *
 generalize hu:(0+if e=0 then k0-1+q.length else 0)=used at *
 simp only [go_sem,↓reduceIte,TG,MG,d5,List.append_nil]
 refine aC (aA _) rfl hSome rfl ?_
 simp only [go_sem,↓reduceIte]
 refine aC (aA _) rfl (sY secret h1) rfl ?_
 simp only [go_sem,↓reduceIte]
 refine aC (aA _) rfl hN rfl ?_
 simp only [go_sem,↓reduceIte]
 refine aC (aA _) rfl (pJ need 9 h4.1 h4.2 (by omega) (by omega)) rfl ?_
 simp only [go_sem,↓reduceIte,hk0]
 refine bU (aA _) rfl (qK seed first (by omega)) ?_
 simp only [go_sem,↓reduceIte,TD]
 refine bU (aA _) rfl (qK seed first (by omega)) ?_
 simp only [go_sem,↓reduceIte,TD]
 refine aG (args2:=[.ptr 0 0,uv (gZ secret),nns q,iv k0,.ptr 3 0]) (T2:=TG 0 p++TD 3 seed first 0) [0,1,2,4,5,6,7] (aA _) (by decide) (fun i hi=>by simp at hi ⊢;omega) rfl (by simp only [go_sem,↓reduceIte,TG,MG,TD]) hD ?_
 rintro r T' ⟨rfl,rfl⟩
 simp only [go_sem,↓reduceIte,TG,MG,TD]
 refine aG (args2:=[.ptr 0 0,nns q,iv k0,.ptr 3 0]) (T2:=TG 0 p++TD 3 seed first 0) [0,1,2,8,9,10,11] (aA _) (by decide) (fun i hi=>by simp at hi ⊢;omega) rfl (by simp only [go_sem,↓reduceIte,TG,MG,TD]) hF ?_
 rintro r T' ⟨rfl,rfl⟩
 simp only [go_sem,↓reduceIte,TG,MG,TD]
 refine aC (aA _) rfl hRD rfl ?_
 simp only [go_sem,↓reduceIte]
 refine aC (args':=[.ag g.A,uv 0,nns q,iv k0,uv seed,.ls 1 (ul first)]) (aA _) rfl hRF rfl ?_
 simp only [go_sem,↓reduceIte,bne_self_eq_false]
 refine aC (aA _) rfl sB1 rfl ?_
 simp only [go_sem,↓reduceIte]
 refine aC (aA _) rfl sB2 rfl ?_
 simp only [go_sem,↓reduceIte]
 refine bM (fun h=>?_) (fun h=>?_)
 ·simp only [beq_iff_eq] at h
  have hk1:=hw h
  rw [if_pos h] at hu
  have w1:IntKind.i64.wrap ((k0:Int)-1)=(k0:Int)-1:=aM (by omega) (by omega)
  have w2:IntKind.i64.wrap ((k0:Int)-1+(q.length:Int))=(used:Int):=by rw [aM (by omega) (by omega)];omega
  simp only [go_sem,↓reduceIte,w1,w2,List.length_map]
  refine aG (args2:=[.ptr 0 0]) (T2:=TD 0 seed first used) [4,5,6,7] (aA _) (by decide) (fun i hi=>by simp at hi ⊢;omega) rfl (by simp only [go_sem,↓reduceIte,TD]) (aP0 seed first used) ?_
  rintro r T' ⟨rfl,rfl⟩
  simp only [go_sem,↓reduceIte,TD,beq_self_eq_true]
  refine aG (args2:=[.ptr 0 0]) (T2:=TD 0 seed first used) [8,9,10,11] (aA _) (by decide) (fun i hi=>by simp at hi ⊢;omega) rfl (by simp only [go_sem,↓reduceIte,TD]) (aP0 seed first used) ?_
  rintro r T' ⟨rfl,rfl⟩
  simp only [go_sem,↓reduceIte,TD,beq_self_eq_true]
  refine aC (aA _) rfl (aCh hK) rfl ?_
  simp only [go_sem,↓reduceIte]
 ·simp only [beq_eq_false_iff_ne,ne_eq] at h
  rw [if_neg h] at hu
  have hu0:used=0:=by omega
  have hz:((used:Int)==0)=true:=by subst hu0;rfl
  simp only [go_sem,↓reduceIte]
  refine aG (args2:=[.ptr 0 0]) (T2:=TD 0 seed first used) [4,5,6,7] (aA _) (by decide) (fun i hi=>by simp at hi ⊢;omega) rfl (by simp only [go_sem,↓reduceIte,TD]) (aP0 seed first used) ?_
  rintro r T' ⟨rfl,rfl⟩
  simp only [go_sem,↓reduceIte,TD,beq_self_eq_true,hz]
  refine aG (args2:=[.ptr 0 0]) (T2:=TD 0 seed first used) [8,9,10,11] (aA _) (by decide) (fun i hi=>by simp at hi ⊢;omega) rfl (by simp only [go_sem,↓reduceIte,TD]) (aP0 seed first used) ?_
  rintro r T' ⟨rfl,rfl⟩
  simp only [go_sem,↓reduceIte,TD,beq_self_eq_true,hz]
  refine aC (aA _) rfl (aCh hK) rfl ?_
  simp only [go_sem,↓reduceIte]
end
end
end Hud
