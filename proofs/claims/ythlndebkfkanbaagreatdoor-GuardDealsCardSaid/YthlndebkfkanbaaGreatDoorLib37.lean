import Derived.Test.YthlndebkfkanbaaGreatDoorLib36
set_option linter.all false
namespace Hud
open Go
section
open Go.Proofs.Tryz
section
variable {G:Nat->Option (List AV)}
set_option maxHeartbeats 8000000
def nV (seed:Nat) (said:List Nat) (used k:Nat):Nat:=cU seed said (used+k)
def TGD (g:PGM) (seed:Nat) (said:List Nat) (used:Nat):Tab:=TG 0 g++TD 3 seed said used
def aI (l:List Nat):List Int:=l.map fun n:Nat=>(n:Int)
theorem aMo (g:PGM) (n:Fq) (l:List Nat) (need:Int) (seed:Nat) (said:List Nat) (used:Nat) (hg:g.ok) (hK:∀ c∈g.cards,c.Keep<PP) (hl:l.length<=12) (hs:seed<18446744073709551616) (hsd:∀ n∈said,n<18446744073709551616) (hsl:said.length<=900) (hu:used<=100) :
  aD prog G oT [.ptr 0 0,.v (fu n),nns l,iv need,.ptr 3 0] (TG 0 g++TD 3 seed said used) fun r T =>
   (cE g.cards (aI l) need≠0/\r=.tup [.own 7,iv (cE g.cards (aI l) need)]/\T=TG 0 g++TD 3 seed said used++[some (.arr 4 [])]) \/
   (cE g.cards (aI l) need=0/\r=.tup [.own 7,iv 0]/\T=TG 0 g++TD 3 seed said (used+(need.toNat-1+l.length))++[some (.arr 4 ((pO g.cards n (aI l) need.toNat (nV seed said used)).map BX.A))]):=by
 refine aF aHJ (by decide) ?_
 unfold aEQ
 dsimp only [zj,zT,zF,zC,zE,zP,zQ,zq,zA,zm,zo,zs,zg,zh,zl,zv,zf,zi,zn,zb,zc,ze,zk,zw,zu,zt,zr,zR,zK,zN,zS,z0,zU]
 have hW:cE g.cards (aI l) need=cE g.cards (aI l) need:=rfl
 conv at hW=>rhs;unfold cE
 have hil:(aI l).length=l.length:=by simp [aI]
 have hnts:nts (aI l)=nns l:=by simp only [nts,nns,aI,List.map_map];rfl
 have h0:TG 0 g++TD 3 seed said used=TGD g seed said used:=rfl
 rw [aOa]
 rw [dH]
 refine gV (fun s=>s=⟨7,[(0,.ptr 0 0),(1,.v (fu n)),(2,nns l),(3,iv need),(4,.ptr 3 0)],TGD g seed said used⟩) ?_ ?_
 ·simp only [go_sem,↓reduceIte,TG,MG,TD,TGD]
 rintro s rfl
 rw [dH]
 refine gV (fun s=>∃ (L:List Nat) (m:Nat) (w:AV),m<=L.length/\((m=l.length)↔pN (aI l) (aI l).length=true)/\((w=.own 8/\m=L.length)\/w=.vw 8 1 0 m)/\s=⟨7,[(12,w),(0,.ptr 0 0),(1,.v (fu n)),(2,nns l),(3,iv need),(4,.ptr 3 0)],TGD g seed said used++[some (.box [nns l]),some (.arr 1 (nl L))]⟩) ?_ ?_
 ·simp only [TGD]
  simp only [go_sem,↓reduceIte,TG,MG,TD]
  refine bU (aA _) rfl (aYl l) ?_
  simp only [go_sem,↓reduceIte]
  refine aG (T2:=[some (.box [nns l])]) [7] (aA _) (by decide) (by simp) rfl (by simp only [go_sem,↓reduceIte]) (aYm l hl) ?_
  rintro r T' ⟨l',⟨hp,hsorted⟩,rfl,rfl⟩
  have hl':l'.length=l.length:=hp.length_eq
  simp only [go_sem,↓reduceIte]
  refine aG (T2:=[some (.arr 1 (nl l'))]) [8] (aA _) (by decide) (by simp) rfl (by simp only [go_sem,↓reduceIte]) (aVK l' hsorted (by omega)) ?_
  rintro r T' ⟨L,m,hm,hinc,hmem,hr,rfl⟩
  have hon:(m=l.length)↔pN (aI l) (aI l).length=true:=by
   have:=aYo (l:=aI l) (M:=(L.take m).map fun n:Nat=>(n:Int)) ?_ ?_
   ·rw [List.length_map,List.length_take,Nat.min_eq_left hm,hil] at this
    rw [hil];exact this
   ·rw [List.Nodup,List.pairwise_map]
    exact hinc.imp fun h=>by omega
   ·intro z
    simp only [aI,List.mem_map]
    constructor
    ·rintro ⟨y,hy,rfl⟩;exact ⟨y,hp.mem_iff.1 ((hmem y).1 hy),rfl⟩
    ·rintro ⟨y,hy,rfl⟩;exact ⟨y,(hmem y).2 (hp.mem_iff.2 hy),rfl⟩
  rcases hr with ⟨rfl,hmL⟩ | rfl
  ·simp only [go_sem,↓reduceIte]
   exact ⟨L,m,_,hm,hon,.inl ⟨rfl,hmL⟩,rfl⟩
  ·simp only [go_sem,↓reduceIte]
   exact ⟨L,m,_,hm,hon,.inr rfl,rfl⟩
 rintro s ⟨L,m,w,hm,hon,hw,rfl⟩
 rw [dH]
 have hmi:((m:Int)!=(l.length:Int))=!pN (aI l) (aI l).length:=by
  rw [Bool.eq_iff_iff]
  simp only [bne_iff_ne,ne_eq,Bool.not_eq_true']
  rw [<-Bool.not_eq_true,<-hon]
  omega
 refine gV (fun s=>¬(need<1\/(l.length:Int)<need\/12<l.length\/pN (aI l) (aI l).length=false)/\s=⟨7,[(0,.ptr 0 0),(1,.v (fu n)),(2,nns l),(3,iv need),(4,.ptr 3 0)],TGD g seed said used++[some (.box [nns l]),some (.arr 1 (nl L))]⟩) ?_ ?_
 ·have d3:decide ((l.length:Int)>12)=false:=decide_eq_false (by omega)
  cases h1:decide (need<1)
  rotate_left
  ·rw [hW,if_pos (.inl (of_decide_eq_true h1))]
   rcases hw with ⟨rfl,rfl⟩ | rfl
   all_goals simp only [go_sem,↓reduceIte,TGD,TG,MG,TD,List.length_map,h1,undef]
   all_goals exact .inl trivial
  cases h2:decide (need>(l.length:Int))
  rotate_left
  ·rw [hW,if_pos (.inr (.inl (by rw [hil];simpa using h2)))]
   rcases hw with ⟨rfl,rfl⟩ | rfl
   all_goals simp only [go_sem,↓reduceIte,TGD,TG,MG,TD,List.length_map,h1,h2,undef]
   all_goals exact .inl trivial
  rw [if_neg (by have:=of_decide_eq_false h1;have:=of_decide_eq_false h2;rw [hil];omega)] at hW
  cases h4:pN (aI l) (aI l).length
  ·rw [hW,if_pos h4]
   rw [h4] at hmi
   rcases hw with ⟨rfl,rfl⟩ | rfl
   all_goals simp only [go_sem,↓reduceIte,TGD,TG,MG,TD,List.length_map,h1,h2,d3,hmi]
   all_goals exact .inl trivial
  ·rw [h4] at hmi
   have hno:¬(need<1\/(l.length:Int)<need\/12<l.length\/pN (aI l) (aI l).length=false):=by
    have:=of_decide_eq_false h1;have:=of_decide_eq_false h2;rw [h4];simp;omega
   rcases hw with ⟨rfl,rfl⟩ | rfl
   all_goals simp only [go_sem,↓reduceIte,TGD,TG,MG,TD,List.length_map,h1,h2,d3,hmi]
   all_goals exact fun h=>hno (by
    rcases h with h | h | h | h
    ·exact .inl h
    ·exact .inr (.inl h)
    ·exact .inr (.inr (.inl h))
    ·exact h.elim)
 rintro s ⟨h12,rfl⟩
 rw [if_neg (by rw [hil];omega),if_neg (by simp only [not_or] at h12;simpa using h12.2.2.2)] at hW
 simp only [go_sem,↓reduceIte,TGD,TG,MG,TD]
 refine aG (args2:=[.ptr 0 0,nts (aI l)]) (T2:=TG 0 g) [0,1,2] (aA _) (by decide) (by simp) (by rw [hnts];rfl) (by simp only [go_sem,↓reduceIte,TG,MG]) (aZY g (aI l) hg (by rw [hil];omega)) ?_
 rintro r T' (⟨hal,rfl,rfl⟩ | ⟨hal,rfl,rfl⟩)
 rotate_left
 ·rw [hW,if_pos hal]
  simp only [go_sem,↓reduceIte,TG,MG,TD,show ((17:Int)!=0)=true by decide]
  exact .inl trivial
 rw [if_neg (by rw [hal];decide)] at hW
 simp only [not_or] at h12
 obtain ⟨k0,rfl⟩:∃ k0:Nat,need=((k0+1:Nat):Int):=⟨need.toNat-1,by omega⟩
 have hp:PP=2305843009213693951:=by decide
 have w0:IntKind.i64.wrap (((k0+1:Nat):Int)-1)=(k0:Int):=by rw [aM (by omega) (by omega)];omega
 simp only [go_sem,↓reduceIte,TG,MG,TD,w0]
 refine aL k0 (fun i=>⟨7,[(1,.v (fu n)),(2,nns l),(4,.ptr 3 0),(13,.ls 1 (ul (lW g.cards (aI l)))),(15,.own 7),(53,iv k0),(54,iv i)],TG 0 g++TD 3 seed said (used+i)++[some (.arr 1 (fl (bL (i+1) (nV seed said used))))]⟩) (fun _=>True) ?_ trivial ?_ ?_
 ·simp only [go_sem,↓reduceIte,TG,MG,TD,Nat.add_zero]
  rfl
 ·intro i hi _
  have ws:=aH (show i<9223372036854775807 by omega)
  have hN:=aYk (G:=G) seed said (used+i) hs hsd (by omega) (by omega)
  have hl1:=(aIn seed said (used+i+1)).2
  have hnq:AV.v (fu (nq (nV seed said used (i+1))))=uv (cU seed said (used+i+1)):=by rw [nV,<-Nat.add_assoc,pI _ hl1]
  have hcl:=qL (i+1) (nV seed said used)
  simp only [go_sem,↓reduceIte,TG,MG,TD,bQ hi]
  refine aG (T2:=TD 0 seed said (used+i)) [3,4,5,6] (aA _) (by decide) (by simp) rfl (by simp only [go_sem,↓reduceIte,TD]) hN ?_
  rintro r T' ⟨rfl,rfl⟩
  simp only [go_sem,↓reduceIte,TG,MG,TD,List.length_map,hcl,aLt,List.map_append,hnq,ws,Nat.add_sub_cancel,show i+1<=maxLen by unfold maxLen;omega,show (i+1)*8<=140737488355328 by omega,Nat.add_assoc]
 intro _
 simp only [go_sem,↓reduceIte,TG,MG,TD,bV (Nat.lt_irrefl _),List.length_map]
 have hcl:=qL (k0+1) (nV seed said used)
 refine aIb [7] [0] (aA _) (args3:=[.v (fu n),.ls 1 (fl (bL (k0+1) (nV seed said used))),iv l.length]) (by decide) (by simp) rfl rfl (by simp only [go_sem,↓reduceIte]) rfl (by simp only [go_sem,↓reduceIte]) (aCS n (bL (k0+1) (nV seed said used)) l.length (by omega) (by omega)) (by simp only [go_sem,↓reduceIte]) ?_
 have hsl2:=gT (n::bL (k0+1) (nV seed said used)) l.length
 simp only [go_sem,↓reduceIte,TG,MG,TD,List.length_map,hsl2]
 refine aL l.length (fun i=>⟨7,[(4,.ptr 3 0),(13,.ls 1 (ul (lW g.cards (aI l)))),(16,.own 7),(66,shs (aT (n::bL (k0+1) (nV seed said used)) l.length)),(67,iv l.length),(68,iv i)],TG 0 g++TD 3 seed said (used+k0+i)++[some (.arr 4 ((aAJ g.cards n (aI l) (k0+1) (nV seed said used) i).map BX.A))]⟩) (fun _=>True) ?_ trivial ?_ ?_
 ·simp only [go_sem,↓reduceIte,TG,MG,TD,Nat.add_zero]
  rfl
 ·intro i hi _
  have ws:=aH (show i<9223372036854775807 by omega)
  have hii:i<(aI l).length:=by omega
  have gd:(aI l).getD i 0=(aI l)[i]:=by rw [List.getD_eq_getElem?_getD,List.getElem?_eq_getElem hii];rfl
  have hb:(aV g.cards (aI l)[i]).2=true:=List.all_eq_true.1 hal _ (List.getElem_mem hii)
  have hkp:=hK _ (aNG hb)
  have hkl:(lW g.cards (aI l)).length=l.length:=by simp [lW,aI]
  have gk:(ul (lW g.cards (aI l)))[i]?=some [uv (aV g.cards (aI l)[i]).1.Keep]:=by
   rw [List.getElem?_map,lW,List.getElem?_map,List.getElem?_eq_getElem hii];rfl
  have hS:((aT (n::bL (k0+1) (nV seed said used)) l.length).map fW)[i]?=some [uv (i+1:Nat),.v (fu (ev (n::bL (k0+1) (nV seed said used)) (nq (i+1))))]:=by
   rw [List.getElem?_map,aT,List.getElem?_map,List.getElem?_range hi];rfl
  have hN:=aYk (G:=G) seed said (used+k0+i) hs hsd (by omega) (by omega)
  have en:nV seed said used (k0+1+i)=cU seed said (used+k0+i+1):=by unfold nV;congr 1;omega
  have hl1:=(aIn seed said (used+k0+i+1)).2
  have eI:=aNH g.cards n (aI l) (k0+1) (nV seed said used) i
  have hlen:=aNI g.cards n (aI l) (k0+1) (nV seed said used) i
  rw [gd,en] at eI
  have hM:=aS0 (G:=G) (nq (aV g.cards (aI l)[i]).1.Keep) (cU seed said (used+k0+i+1)) (ev (n::bL (k0+1) (nV seed said used)) (nq (i+1))) (by omega)
  rw [pI _ hkp] at hM
  generalize aAJ g.cards n (aI l) (k0+1) (nV seed said used) (i+1)=D1 at *
  simp only [TG,TD]
  generalize aAJ g.cards n (aI l) (k0+1) (nV seed said used) i=D at *
  generalize aBF (nq (aV g.cards (aI l)[i]).1.Keep) (cU seed said (used+k0+i+1)) (ev (n::bL (k0+1) (nV seed said used)) (nq (i+1)))=B at *
  simp only [go_sem,↓reduceIte,TG,MG,TD,bQ hi,hS,gk,List.length_map,hsl2,hkl,hi]
  refine aG (T2:=TD 0 seed said (used+k0+i)) [3,4,5,6] (aA _) (by decide) (by simp) rfl (by simp only [go_sem,↓reduceIte,TD]) hN ?_
  rintro r T' ⟨rfl,rfl⟩
  simp only [go_sem,↓reduceIte,TG,MG,TD,hS,gk,List.length_map,hsl2,hkl,hi]
  refine aC (aA _) rfl hM rfl ?_
  simp only [go_sem,↓reduceIte,TG,MG,TD,BX.A,List.length_map,hlen,eI,List.map_append,ws,show i+1<=maxLen by unfold maxLen;omega,show (i+1)*32<=140737488355328 by omega,Nat.add_assoc]
 intro _
 rw [hW]
 simp only [go_sem,↓reduceIte,TG,MG,TD,List.length_map,bV (Nat.lt_irrefl _)]
 have e1:used+(k0+1-1+l.length)=used+k0+l.length:=by omega
 have e2:aAJ g.cards n (aI l) (k0+1) (nV seed said used) l.length=pO g.cards n (aI l) (k0+1) (nV seed said used):=by rw [<-hil];rfl
 rw [e2]
 refine .inr ?_
 rw [e1]
def pQ (cs:List CardM) (l:List Int) (need:Int):Nat:=if cE cs l need=0 then need.toNat-1+l.length else 0
theorem aFc (g:PGM) (n:Fq) (l:List Nat) (need:Int) (seed:Nat) (said:List Nat) (used:Nat) (hg:g.ok) (hK:∀ c∈g.cards,c.Keep<PP) (hl:l.length<=12) (hs:seed<18446744073709551616) (hsd:∀ n∈said,n<18446744073709551616) (hsl:said.length<=900) (hu:used<=100) :
  aD prog G oT [.ptr 0 0,.v (fu n),nns l,iv need,.ptr 3 0] (TG 0 g++TD 3 seed said used) fun r T =>
   r=.tup [.ls 4 ((lF g.cards n (aI l) need (nV seed said used)).1.map BX.A),iv (lF g.cards n (aI l) need (nV seed said used)).2]/\T=TG 0 g++TD 3 seed said (used+pQ g.cards (aI l) need):=by
 have hil:(aI l).length=l.length:=by simp [aI]
 refine (aMo g n l need seed said used hg hK hl hs hsd hsl hu).fin [7] ?_
 rintro r T' (⟨h,rfl,rfl⟩ | ⟨h,rfl,rfl⟩)
 ·rw [lF,if_pos h,pQ,if_neg h]
  simp only [go_sem,↓reduceIte,TG,MG,TD,List.map_nil,Nat.add_zero]
 ·rw [lF,if_neg (by simp [h]),pQ,if_pos h,hil]
  simp only [go_sem,↓reduceIte,TG,MG,TD]
end
end
section
open Go.Proofs.Tryz
section
variable {G:Nat->Option (List AV)}
set_option maxHeartbeats 4000000
theorem aR1 (g:PGM) (n:Fq) (l:List Nat) (need:Int) (seed:Nat) (said:List Nat) (used:Nat) (hg:g.ok) (hK:∀ c∈g.cards,c.Keep<PP) (hl:l.length<=12) (hs:seed<18446744073709551616) (hsd:∀ n∈said,n<18446744073709551616) (hsl:said.length<=900) (hu:used<=100) :
  aD prog G jZ [.ptr 0 0,.v (fu n),nns l,iv need,.ptr 3 0] (TG 0 g++TD 3 seed said used) fun r T =>
   r=.tup [.ls 4 ((lF g.cards n (aI l) need (nV seed said used)).1.map BX.A),iv (lF g.cards n (aI l) need (nV seed said used)).2]/\T=TG 0 g++TD 3 seed said (used+pQ g.cards (aI l) need):=by
 refine aF aHI (by decide) ?_
 unfold aEP
 dsimp only [zj,zT,zF,zC,zE,zP,zQ,zq,zA,zm,zo,zs,zg,zh,zl,zv,zf,zi,zn,zb,zc,ze,zk,zw,zu,zt,zr,zR,zK,zN,zS,z0,zU]
 simp only [go_sem,↓reduceIte,TG,MG,TD]
 refine aG (args2:=[.ptr 0 0,.v (fu n),nns l,iv need,.ptr 3 0]) (T2:=TG 0 g++TD 3 seed said used) [0,1,2,3,4,5,6] (aA _) (by decide) (fun i hi=>by simp at hi ⊢;omega) rfl (by simp only [go_sem,↓reduceIte,TG,MG,TD]) (aFc g n l need seed said used hg hK hl hs hsd hsl hu) ?_
 rintro r T' ⟨rfl,rfl⟩
 simp only [go_sem,↓reduceIte,TG,MG,TD]
theorem aNJ (g:PGM) (l:List Nat) (need:Int) (seed:Nat) (said:List Nat) (used:Nat) (hg:g.ok) (hK:∀ c∈g.cards,c.Keep<PP) (hl:l.length<=12) (hs:seed<18446744073709551616) (hsd:∀ n∈said,n<18446744073709551616) (hsl:said.length<=900) (hu:used<=100) :
  aD prog G mZ [.ptr 0 0,nns l,iv need,.ptr 3 0] (TG 0 g++TD 3 seed said used) fun r T =>
   r=.tup [.ls 4 ((lF g.cards 0 (aI l) need (nV seed said used)).1.map BX.A),iv (lF g.cards 0 (aI l) need (nV seed said used)).2]/\T=TG 0 g++TD 3 seed said (used+pQ g.cards (aI l) need):=by
 refine aF aG1 (by decide) ?_
 unfold aCN
 dsimp only [zj,zT,zF,zC,zE,zP,zQ,zq,zA,zm,zo,zs,zg,zh,zl,zv,zf,zi,zn,zb,zc,ze,zk,zw,zu,zt,zr,zR,zK,zN,zS,z0,zU]
 simp only [go_sem,↓reduceIte,TG,MG,TD]
 refine aG (args2:=[.ptr 0 0,.v (fu 0),nns l,iv need,.ptr 3 0]) (T2:=TG 0 g++TD 3 seed said used) [0,1,2,3,4,5,6] (aA _) (by decide) (fun i hi=>by simp at hi ⊢;omega) rfl (by simp only [go_sem,↓reduceIte,TG,MG,TD]) (aFc g 0 l need seed said used hg hK hl hs hsd hsl hu) ?_
 rintro r T' ⟨rfl,rfl⟩
 simp only [go_sem,↓reduceIte,TG,MG,TD]
end
end
section
open Go.Proofs.Tryz
theorem d5 (g:GM):g.A.drop 5=[]:=Eq.trans rfl rfl
theorem aR2 (k:Nat):lH bE (.ls k []):=by unfold lH;exact .inr (.inl ⟨rfl,k,rfl⟩)
theorem iL {c d:AV} {cs ds:List AV} (h:lH c d) (hs:tG cs ds):tG (c::cs) (d::ds):=by unfold tG;exact ⟨d,ds,rfl,h,hs⟩
theorem rP:tG [] []:=by unfold tG;rfl
theorem aNK (cs:List CardM):∀ l:List OpM,(pOf cs l).cards=qI cs:=by
 have key:∀ (l:List OpM) (p:PGM),(l.foldl (fun p o=>(uY p o).1) p).cards=p.cards:=by
  intro l
  induction l with
  | nil=>exact fun p=>rfl
  | cons o l ih =>
   intro p
   rw [List.foldl_cons,ih]
   rcases aLn p o with h | ⟨h,-⟩<;>rw [h]
 exact fun l=>key l _
theorem aBQ {cs cs':List CardM} (h:∀ d,aV cs d=aV cs' d) (n:Fq) (l:List Int) (need:Int) (num:Nat->Nat):lF cs n l need num=lF cs' n l need num:=by
 have e:aV cs=aV cs':=funext h
 unfold lF cE pO
 rw [e]
theorem aAs {cs cs':List CardM} (h:∀ d,aV cs d=aV cs' d) (l:List Int) (need:Int):pQ cs l need=pQ cs' l need:=by
 have e:aV cs=aV cs':=funext h
 unfold pQ cE
 rw [e]
theorem aSO (seed:Nat) (said:List Nat):nV seed said 0=cU seed said:=by
 funext k;simp only [nV,Nat.zero_add]
structure LG (p:PGM) (g:GM):Prop where
 pok:p.ok
 keep:∀ c∈p.cards,c.Keep<PP
 gok:g.ok
 gc:g.Cards=aJ
 card:∀ d,aV p.cards d=aV aJ d
theorem bDL {g:GM} (h:Reach aJ g):LG (pOf aJ g.L) g:=by
 have gd:=h.good aCg
 refine ⟨aSI aCg g.L fun x hx=>⟨gd.ok.ops x hx,gd.ids x hx⟩,?_,gd.ok,gd.cards,?_⟩
 ·intro c hc
  rw [aNK] at hc
  exact aLr c (qJ.1 hc)
 ·intro d
  rw [aNK]
  exact aLm aCg d
section
variable {G:Nat->Option (List AV)}
set_option maxHeartbeats 4000000
theorem aFd (hK:GK G):aD prog G qA [.ls 1 []] [] fun r T=>∃ p g,LG p g/\r=.tup [.ptr 0 0,.ag g.A]/\T=TG 0 p:=by
 refine aF aM8 (by decide) ?_
 unfold aKZ
 dsimp only [zj,zT,zF,zC,zE,zP,zQ,zq,zA,zm,zo,zs,zg,zh,zl,zv,zf,zi,zn,zb,zc,ze,zk,zw,zu,zt,zr,zR,zK,zN,zS,z0,zU]
 simp only [go_sem,↓reduceIte]
 refine gL (aA _) rfl bBV ?_
 rintro r T' ⟨g,hR,rfl,rfl⟩
 have hl:=bDL hR
 have hO:=bFT (G:=G) hK aCg hR
 generalize hp:pOf aJ g.L=p at *
 simp only [go_sem,↓reduceIte,d5,List.append_nil]
 refine bU (aA _) rfl hO ?_
 simp only [go_sem,↓reduceIte,TG,MG,d5,List.append_nil]
 exact ⟨p,g,hl,rfl,rfl⟩
end
end
section
theorem ev0 (n:Fq) (cs:List Fq):ev (n::cs) 0=n:=by
 show n+0*ev cs 0=n
 rw [aWH,aZ4]
theorem wN (P:List Fq) (m:Nat) (hd:List Nat) (h:∀ x∈hd,x<m):iD (aT P m) hd=hd.map fun i=>(i+1,ev P (nq (i+1))):=by
 refine List.map_congr_left fun i hi=>?_
 have:=h i hi
 simp [aT,this]
theorem aGh (P:List Fq) (m:Nat) (hd:List Nat) (h:∀ x∈hd,x<m):pts (iD (aT P m) hd)=hd.map fun i=>(nq (i+1),ev P (nq (i+1))):=by
 rw [wN P m hd h,pts,List.map_map];rfl
theorem aFe (P:List Fq) (m:Nat) (hd:List Nat) (h:∀ x∈hd,x<m) (hm:m<=1000):∀ p∈iD (aT P m) hd,p.1<PP:=by
 rw [wN P m hd h]
 intro p hp
 obtain ⟨i,hi,rfl⟩:=List.mem_map.1 hp
 have:=h i hi
 have hP:PP=2305843009213693951:=by decide
 simp only;omega
theorem aBR (P:List Fq) (m:Nat) (hd:List Nat) (h:∀ x∈hd,x<m) (hn:hd.Nodup):(0::(iD (aT P m) hd).map (·.1)).Nodup:=by
 rw [wN P m hd h,List.map_map,List.nodup_cons]
 refine ⟨by simp,?_⟩
 rw [List.Nodup,List.pairwise_map]
 exact hn.imp fun hne e=>hne (by simp only [Function.comp] at e;omega)
theorem aP1 (P:List Fq) (m:Nat) (hd:List Nat) (h:∀ x∈hd,x<m) (hm:m<=1000) (hn:hd.Nodup) (hP:P.length<=hd.length) (t:Fq):aXt (iD (aT P m) hd) t=ev P t:=by
 refine aS4 (aG8 (aFe P m hd h hm) (List.nodup_cons.1 (aBR P m hd h hn)).2) ?_ ?_ t
 ·rw [aGh P m hd h,List.length_map];exact hP
 ·rw [aGh P m hd h]
  intro p hp
  obtain ⟨i,-,rfl⟩:=List.mem_map.1 hp
  rfl
def uW (n:Fq) (P:List Fq) (hd:List Nat):List (Fq×Fq):=(0,n)::hd.map fun i=>(nq (i+1),ev P (nq (i+1)))
theorem wO (n:Fq) (P:List Fq) (m:Nat) (hd:List Nat) (h:∀ x∈hd,x<m) (hm:m<=1000) (hn:hd.Nodup):((uW n P hd).map (·.1)).Nodup:=by
 have hP:PP=2305843009213693951:=by decide
 simp only [uW,List.map_cons,List.map_map]
 rw [List.nodup_cons]
 constructor
 ·intro hc
  obtain ⟨i,hi,e⟩:=List.mem_map.1 hc
  have:=h i hi
  have:=aSh (a:=i+1) (b:=0) (by omega) (by omega) (by simp only [Function.comp] at e;rw [e];rfl)
  omega
 ·rw [List.Nodup,List.pairwise_map]
  refine hn.imp_of_mem fun {a b} ha hb hne e=>hne ?_
  have h1:=h a ha
  have h2:=h b hb
  have:=aSh (a:=a+1) (b:=b+1) (by omega) (by omega) (by simpa only [Function.comp] using e)
  omega
theorem aYp (n:Fq) (P:List Fq) (m:Nat) (hd:List Nat) (h:∀ x∈hd,x<m) (hm:m<=1000) (hn:hd.Nodup):(yG (uW n P hd)).length<=hd.length+1:=by
 have:=aG6 (wO n P m hd h hm hn)
 simpa [uW] using this
theorem bBZ (n:Fq) (P:List Fq) (m:Nat) (hd:List Nat) (h:∀ x∈hd,x<m) (hm:m<=1000) (hn:hd.Nodup):ev (yG (uW n P hd)) 0=n:=by
 exact aKD (wO n P m hd h hm hn) (p:=(0,n)) List.mem_cons_self
theorem bC0 (n:Fq) (P:List Fq) (m:Nat) (hd:List Nat) (h:∀ x∈hd,x<m) (hm:m<=1000) (hn:hd.Nodup) (i:Nat) (hi:i∈hd):ev (yG (uW n P hd)) (nq (i+1))=ev P (nq (i+1)):=by
 exact aKD (wO n P m hd h hm hn) (p:=(nq (i+1),ev P (nq (i+1)))) (List.mem_cons_of_mem _ (List.mem_map.2 ⟨i,hi,rfl⟩))
theorem aVL (n:Fq) (hn0:n≠0) (P:List Fq) (m:Nat) (hd:List Nat) (h:∀ x∈hd,x<m) (hm:m<=1000) (hn:hd.Nodup):∃ r,yG (uW n P hd)=n::r:=by
 have h0:=bBZ n P m hd h hm hn
 cases e:yG (uW n P hd) with
 | nil=>rw [e] at h0;exact absurd h0.symm hn0
 | cons c r=>rw [e,ev0] at h0;exact ⟨r,by rw [h0]⟩
theorem aR3 (a:Fq):nq a.val=a:=Fin.ext (Nat.mod_eq_of_lt a.isLt)
theorem aVM (d:Nat) (h1:1<=d) (h2:d<=6):nq (aV aJ (d:Int)).1.Keep=(37:Fq)^nU yF d:=by
 rw [<-aNr]
 have:d=1\/d=2\/d=3\/d=4\/d=5\/d=6:=by omega
 have key:∀ d m:Nat,aV aON (d:Int)=(yK d m,true)->nq (aV aON (d:Int)).1.Keep=(37:Fq)^nU yF d:=by
  intro d m h
  rw [h]
  unfold yK
  exact aR3 _
 rcases this with rfl | rfl | rfl | rfl | rfl | rfl
 ·exact key 1 1 rfl
 ·exact key 2 2 rfl
 ·exact key 3 3 rfl
 ·exact key 4 1 rfl
 ·exact key 5 2 rfl
 ·exact key 6 3 rfl
theorem aVN (n:Fq) (gs:List Nat) (need:Nat) (num:Nat->Nat) (hg:∀ g∈gs,1<=g/\g<=6) (i:Nat) (h:i<gs.length) (hB:i<(pO aJ n (aI gs) need num).length) :
  aCR (nU yF gs[i]) ((pO aJ n (aI gs) need num)[i])=(ev (n::bL need num) (nq (i+1)),0):=by
 have hgi:=hg _ (List.getElem_mem h)
 have e:(aI gs).getD i 0=(gs[i]:Int):=by simp [aI,h]
 simp only [pO,List.getElem_map,List.getElem_range,e,aVM gs[i] hgi.1 hgi.2]
 exact aVd _ _ _
theorem aR4 (P:List Fq) (m:Nat):uS ((List.range m).map fun i=>ev P (nq (i+1)))=aT P m:=by
 refine List.ext_getElem (by simp [uS,aT]) fun i h1 h2=>?_
 simp [uS,aT]
end
section
open Go.Proofs.Tryz
theorem aU9 {n:Fq} {gs:List Nat} {need:Nat} {num:Nat->Nat} (hw:cE aJ (aI gs) (need:Int)=0):lF aJ n (aI gs) (need:Int) num=(pO aJ n (aI gs) need num,0):=by
 unfold lF
 rw [if_neg (by simp [hw]),Int.toNat_natCast]
section
variable {G:Nat->Option (List AV)}
set_option maxHeartbeats 4000000
theorem aIo (n:Fq) (gs:List Nat) (need:Nat) (num:Nat->Nat) (hg:∀ g∈gs,1<=g/\g<=6) (hl:gs.length<=1000) :
  aD prog G iN [nns gs,.ls 4 ((pO aJ n (aI gs) need num).map BX.A)] [] fun r T=>r=.tup [shs (aT (n::bL need num) gs.length),.v (.bool true)]/\T=[]:=by
 have hB:(pO aJ n (aI gs) need num).length=gs.length:=by simp [pO,aI]
 have:=aXH (G:=G) gs (pO aJ n (aI gs) need num) ((List.range gs.length).map fun i=>ev (n::bL need num) (nq (i+1))) hB (by simp) hl (fun g h=>by have:=hg g h;omega) (fun i h=>by
  rw [aVN n gs need num hg i h (by omega)]
  simp)
 rwa [aR4] at this
theorem aP2 {p:PGM} {g:GM} (hL:LG p g) (n:Fq) (gs:List Nat) (need:Nat) (seed:Nat) (hl:gs.length<=12) (hw:cE aJ (aI gs) (need:Int)=0) (hs:seed<18446744073709551616) :
  aD prog G jZ [.ptr 0 0,.v (fu n),nns gs,iv need,.ptr 3 0] (TG 0 p++TD 3 seed [] 0) fun r T=>r=.tup [.ls 4 ((pO aJ n (aI gs) need (cU seed [])).map BX.A),iv 0]/\T=TG 0 p++TD 3 seed [] (need-1+gs.length):=by
 have h:=aR1 (G:=G) p n gs need seed [] 0 hL.pok hL.keep hl hs (by simp) (by simp) (by omega)
 rw [aBQ hL.card,aAs hL.card,aSO,aU9 hw] at h
 have e:0+pQ aJ (aI gs) (need:Int)=need-1+gs.length:=by
  unfold pQ
  rw [if_pos hw];simp [aI]
 rwa [e] at h
theorem aYq {p:PGM} {g:GM} (hL:LG p g) (gs:List Nat) (need:Nat) (seed:Nat) (hl:gs.length<=12) (hw:cE aJ (aI gs) (need:Int)=0) (hs:seed<18446744073709551616) :
  aD prog G mZ [.ptr 0 0,nns gs,iv need,.ptr 3 0] (TG 0 p++TD 3 seed [] 0) fun r T=>r=.tup [.ls 4 ((pO aJ 0 (aI gs) need (cU seed [])).map BX.A),iv 0]/\T=TG 0 p++TD 3 seed [] (need-1+gs.length):=by
 have h:=aNJ (G:=G) p gs need seed [] 0 hL.pok hL.keep hl hs (by simp) (by simp) (by omega)
 rw [aBQ hL.card,aAs hL.card,aSO,aU9 hw] at h
 have e:0+pQ aJ (aI gs) (need:Int)=need-1+gs.length:=by
  unfold pQ
  rw [if_pos hw];simp [aI]
 rwa [e] at h
theorem bC1:cE aJ (aI [1,2,3]) ((2:Nat):Int)=0:=by kernel_rfl
theorem aCh (hK:GK G):aD prog G qZ [] [] fun r T=>r=.v (.bool true)/\T=[]:=by
 refine aF aL0 (by decide) ?_
 unfold aHk
 dsimp only [zj,zT,zF,zC,zE,zP,zQ,zq,zA,zm,zo,zs,zg,zh,zl,zv,zf,zi,zn,zb,zc,ze,zk,zw,zu,zt,zr,zR,zK,zN,zS,z0,zU]
 simp only [go_sem,↓reduceIte]
 refine gL (args':=[.ls 1 []]) (iL (aR2 1) rP) rfl (aFd hK) ?_
 rintro r T' ⟨p,g,hL,rfl,rfl⟩
 simp only [go_sem,↓reduceIte,TG,MG,d5,List.append_nil]
 refine bU (args':=[uv 1,.ls 1 (ul [])]) (iL (tC _) (iL (aR2 1) rP)) rfl (qK 1 [] (by simp)) ?_
 simp only [go_sem,↓reduceIte,TD]
 have hD:=aP2 (G:=G) hL (nq 9) [1,2,3] 2 1 (by decide) bC1 (by decide)
 rw [pI 9 (by decide)] at hD
 refine aG (args2:=[.ptr 0 0,uv 9,nns [1,2,3],iv 2,.ptr 3 0]) (T2:=TG 0 p++TD 3 1 [] 0) [0,2,3,1,4,5,6] (aA _) (by decide) (fun i hi=>by simp at hi ⊢;omega) rfl (by simp only [go_sem,↓reduceIte,TG,MG,TD]) hD ?_
 rintro r T' ⟨rfl,rfl⟩
 have hO:=aIo (G:=G) (nq 9) [1,2,3] 2 (cU 1 []) (by decide) (by decide)
 have hJ:=fun (hd:List Nat) (h1:∀ x∈hd,x<3) (h2:hd.Nodup) (h3:hd.length=2)=>aEX (G:=G) (iD (aT (nq 9::bL 2 (cU 1 [])) 3) hd) (by simp [iD,h3]) (by intro e;have:=congrArg List.length e;simp [iD,h3] at this) (aFe _ 3 hd h1 (by decide)) (aBR _ 3 hd h1 h2)
 have hj1:=hJ [0,2] (by decide) (by decide) rfl
 have hj2:=hJ [1,2] (by decide) (by decide) rfl
 rw [aP1 _ 3 [0,2] (by decide) (by decide) (by decide) (by simp [bL]),ev0,pI 9 (by decide)] at hj1
 rw [aP1 _ 3 [1,2] (by decide) (by decide) (by decide) (by simp [bL]),ev0,pI 9 (by decide)] at hj2
 rw [show ([1,2,3]:List Nat).length=3 from rfl] at hO
 have hS3:(aT (nq 9::bL 2 (cU 1 [])) 3).length=3:=gT _ _
 simp only [iD,List.map_cons,List.map_nil] at hj1 hj2
 generalize aT (nq 9::bL 2 (cU 1 [])) 3=S at *
 obtain ⟨a,b,c,rfl⟩:∃ a b c,S=[a,b,c]:=by
  match S,hS3 with
  | [a,b,c],_=>exact ⟨a,b,c,rfl⟩
 simp only [go_sem,↓reduceIte,TG,MG,TD]
 refine aC (aA _) rfl hO rfl ?_
 replace hj1:aD prog G dW [shs [a,c]] [] fun r T=>r=.tup [uv 9,iv 0]/\T=[]:=hj1
 replace hj2:aD prog G dW [shs [b,c]] [] fun r T=>r=.tup [uv 9,iv 0]/\T=[]:=hj2
 simp only [shs,fW,List.map_cons,List.map_nil] at hj1 hj2
 simp only [go_sem,↓reduceIte,List.length_cons,List.length_nil,fW]
 refine kR (aA _) rfl rfl hj1 ?_
 rintro r T' ⟨rfl,rfl⟩
 refine ⟨by simp only [kJ,kX,and_self],by simp,?_⟩
 simp only [go_sem,↓reduceIte,fW]
 refine aC (aA _) rfl hj2 rfl ?_
 simp only [go_sem,↓reduceIte]
end
end
end Hud
