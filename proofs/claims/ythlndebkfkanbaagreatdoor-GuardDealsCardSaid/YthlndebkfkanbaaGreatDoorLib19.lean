import Derived.Test.YthlndebkfkanbaaGreatDoorLib18
import Derived.Shelf.SlSortCmp.NoneTotal
import Derived.Test.YthlndebkfkanbaaGreatDoorProg
set_option linter.all false
section
namespace Hud
open Go Go.Proofs Go.Sort Go.Shelf
def cellsOf {α:Type} (enc:α->List Value) (x:α):List AV:=(enc x).map .v
theorem aOD {α:Type} [Inhabited α] {enc:α->List Value} {k:Nat} (hk:∀ x,(enc x).length=k):∀ (l:List α) (t:Nat),t<l.length*k->(l.flatMap enc)[t]?=some ((enc l[t/k]!)[t%k]!)
 | [],t,h=>by simp at h
 | x::l,t,h=>by
  have hk0:0<k:=by
   rcases Nat.eq_zero_or_pos k with h0 | h0
   ·subst h0;simp at h
   ·exact h0
  rw [List.flatMap_cons]
  rcases Nat.lt_or_ge t k with hlt | hge
  ·rw [List.getElem?_append_left (by rw [hk];exact hlt),Nat.div_eq_of_lt hlt,Nat.mod_eq_of_lt hlt,List.getElem!_eq_getElem?_getD]
   have:t<(enc x).length:=by rw [hk];exact hlt
   simp [this]
  ·rw [List.getElem?_append_right (by rw [hk];exact hge),hk]
   have h1:t-k<l.length*k:=by
    rw [List.length_cons,Nat.add_mul,Nat.one_mul] at h;omega
   rw [aOD hk l (t-k) h1]
   have e1:t/k=(t-k)/k+1:=by
    have:=Nat.add_div_right (t-k) hk0
    rw [Nat.sub_add_cancel hge] at this
    exact this
   have e2:t%k=(t-k)%k:=(Nat.mod_eq_sub_mod hge)
   rw [e1,<-e2]
   simp
theorem aZo {α:Type} {enc:α->List Value} {k:Nat} (hk:∀ x,(enc x).length=k) (l:List α):(l.flatMap enc).length=l.length*k:=by
 induction l with
 | nil=>simp
 | cons x l ih=>rw [List.flatMap_cons,List.length_append,hk,ih,List.length_cons,Nat.add_mul,Nat.one_mul,Nat.add_comm]
theorem aKO {α:Type} [Inhabited α] (d:Array α) (i:Nat):d.toList[i]! = d[i]! := by
 by_cases h:i<d.size
 ·rw [getElem!_pos d i h,getElem!_pos d.toList i (by simpa using h)];simp
 ·rw [getElem!_neg d i h,getElem!_neg d.toList i (by simpa using h)]
theorem aSf {α:Type} [Inhabited α] {enc:α->List Value} {k:Nat} (hk:∀ x,(enc x).length=k) (d:Array α):(flatK enc k d).toList=d.toList.flatMap enc:=by
 apply List.ext_getElem?
 intro t
 rcases Nat.lt_or_ge t (d.size*k) with h | h
 ·have e:(flatK enc k d).toList[t]! = (enc d.toList[t/k]!)[t%k]! := by rw [aKO (flatK enc k d),get_flatK enc k d t h,aKO d]
  rw [aOD hk d.toList t (by simpa using h),<-e,List.getElem!_eq_getElem?_getD,List.getElem?_eq_getElem (by simpa using h)]
  rfl
 ·rw [List.getElem?_eq_none (by simpa using h),List.getElem?_eq_none (by rw [aZo hk];simpa using h)]
theorem aTO {h:GH}:∀ {vs us:List Value},bC h (vs.map .v) us->us=vs
 | [],us,e=>by simpa [bC] using e
 | v::vs,us,e=>by
  simp only [List.map_cons,bC] at e
  obtain ⟨u,us',rfl,h1,h2⟩:=e
  simp only [RpD] at h1
  rw [h1,aTO h2]
theorem aKP {h:GH}:∀ {vs:List Value},bC h (vs.map .v) vs
 | []=>by simp [bC]
 | v::vs=>by simp only [List.map_cons,bC];exact ⟨v,vs,rfl,by simp [RpD],aKP⟩
theorem aKQ {α:Type} (enc:α->List Value) (l:List α):(l.map (cellsOf enc)).flatten=(l.flatMap enc).map .v:=by
 induction l with
 | nil=>rfl
 | cons x l ih=>simp [cellsOf,ih]
section
variable {P:Program} {α:Type} [Inhabited α] {enc:α->List Value} {k:Nat}
theorem aXp {w:World} {g o:Nat} {cur:Array Value} {E:TypeId} (h:w.heap[g]?=some (.cells cur E (0,0))):w.cell? ⟨g,o,none⟩=cur[o]?/\w.frozen? ⟨g,o,none⟩=false:=by
 constructor
 ·simp [World.cell?,h]
 ·simp [World.frozen?,h]
theorem aXq {h:GH} {w:World} {g:Nat} {cur:Array Value} {E:TypeId} {l:List α} (hk:∀ x,(enc x).length=k) (hw:w.heap[g]?=some (.cells cur E (0,0))) (hr:bC h (l.map (cellsOf enc)).flatten (cur.toList.take (l.length*k))) :
  HoldsK enc k w g 0 l.toArray:=by
 rw [aKQ] at hr
 have hcur:=aTO hr
 intro t ht
 rw [size_flatK] at ht
 have ht':t<l.length*k:=by simpa using ht
 obtain ⟨c1,c2⟩:=aXp (o:=0+t) hw
 refine ⟨?_,c2⟩
 rw [c1,Nat.zero_add]
 have h1:cur.toList[t]?=(l.flatMap enc)[t]?:=by
  rw [<-hcur,List.getElem?_take,if_pos ht']
 rw [aOD hk l t ht'] at h1
 rw [get_flatK _ _ _ _ ht,<-aKO]
 simpa using h1
theorem aQn {w:World} {g m:Nat} {cur:Array Value} {E:TypeId} {d:Array α} {os:Array Obj} (hk:∀ x,(enc x).length=k) (hw:w.heap[g]?=some (.cells cur E (0,0))) (hs:d.size*k<=cur.size) :
  (∀ b,b<w.heap.size->b≠g->(sortWorldK enc k w g 0 m d os).heap[b]?=w.heap[b]?) /\
  (∃ cur',(sortWorldK enc k w g 0 m d os).heap[g]?=some (.cells cur' E (0,0))/\cur'.size=cur.size/\cur'.toList.take (d.size*k)=d.toList.flatMap enc)/\w.heap.size<=(sortWorldK enc k w g 0 m d os).heap.size:=by
 have hlt:g<w.heap.size:=by
  rcases Nat.lt_or_ge g w.heap.size with hh | hh
  ·exact hh
  ·rw [Array.getElem?_eq_none hh] at hw;simp at hw
 have hheap:(sortWorldK enc k w g 0 m d os).heap=w.heap.modify g (onCells (putCells id 0 (flatK enc k d)))++os:=rfl
 rw [hheap]
 refine ⟨fun b hb hne=>?_,⟨putCells id 0 (flatK enc k d) cur,?_,?_,?_⟩,?_⟩
 ·rw [Array.getElem?_append_left (by simpa using hb),Array.getElem?_modify,if_neg (fun e=>hne e.symm)]
 ·rw [Array.getElem?_append_left (by simpa using hlt),Array.getElem?_modify,if_pos rfl,hw]
  rfl
 ·simp [putCells]
 ·rw [<-aSf hk]
  apply List.ext_getElem?
  intro t
  rw [List.getElem?_take]
  split
  ·rename_i ht
   have h1:t<cur.size:=Nat.lt_of_lt_of_le ht hs
   have h2:t<(flatK enc k d).size:=by rw [size_flatK];exact ht
   rw [List.getElem?_eq_getElem (by simpa [putCells] using h1),List.getElem?_eq_getElem (by simpa using h2)]
   simp only [putCells,Array.getElem_toList,Array.getElem_mapIdx]
   rw [if_pos ⟨Nat.zero_le _,by omega⟩,Nat.sub_zero,id,getElem!_pos _ t h2]
  ·rename_i ht
   rw [List.getElem?_eq_none (by simpa using ht)]
 ·simp
theorem aZp {ρ:Ren} (L:SlLaysF0.n6 P ρ) (aE:∀ w,(isAgg (ρ.t 24)).run P w=.ok true w) (zE:∀ w,(Go.sizeOf (ρ.t 24)).run P w=.ok k w) (hk:∀ x,(enc x).length=k) (h1:∀ x,∀ v∈enc x,v.oneCell'=true) (hcl:∀ x,∀ c∈cellsOf enc x,aP c=true)
  {cf:α->α->Int} (hO:SWO (ltOf cf)) (hT:∀ x y,(ltOf cf) x y=false->(ltOf cf) y x=false->x=y) {g:Nat} (eg:∀ args w,(callFunc g args).run P w=.ok (.enter g args) w) (eS:∀ args w,(callFunc (ρ.f 6) args).run P w=.ok (.enter (ρ.f 6) args) w) {G:Nat->Option (List AV)}
  (hcmp:∀ x y,aD P G g [.ag (cellsOf enc x),.ag (cellsOf enc y)] [] fun r T=>r=.v (.int .i64 (cf x y))/\T=[]) (l:List α) (hl:l.length<4611686018427387904) :
  aD P G (ρ.f 6) [.own 0,.cl g []] [some (.arr k (l.map (cellsOf enc)))] fun r T=>r=.tup []/\T=[some (.arr k ((l.mergeSort fun x y=>!(ltOf cf) y x).map (cellsOf enc)))]:=by
 intro h φ w vals hG hI hA
 refine .inl ⟨eS _ _,?_⟩
 simp only [RpL] at hA
 obtain ⟨u0,us0,hv0,hA0,u1,us1,rfl,hA1,rfl⟩:=hA
 simp only [Rp] at hA0 hA1
 obtain ⟨_,rfl,_⟩:=hA0
 obtain ⟨us,rfl,hus⟩:=hA1
 simp only [RpL] at hus
 have hus':us=#[]:=by simpa using hus
 subst hus'
 obtain rfl:vals=#[φ 0,.func (.func g) #[] #[]]:=by apply Array.toList_inj.1;simpa using hv0
 obtain ⟨hc,hobj⟩:=hI.obj 0 _ rfl
 have hperm:=List.mergeSort_perm l (fun x y=>!(ltOf cf) y x)
 have hlen:(l.mergeSort fun x y=>!(ltOf cf) y x).length=l.length:=hperm.length_eq
 rcases hobj with ⟨A0,e0,hnil⟩ | ⟨b,c,cur,E,e0,e1,e2,e3,e4,e5,e6⟩
 ·have:l=[]:=by simpa using hnil
  subst this
  rw [e0]
  refine (AnyF.slices_SortFunc_none L A0 0 (.func (.func g) #[] #[]) w).mono ?_
  rintro e w' ⟨rfl,rfl⟩
  have e0':([]:List α).mergeSort (fun x y=>!(ltOf cf) y x)=[]:=List.mergeSort_nil
  rw [e0']
  exact ⟨_,rfl,.tup [],_,h,φ,⟨rfl,rfl⟩,Evo.refl,hI,by simp only [Rp];exact ⟨#[],rfl,by simp [RpL]⟩⟩
 ·rw [e0]
  rw [List.length_map] at e2 e6 ⊢
  have hb:b<w.heap.size:=by
   rcases Nat.lt_or_ge b w.heap.size with hh | hh
   ·exact hh
   ·rw [Array.getElem?_eq_none hh] at e1;simp at e1
  have hH:=aXq hk e1 e6
  have hsz:l.length*k<=cur.size:=by rw [e4];exact Nat.mul_le_mul_right k e2
  have hgh:∀ b' cs,h b'=some cs->b'≠b:=fun b' cs e he=>by rw [he,e5] at e;simp at e
  have hC:CmpLays P g #[] enc k cf b 0 l.toArray.size w:=by
   intro m os dk hdk x y
   obtain ⟨s1,⟨cur',s2,s3,s4⟩,s5⟩:=aQn (m:=m) (os:=os) (d:=dk) hk e1 (by rw [hdk];simpa using hsz)
   have hI':Inv h φ (sortWorldK enc k w b 0 m dk os) []:=⟨fun b' cs e=>by
    obtain ⟨E',fr,hw'⟩:=hI.gh b' cs e
    have hb':b'<w.heap.size:=by
     rcases Nat.lt_or_ge b' w.heap.size with hh | hh
     ·exact hh
     ·rw [Array.getElem?_eq_none hh] at hw';simp at hw'
    exact ⟨E',fr,by rw [s1 b' hb' (hgh b' cs e)];exact hw'⟩,fun i o e=>by simp at e,fun i j oi oj b e=>by simp at e⟩
   have hargs:RpL h φ 0 [.ag (cellsOf enc x),.ag (cellsOf enc y)] (#[Value.agg (enc x).toArray,.agg (enc y).toArray]++#[]:Array Value).toList:=by
    have key:∀ l:List Value,RpL h φ 0 (l.map .v) l:=by
     intro l
     induction l with
     | nil=>simp [RpL]
     | cons c l ih=>simp only [List.map_cons,RpL];exact ⟨c,l,rfl,by simp [Rp],ih⟩
    simp only [RpL]
    exact ⟨_,_,rfl,by simp only [Rp];exact ⟨_,rfl,key (enc x)⟩,_,_,rfl,by simp only [Rp];exact ⟨_,rfl,key (enc y)⟩,rfl⟩
   rcases hcmp x y h φ _ _ hG hI' hargs with ⟨_,hc⟩ | ⟨v,w',hc,_⟩
   ·refine hc.mono ?_
    rintro e w' ⟨v,rfl,r,T',h',φ',⟨rfl,rfl⟩,hE,hI2,hv⟩
    simp only [Rp] at hv
    subst hv
    refine ⟨rfl,w'.drawn-(sortWorldK enc k w b 0 m dk os).drawn,w'.heap.extract (sortWorldK enc k w b 0 m dk os).heap.size w'.heap.size,?_⟩
    have hd:=hE.drawn
    have hheap:w'.heap=(sortWorldK enc k w b 0 m dk os).heap++w'.heap.extract (sortWorldK enc k w b 0 m dk os).heap.size w'.heap.size:=by
     apply Array.ext_getElem?
     intro i
     rcases Nat.lt_or_ge i (sortWorldK enc k w b 0 m dk os).heap.size with hi | hi
     ·rw [Array.getElem?_append_left hi,hE.frame i hi (fun j o e=>by simp at e)]
     ·rw [Array.getElem?_append_right hi]
      have:=hE.size
      rw [Array.getElem?_extract]
      split
      ·congr 1;omega
      ·rw [Array.getElem?_eq_none (by omega)]
    have e7:=hE.os
    have e8:=hE.tape
    have e9:=hE.output
    revert hd hheap e7 e8 e9
    generalize sortWorldK enc k w b 0 m dk os=W
    intro hd hheap e7 e8 e9
    obtain ⟨hp,tp,dr,o,op⟩:=w'
    simp only at hheap hd e7 e8 e9
    subst e7;subst e8;subst e9
    simp only [Go.Sort.grow,World.drewN]
    rw [<-hheap]
    congr 1
    omega
   ·rw [eg] at hc;simp at hc
  refine (AnyQ.slices_SortFunc_total L k aE zE enc hk h1 cf hO g #[] b 0 (c+1) l.toArray w eg hC hH hb (by simpa using hl) hT).mono ?_
  rintro e w' ⟨rfl,n,os,rfl⟩
  generalize (l.mergeSort fun x y=>!(ltOf cf) y x)=l' at hlen
  obtain ⟨s1,⟨cur',s2,s3,s4⟩,s5⟩:=aQn (m:=n) (os:=os) (d:=l'.toArray) hk e1 (by simpa [hlen] using hsz)
  have:=aBY (w':=sortWorldK enc k w b 0 n l'.toArray os) (o':=.arr k (l'.map (cellsOf enc))) hI rfl rfl rfl s5 (i:=0) (o:=.arr k (l.map (cellsOf enc))) rfl
   (fun b' hb' hne=>s1 b' hb' (fun e=>hne (by rw [e0,e];rfl)))
   ⟨fun x hx=>by
    obtain ⟨y,_,rfl⟩:=List.mem_map.1 hx
    exact ⟨by simp [cellsOf,hk],hcl y⟩,.inr ⟨b,c,cur',E,by rw [List.length_map,hlen];simpa using e0,s2,by rw [List.length_map,hlen];exact e2,e3,by rw [s3];exact e4,e5,by
     rw [List.length_map,aKQ]
     simp only [List.size_toArray] at s4
     rw [s4]
     exact aKP⟩⟩
   (Nat.le_add_right _ _)
  exact ⟨_,rfl,.tup [],_,h,φ,⟨rfl,rfl⟩,this.2,this.1,by simp only [Rp];exact ⟨#[],rfl,by simp [RpL]⟩⟩
end
end Hud
end
section
namespace Go.Proofs
open Go.Shelf
def Tryz.laysSortC_ren:Go.Shelf.Ren:=⟨fun | 6=>132 | 15=>202 | 14=>201 | 28=>256 | 29=>257 | 20=>248 | 21=>249 | 22=>250 | 23=>251 | 24=>252 | 25=>253 | 26=>254 | 27=>255 | 46=>314 | 47=>315 | 48=>316 | 49=>317 | 50=>318 | 57=>358 | n=>n,fun | 22=>25 | 24=>107 | 25=>181 | 3=>3 | 39=>159 | 0=>0 | 53=>297 | 55=>22 | 4=>4 | 46=>291 | 45=>290 | 50=>186 | 5=>5 | 9=>9 | 66=>331 | 70=>334 | 76=>364 | 77=>365 | n=>n,fun | n=>n⟩
theorem Tryz.laysSortC:Go.Proofs.SlLaysF0.n6 Tryz.prog Tryz.laysSortC_ren:={
 mixed:=by kernel_rfl
 f6:=⟨Tryz.f132.name,by decide,Tryz.func132.trans (congrArg some (by kernel_rfl))⟩
 f14:=⟨Tryz.f201.name,by decide,Tryz.func201.trans (congrArg some (by kernel_rfl))⟩
 f15:=Tryz.func202.trans (congrArg some (by kernel_rfl))
 f20:=⟨Tryz.f248.name,by decide,Tryz.func248.trans (congrArg some (by kernel_rfl))⟩
 f21:=⟨Tryz.f249.name,by decide,Tryz.func249.trans (congrArg some (by kernel_rfl))⟩
 f22:=⟨Tryz.f250.name,by decide,Tryz.func250.trans (congrArg some (by kernel_rfl))⟩
 f23:=⟨Tryz.f251.name,by decide,Tryz.func251.trans (congrArg some (by kernel_rfl))⟩
 f24:=⟨Tryz.f252.name,by decide,Tryz.func252.trans (congrArg some (by kernel_rfl))⟩
 f25:=⟨Tryz.f253.name,by decide,Tryz.func253.trans (congrArg some (by kernel_rfl))⟩
 f26:=⟨Tryz.f254.name,by decide,Tryz.func254.trans (congrArg some (by kernel_rfl))⟩
 f27:=⟨Tryz.f255.name,by decide,Tryz.func255.trans (congrArg some (by kernel_rfl))⟩
 f28:=Tryz.func256.trans (congrArg some (by kernel_rfl))
 f29:=Tryz.func257.trans (congrArg some (by kernel_rfl))
 f46:=⟨Tryz.f314.name,by decide,Tryz.func314.trans (congrArg some (by kernel_rfl))⟩
 f47:=Tryz.func315.trans (congrArg some (by kernel_rfl))
 f48:=Tryz.func316.trans (congrArg some (by kernel_rfl))
 f49:=⟨Tryz.f317.name,by decide,Tryz.func317.trans (congrArg some (by kernel_rfl))⟩
 f50:=⟨Tryz.f318.name,by decide,Tryz.func318.trans (congrArg some (by kernel_rfl))⟩
 f57:=⟨Tryz.f358.name,by decide,Tryz.func358.trans (congrArg some (by kernel_rfl))⟩
 t0:=Tryz.underlying0
 a0:=Tryz.isAgg0
 z0:=Tryz.sizeOf0
 v0:=Tryz.zeroValue0
 t3:=Tryz.underlying3
 a3:=Tryz.isAgg3
 z3:=Tryz.sizeOf3
 v3:=Tryz.zeroValue3
 t4:=Tryz.underlying4
 a4:=Tryz.isAgg4
 z4:=Tryz.sizeOf4
 v4:=Tryz.zeroValue4
 t5:=Tryz.underlying5
 a5:=Tryz.isAgg5
 z5:=Tryz.sizeOf5
 v5:=Tryz.zeroValue5
 t9:=Tryz.underlying9
 a9:=Tryz.isAgg9
 z9:=Tryz.sizeOf9
 v9:=Tryz.zeroValue9
 t22:=Tryz.underlying25
 a22:=Tryz.isAgg25
 z22:=Tryz.sizeOf25
 v22:=Tryz.zeroValue25
 t25:=Tryz.underlying181
 a25:=Tryz.isAgg181
 z25:=Tryz.sizeOf181
 v25:=Tryz.zeroValue181
 t39:=Tryz.underlying159
 a39:=Tryz.isAgg159
 z39:=Tryz.sizeOf159
 v39:=Tryz.zeroValue159
 t45:=Tryz.underlying290
 a45:=Tryz.isAgg290
 z45:=Tryz.sizeOf290
 v45:=Tryz.zeroValue290
 t46:=Tryz.underlying291
 a46:=Tryz.isAgg291
 z46:=Tryz.sizeOf291
 v46:=Tryz.zeroValue291
 t50:=Tryz.underlying186
 a50:=Tryz.isAgg186
 z50:=Tryz.sizeOf186
 v50:=Tryz.zeroValue186
 t53:=Tryz.underlying297
 a53:=Tryz.isAgg297
 z53:=Tryz.sizeOf297
 v53:=Tryz.zeroValue297
 t55:=Tryz.underlying22
 a55:=Tryz.isAgg22
 z55:=Tryz.sizeOf22
 v55:=Tryz.zeroValue22
 t66:=Tryz.underlying331
 a66:=Tryz.isAgg331
 z66:=Tryz.sizeOf331
 v66:=Tryz.zeroValue331
 t70:=Tryz.underlying334
 a70:=Tryz.isAgg334
 z70:=Tryz.sizeOf334
 v70:=Tryz.zeroValue334
 t76:=Tryz.underlying364
 a76:=Tryz.isAgg364
 z76:=Tryz.sizeOf364
 v76:=Tryz.zeroValue364
 t77:=Tryz.underlying365
 a77:=Tryz.isAgg365
 z77:=Tryz.sizeOf365
 v77:=Tryz.zeroValue365 }
end Go.Proofs
end
namespace Hud
open Go
section
open Go.Proofs.Tryz
section
variable {G:Nat->Option (List AV)}
set_option maxHeartbeats 2000000
theorem aAH (x:Int):aD prog G fT [.v (.int .i64 x)] [] fun r T=>r=.v (.bool false)/\T=[]:=by
 refine aF uO (by decide) ?_
 unfold sC
 dsimp only [zj,zT,zF,zC,zE,zP,zQ,zq,zA,zm,zo,zs,zg,zh,zl,zv,zf,zi,zn,zb,zc,ze,zk,zw,zu,zt,zr,zR,zK,zN,zS,z0,zU]
 simp only [go_sem,↓reduceIte,bne_self_eq_false]
theorem uP (x:Int):aD prog G kG [.v (.int .u64 x)] [] fun r T=>r=.v (.bool false)/\T=[]:=by
 refine aF aAK (by decide) ?_
 unfold uB
 dsimp only [zj,zT,zF,zC,zE,zP,zQ,zq,zA,zm,zo,zs,zg,zh,zl,zv,zf,zi,zn,zb,zc,ze,zk,zw,zu,zt,zr,zR,zK,zN,zS,z0,zU]
 simp only [go_sem,↓reduceIte,bne_self_eq_false]
def aCs (x y:Int):Int:=if x<y then -1 else if y<x then 1 else 0
theorem wH (x y:Int):aD prog G lB [.v (.int .i64 x),.v (.int .i64 y)] [] fun r T=>r=.v (.int .i64 (aCs x y))/\T=[]:=by
 refine aF aBJ (by decide) ?_
 unfold wG
 dsimp only [zj,zT,zF,zC,zE,zP,zQ,zq,zA,zm,zo,zs,zg,zh,zl,zv,zf,zi,zn,zb,zc,ze,zk,zw,zu,zt,zr,zR,zK,zN,zS,z0,zU]
 simp only [go_sem,↓reduceIte]
 refine aC (aA _) rfl (aAH x) rfl ?_
 simp only [go_sem,↓reduceIte]
 refine aC (aA _) rfl (aAH y) rfl ?_
 simp only [go_sem,↓reduceIte]
 refine bM (fun h=>?_) (fun h=>?_)<;>simp only [go_sem,↓reduceIte]
 ·simp_all [aCs]
 ·refine bM (fun h2=>?_) (fun h2=>?_)<;>simp only [go_sem,↓reduceIte]<;>simp_all [aCs]
  omega
theorem aBK (x y:Int):aD prog G lQ [.v (.int .u64 x),.v (.int .u64 y)] [] fun r T=>r=.v (.int .i64 (aCs x y))/\T=[]:=by
 refine aF yI (by decide) ?_
 unfold rO
 dsimp only [zj,zT,zF,zC,zE,zP,zQ,zq,zA,zm,zo,zs,zg,zh,zl,zv,zf,zi,zn,zb,zc,ze,zk,zw,zu,zt,zr,zR,zK,zN,zS,z0,zU]
 simp only [go_sem,↓reduceIte]
 refine aC (aA _) rfl (uP x) rfl ?_
 simp only [go_sem,↓reduceIte]
 refine aC (aA _) rfl (uP y) rfl ?_
 simp only [go_sem,↓reduceIte]
 refine bM (fun h=>?_) (fun h=>?_)<;>simp only [go_sem,↓reduceIte]
 ·simp_all [aCs]
 ·refine bM (fun h2=>?_) (fun h2=>?_)<;>simp only [go_sem,↓reduceIte]<;>simp_all [aCs]
  omega
end
def I1 (x:Int):List AV:=[.v (.int .i64 x)]
theorem bBn (x:Int):I1 x=[.v (.int .i64 x)]:=rfl
abbrev ints (l:List Int):AV:=.ls 1 (l.map I1)
def kW (n m:Int):Int:=(if n<0 then -(n+1) else n)%m
def sX:List Int->Int
 | []=>0
 | x::r=>if x=0 then sX r else x
theorem aOE {l:List Int} {i:Nat} (h:∀ j,j<i->l.getD j 0=0) (hi:i<l.length) (hx:l[i]≠0):sX l=l[i]:=by
 induction l generalizing i with
 | nil=>simp at hi
 | cons a l ih =>
  cases i with
  | zero=>simp only [List.getElem_cons_zero] at hx ⊢;simp [sX,hx]
  | succ i =>
   have h0:a=0:=by simpa using h 0 (by omega)
   simp only [sX,h0,if_true,List.getElem_cons_succ]
   exact ih (fun j hj=>by simpa using h (j+1) (by omega)) (by simpa using hi) (by simpa using hx)
theorem aOF {l:List Int} (h:∀ j,j<l.length->l.getD j 0=0):sX l=0:=by
 induction l with
 | nil=>rfl
 | cons a l ih =>
  have h0:a=0:=by simpa using h 0 (by simp)
  simp only [sX,h0,if_true]
  exact ih fun j hj=>by simpa using h (j+1) (by simpa using hj)
theorem bBo {x y:Int}:aCs x y=0↔x=y:=by
 unfold aCs;constructor<;>intro h<;>(repeat' split at *)<;>omega
theorem aSg {x y:Int}:aCs x y<0↔x<y:=by
 unfold aCs;constructor<;>intro h<;>(repeat' split at *)<;>omega
theorem bBp (x y:Id):decide (sX [aCs x.a y.a,aCs x.b y.b,aCs x.c y.c]<0)=x.lt y:=by
 rw [Bool.eq_iff_iff]
 simp only [sX,Id.lt,bBo]
 by_cases h1:x.a=y.a
 ·by_cases h2:x.b=y.b
  ·by_cases h3:x.c=y.c
   ·simp [h1,h2,h3]
   ·simp only [h1,h2,h3,if_true,if_false,decide_eq_true_eq,aSg]
  ·simp only [h1,h2,if_true,if_false,decide_eq_true_eq,aSg]
 ·simp only [h1,if_false,decide_eq_true_eq,aSg]
section
variable {G:Nat->Option (List AV)}
set_option maxHeartbeats 2000000
theorem aOG (l:List Int) (hl:l.length<=maxLen):aD prog G aA0 [ints l] [] fun r T=>r=.v (.int .i64 (sX l))/\T=[]:=by
 refine aF aHL (by decide) ?_
 unfold aEW
 dsimp only [zj,zT,zF,zC,zE,zP,zQ,zq,zA,zm,zo,zs,zg,zh,zl,zv,zf,zi,zn,zb,zc,ze,zk,zw,zu,zt,zr,zR,zK,zN,zS,z0,zU]
 unfold maxLen at hl
 simp only [go_sem,↓reduceIte,List.length_map]
 refine aL l.length (fun i=>⟨0,[(3,.v (.int .i64 0)),(6,ints l),(7,.v (.int .i64 l.length)),(8,.v (.int .i64 i))],[]⟩) (fun i=>∀ j,j<i->l.getD j 0=0) ?_ (by simp) ?_ ?_
 ·(simp only [go_sem,↓reduceIte])<;>rfl
 ·intro i hi hj
  simp only [go_sem,↓reduceIte,bQ hi,aX I1 l i hi,bBn,aH (show i<9223372036854775807 by omega)]
  refine bM (fun h=>?_) (fun h=>?_)<;>simp only [go_sem,↓reduceIte,aH (show i<9223372036854775807 by omega)]
  ·rw [aOE hj hi (by simpa using h)]
  ·intro j hj'
   rcases Nat.lt_or_ge j i with h1 | h1
   ·exact hj j h1
   ·obtain rfl:j=i:=by omega
    simpa [List.getD_eq_getElem?_getD,hi] using h
 ·intro hj
  simp only [go_sem,↓reduceIte,bV (Nat.lt_irrefl _),aOF hj]
theorem aVg (x y:Id):aD prog G aFB [.ag x.A,.ag y.A] [] fun r T=>r=.v (.bool (x.lt y))/\T=[]:=by
 refine aF aOC (by decide) ?_
 unfold aNg
 dsimp only [zj,zT,zF,zC,zE,zP,zQ,zq,zA,zm,zo,zs,zg,zh,zl,zv,zf,zi,zn,zb,zc,ze,zk,zw,zu,zt,zr,zR,zK,zN,zS,z0,zU]
 simp only [go_sem,↓reduceIte,Id.A]
 refine aC (aA _) rfl (wH x.a y.a) rfl ?_
 simp only [go_sem,↓reduceIte]
 refine aC (aA _) rfl (wH x.b y.b) rfl ?_
 simp only [go_sem,↓reduceIte]
 refine aC (aA _) rfl (aBK x.c y.c) rfl ?_
 simp only [go_sem,↓reduceIte]
 refine bJ (aA _) rfl rfl (aOG [aCs x.a y.a,aCs x.b y.b,aCs x.c y.c] (by simp [maxLen])) ?_
 simp only [go_sem,↓reduceIte]
 rw [bBp]
theorem pJ (n m:Int) (h1:-9223372036854775808<=n) (h2:n<=9223372036854775807) (h3:1<=m) (h4:m<=9223372036854775807) :
  aD prog G fY [.v (.int .i64 n),.v (.int .i64 m)] [] fun r T=>r=.v (.int .i64 (kW n m))/\T=[]:=by
 refine aF aAv (by decide) ?_
 unfold aA6
 dsimp only [zj,zT,zF,zC,zE,zP,zQ,zq,zA,zm,zo,zs,zg,zh,zl,zv,zf,zi,zn,zb,zc,ze,zk,zw,zu,zt,zr,zR,zK,zN,zS,z0,zU]
 have hm:¬m=0:=by omega
 simp only [go_sem,↓reduceIte,hm]
 refine bM (fun h=>?_) (fun h=>?_)<;>simp only [go_sem,↓reduceIte,hm]
 ·have hn:n<0:=by simpa using h
  rw [aM (n:=n+1) (by omega) (by omega),aM (by omega) (by omega)]
  simp only [kW,hn,if_true]
  rw [Int.zero_sub,Int.tmod_eq_emod_of_nonneg (by omega)]
 ·have hn:¬n<0:=by simpa using h
  simp only [kW,hn,if_false]
  rw [Int.tmod_eq_emod_of_nonneg (by omega)]
end
def bBq (x:Id) (out:List Id):Nat->Nat
 | 0=>0
 | n+1=>match out[n]? with | some y=>if x.lt y then bBq x out n else n+1 | none=>n+1
def bFL (out:List Id) (x:Id):List Id:=out.take (bBq x out out.length)++[x]++out.drop (bBq x out out.length)
def oL (l:List Id):List Id:=l.foldl bFL []
section
variable {G:Nat->Option (List AV)}
set_option maxHeartbeats 2000000
end
def Id.K (x:Id):List Value:=[.int .i64 x.a,.int .i64 x.b,.int .u64 x.c]
section
variable {G:Nat->Option (List AV)}
end
end
section
theorem bAg {α:Type} {p:α->Bool} {l:List α} {i:Nat} (hi:i<l.length) (h:p l[i]=false):l.all p=false:=by
 rw [List.all_eq_false];exact ⟨_,List.getElem_mem hi,by simp [h]⟩
theorem bAh {α:Type} {p:α->Bool} {l:List α} (h:∀ j (hj:j<l.length),j<l.length->p l[j]=true):l.all p=true:=by
 rw [List.all_eq_true]
 intro x hx
 obtain ⟨j,hj,rfl⟩:=List.getElem_of_mem hx
 exact h j hj hj
theorem aTP {α:Type} {p:α->Bool} {l:List α} {i:Nat} (hi:i<l.length) (hJ:∀ j (hj:j<l.length),j<i->p l[j]=true) (h:p l[i]=true):∀ j (hj:j<l.length),j<i+1->p l[j]=true:=fun j hj hji=>by
 rcases Nat.lt_or_ge j i with h1 | h1
 ·exact hJ j hj h1
 ·obtain rfl:j=i:=by omega
  exact h
section
variable {G:Nat->Option (List AV)}
set_option maxHeartbeats 4000000
end
end
section
theorem aNh {α:Type} {lt:α->α->Bool}:∀ {l:List α},mT lt l=true↔∀ j (h:j+1<l.length),lt l[j] l[j+1]=true
 | []=>by simp [mT]
 | [x]=>by simp [mT]
 | x::y::l=>by
  simp only [mT,Bool.and_eq_true,aNh (l:=y::l)]
  constructor
  ·rintro ⟨h1,h2⟩ j hj
   cases j with
   | zero=>exact h1
   | succ j=>exact h2 j (by simpa using hj)
  ·intro h
   exact ⟨h 0 (by simp),fun j hj=>h (j+1) (by simpa using hj)⟩
section
variable {G:Nat->Option (List AV)}
set_option maxHeartbeats 4000000
end
end
end Hud
