import Derived.Test.YthlndebkfkanbaaGreatDoorLib30
set_option linter.all false
namespace Hud
open Go
section
theorem aVI {cs:List CardM} {d:Int} (h:(aV cs d).2=true):(aV cs d).1.Device=d:=by
 unfold aV at h ⊢
 split at h
 ·rename_i c e
  simpa using List.find?_some e
 ·simp at h
theorem aZT (nodes:List ND) (o:OpM) (W:List Nat) (n:Nat) (hs:1<=o.Seq) (h:∀ j,j<n->(nodes.getD j dfN).o.By=o.By->nG W j=true->(nodes.getD j dfN).o.Seq<o.Seq):(uX nodes o W n).1<o.Seq:=by
 induction n with
 | zero=>simp only [uX];omega
 | succ n ih =>
  have i1:=ih fun j hj=>h j (by omega)
  unfold uX
  split
  ·rename_i hc
   simp only [Bool.and_eq_true,beq_iff_eq] at hc
   have:=h n (by omega) hc.1 hc.2
   show max _ _<_
   omega
  ·exact i1
theorem aSM (nodes:List ND) (o:OpM) (W:List Nat) (n j:Nat) (hj:j<n) (h1:(nodes.getD j dfN).o.By=o.By) (h2:nG W j=true) (h3:(nodes.getD j dfN).o.Seq=o.Seq-1):(uX nodes o W n).2=true:=by
 induction n with
 | zero=>omega
 | succ n ih =>
  unfold uX
  rcases Nat.lt_or_ge j n with h | h
  ·have:=ih h
   split
   ·simp [this]
   ·exact this
  ·obtain rfl:j=n:=by omega
   rw [if_pos (by rw [h1,h2,beq_self_eq_true];rfl)]
   show (_||_)=true
   rw [h3,beq_self_eq_true,Bool.or_true]
theorem aYa {p:PGM} {g:GM} {o:OpM} (s:Sim p g) (hp:p.ok) (w:g.wf) (h:(kH g o).1=0):(uY p o).2=0/\Sim (uY p o).1 (aBL g o).1:=by
 have a:=aSK h
 have hn:p.nodes.length=g.L.length:=by rw [<-s.l,List.length_map]
 have hlt:=aY8 w a
 have k1:uN o=0:=(aKK o).trans a.check
 have hI:∀ x∈o.Past,x∈p.I:=fun x hx=>by rw [s.i];exact (aNF g.I x).1 (a.there x hx)
 have k2:idM o∉p.I:=fun hx=>a.twice ((aNF g.I _).2 (s.i ▸ hx))
 have k4:=s.c o.By
 have k5:((o.By==(aV p.cards o.By).1.Device)&&aES (aV p.cards o.By).1.Sign o.B o.SR o.SS)=true:=by
  rw [k4,a.sig,Bool.and_true,aVI a.card];simp
 have k7:xH p o=[]:=List.filter_eq_nil_iff.2 fun x hx=>by simp [hI x hx]
 have hat:∀ x,p.at x=(lU g.I x).toNat:=fun x=>by rw [aY7,s.i]
 have hmem:∀ x∈o.Past,p.at x∈sE g o:=fun x hx=>by rw [hat];exact List.mem_map.2 ⟨x,hx,rfl⟩
 have hback:∀ k∈sE g o,∃ x∈o.Past,p.at x=k:=fun k hk=>by
  obtain ⟨x,hx,e⟩:=List.mem_map.1 hk
  exact ⟨x,hx,by rw [hat];exact e⟩
 have hpar:∀ k,(nG (aDO p o.Past) k=true)↔k∈sE g o:=fun k=>by
  rw [aY5 p hp.n o.Past (fun x hx=>by have:=hlt _ (hmem x hx);have:=hp.n;omega)]
  constructor
  ·rintro ⟨x,hx,rfl⟩;exact hmem x hx
  ·exact hback k
 have habo:∀ k,k<256->((nG (aCv p o.Past) k=true)↔∃ i∈sE g o,(g.In.getD i []).getD k false=true):=fun k hk=>by
  rw [aY6 hp]
  constructor
  ·rintro ⟨x,hx,hb⟩
   refine ⟨p.at x,hmem x hx,?_⟩
   rw [<-s.w _ (hlt _ (hmem x hx)) k hk];exact hb
  ·rintro ⟨i,hi,hb⟩
   obtain ⟨x,hx,rfl⟩:=hback i hi
   refine ⟨x,hx,?_⟩
   rw [<-s.w _ (hlt _ hi) k hk] at hb;exact hb
 have hL:∀ i,i<g.L.length->(p.nodes.getD i dfN).o=g.L.getD i default:=fun i hi=>by
  have e1:p.nodes.getD i dfN=p.nodes[i]:=by rw [List.getD_eq_getElem?_getD,List.getElem?_eq_getElem (by omega)];rfl
  have e2:g.L.getD i default=g.L[i]:=by rw [List.getD_eq_getElem?_getD,List.getElem?_eq_getElem hi];rfl
  rw [e1,e2]
  have h1:(p.nodes.map (·.o))[i]?=g.L[i]?:=by rw [s.l]
  rw [List.getElem?_map,List.getElem?_eq_getElem hi,List.getElem?_eq_getElem (by omega)] at h1
  simpa using h1
 have hord:=a.order
 unfold aSe at hord
 rw [List.all_eq_true] at hord
 have k8:yP (aDO p o.Past) (aCv p o.Past)=z4:=by
  refine aVH (aF8 p _) (aF9 hp _) fun k hk h1=>?_
  cases hb:nG (aCv p o.Past) k
  ·rfl
  ·obtain ⟨i,hi,hv⟩:=(habo k hk).1 hb
   have:=hord i hi
   rw [Bool.and_eq_true,List.all_eq_true] at this
   have:=this.1 k ((hpar k).1 h1)
   rw [hv] at this
   exact absurd this (by decide)
 have hseq:=aKW a.check
 have k9:aCZ p o.Past<=o.At:=by
  refine aZR p o.At o.Past hseq.2.2.2 fun x hx=>?_
  have hi:=hmem x hx
  have h1:(p.nd x).o=g.L.getD (p.at x) default:=hL _ (hlt _ hi)
  have:=hord _ hi
  rw [Bool.and_eq_true] at this
  have:=this.2
  rw [h1]
  simpa using this
 have hlast:∀ k,k<256->((nG (yQ p o) k=true)↔((pY g (sE g o)).getD k false=true)):=fun k hk=>by
  rw [aLp g _ hlt w.up,RU.head,yQ,aU5 (aF9 hp _) (aF8 p _),Bool.or_eq_true,hpar,habo k hk]
  constructor
  ·rintro (⟨i,hi,h1⟩ | h1)
   ·exact .inr ⟨i,hi,(w.past i (hlt i hi) k).1 h1⟩
   ·exact .inl h1
  ·rintro (h1 | ⟨i,hi,h1⟩)
   ·exact .inr h1
   ·exact .inl ⟨i,hi,(w.past i (hlt i hi) k).2 h1⟩
 have hpl:(pY g (sE g o)).length=g.L.length:=aNk g _
 have hr:=a.right
 unfold aSd at hr
 rw [Bool.and_eq_true,List.all_eq_true] at hr
 have hzl:(g.L.zip (pY g (sE g o))).length=g.L.length:=by simp [hpl]
 have hz:∀ j (hj:j<g.L.length),(g.L.zip (pY g (sE g o)))[j]'(by omega)=(g.L.getD j default,(pY g (sE g o)).getD j false):=fun j hj=>by
  rw [List.getElem_zip,List.getD_eq_getElem?_getD,List.getD_eq_getElem?_getD,List.getElem?_eq_getElem hj,List.getElem?_eq_getElem (by omega)];rfl
 have k10:(uX p.nodes o (yQ p o) p.nodes.length).1<o.Seq:=by
  refine aZT _ _ _ _ hseq.1 fun j hj h1 h2=>?_
  rw [hL j (by omega)] at h1 ⊢
  have h3:=(hlast j (by have:=hp.n;omega)).1 h2
  have h4:=hr.1 _ (List.getElem_mem (show j<(g.L.zip (pY g (sE g o))).length by omega))
  rw [hz j (by omega)] at h4
  simp only [aZn,h3,h1] at h4
  simpa using h4
 have k11:aIm p o=false:=by
  unfold aIm
  rw [decide_eq_false (by omega),Bool.false_or]
  rcases Bool.or_eq_true _ _ ▸ hr.2 with h1 | h1
  ·have:o.Seq=1:=by simpa using h1
   rw [decide_eq_false (by omega)];rfl
  ·rw [List.any_eq_true] at h1
   obtain ⟨e,he,h2⟩:=h1
   obtain ⟨j,hj,rfl⟩:=List.getElem_of_mem he
   rw [hz j (by omega)] at h2
   simp only [aZn,Bool.and_eq_true,beq_iff_eq] at h2
   rw [aSM p.nodes o (yQ p o) p.nodes.length j (by omega) (by rw [hL j (by omega)];exact h2.1.2) ((hlast j (by have:=hp.n;omega)).2 h2.1.1) (by rw [hL j (by omega)];exact h2.2)]
   simp
 have hadd:uY p o=(⟨p.cards,p.nodes++[⟨o,idM o,yQ p o,aDP p o.Past⟩]⟩,0):=by
  rw [uY,if_neg (by simp [k1]),aQO,if_neg k2,if_neg (by have:=a.full;omega),if_neg (by rw [k4,a.card];decide),if_neg (by rw [k5];decide),if_neg (by rw [hn,a.kind];decide),if_neg (by rw [k7];decide),aU2,if_neg (by rw [k8,decide_eq_false (by omega)];decide),if_neg (by rw [k11];decide)]
 rw [hadd,aLq a h]
 refine ⟨rfl,s.c,by simp [s.l],by simp only [PGM.I,List.map_append,List.map_cons,List.map_nil];rw [<-s.i];rfl,?_⟩
 intro i hi k hk
 simp only [List.length_append,List.length_singleton] at hi
 rcases Nat.lt_or_ge i g.L.length with h1 | h1
 ·rw [aY9 w _ i h1 k,aDQ _ _ _ _ (by omega)]
  exact s.w i h1 k hk
 ·obtain rfl:i=g.L.length:=by omega
  have e1:((g.In.map fun r=>r++[false])++[pY g (sE g o)++[false]]).getD g.L.length []=pY g (sE g o)++[false]:=by
   have h2:g.L.length=(g.In.map fun r=>r++[false]).length:=by simp [w.inn]
   rw [h2];exact aAr _ _ _
  have e2:(p.nodes++[(⟨o,idM o,yQ p o,aDP p o.Past⟩:ND)]).getD g.L.length dfN=⟨o,idM o,yQ p o,aDP p o.Past⟩:=by rw [<-hn];exact aAr _ _ _
  rw [e1,e2,aGf,Bool.eq_iff_iff]
  exact hlast k hk
end
section
open Go.Proofs.Tryz
inductive Reach (cs:List CardM):GM->Prop
 | new:Reach cs ⟨cs,[],[],[],[]⟩
 | add {g:GM} {o:OpM}:Reach cs g->o.ok->(idM o).ok->Reach cs (aBL g o).1
structure Good (cs:List CardM) (g:GM):Prop where
 ok:g.ok
 wf:g.wf
 cards:g.Cards=cs
 n:g.L.length<=200
 ids:∀ o∈g.L,(idM o).ok
 sim:Sim (pOf cs g.L) g
 all:∀ i (h:i<g.L.length),(uY (pOf cs (g.L.take i)) g.L[i]).2=0
theorem Reach.good {cs:List CardM} (hc:cardsOk cs) {g:GM} (h:Reach cs g):Good cs g:=by
 induction h with
 | new =>
  exact ⟨⟨by simp,hc.n,hc.cs,by simp,rfl,by simp,rfl,by simp,rfl,by simp⟩,bBT cs,rfl,by simp,by simp,aZS hc,by simp⟩
 | @add g o _ ho hid ih =>
  by_cases h:(kH g o).1=0
  ·have a:=aSK h
   have e:=aLq a h
   have hpo:(pOf cs g.L).ok:=aSI hc g.L fun x hx=>⟨ih.ok.ops x hx,ih.ids x hx⟩
   have st:=aYa ih.sim hpo ih.wf h
   have hL:(aBL g o).1.L=g.L++[o]:=by rw [e]
   have hf:=a.full
   refine ⟨aZz ih.ok ho (by omega) hid,bBU ih.wf h,by rw [e];exact ih.cards,by rw [hL];simp;omega,?_,?_,?_⟩
   ·intro x hx
    rw [hL] at hx
    rcases List.mem_append.1 hx with hx | hx
    ·exact ih.ids x hx
    ·rw [List.mem_singleton.1 hx];exact hid
   ·rw [hL,aU4];exact st.2
   ·intro i hi
    simp only [hL,List.length_append,List.length_singleton] at hi ⊢
    rcases Nat.lt_or_ge i g.L.length with h1 | h1
    ·rw [List.take_append_of_le_length (by omega),List.getElem_append_left h1]
     exact ih.all i h1
    ·obtain rfl:i=g.L.length:=by omega
     rw [List.take_left' rfl]
     simp only [List.getElem_concat_length]
     exact st.1
  ·have e:(aBL g o).1=g:=by rw [aBL,if_pos h]
   rw [e];exact ih
section
variable {G:Nat->Option (List AV)}
theorem bFT (hK:GK G) {cs:List CardM} (hc:cardsOk cs) {g:GM} (h:Reach cs g):aD prog G aEh [.ag g.A] [] fun r T=>r=.ptr 0 0/\T=TG 0 (pOf cs g.L):=by
 have gd:=h.good hc
 have hcs:=gd.cards
 subst hcs
 exact bBS hK g gd.ok hc gd.ids gd.all
end
end
section
theorem aYb:xE [1,2,3,1,2,3]=aJ:=aNr
theorem aCg:cardsOk aJ:=by
 refine ⟨by decide,by decide,?_,?_,?_⟩
 ·intro c hc
  simp only [aJ,List.mem_cons,List.not_mem_nil,or_false] at hc
  rcases hc with rfl | rfl | rfl | rfl | rfl | rfl<;>refine ⟨⟨by decide,by decide⟩,⟨by decide,by decide⟩,by decide,by decide,by decide⟩
 ·intro c hc
  simp only [aJ,List.mem_cons,List.not_mem_nil,or_false] at hc
  rcases hc with rfl | rfl | rfl | rfl | rfl | rfl<;>exact ⟨by decide,by decide⟩
 ·intro c hc d hd e
  simp only [aJ,List.mem_cons,List.not_mem_nil,or_false] at hc hd
  rcases hc with rfl | rfl | rfl | rfl | rfl | rfl<;>rcases hd with rfl | rfl | rfl | rfl | rfl | rfl<;>first | rfl | exact absurd e (by decide)
theorem aQS {o:OpM} (h1:∀ n∈[o.By,o.Seq,o.Kind,o.At,o.Device,o.Old,o.Member,o.Role,o.N,o.Need,o.Wait],okN n) (h2:∀ n∈[o.Pub,o.SR,o.SS],n<18446744073709551616) (h3:o.Epoch=⟨0,0,0⟩) (h4:o.Of=⟨0,0,0⟩) (h5:o.Past.length<=1000/\∀ x∈o.Past,x.ok)
  (h6:o.Path.length<=10/\∀ x∈o.Path,x.Pub<18446744073709551616/\x.Boxes=[]) (h7:o.Body=[]) (h8:o.Refs=[]) (h9:o.Guards.length<=1000/\∀ x∈o.Guards,okN x) (h10:o.Boxes.length<=1000/\∀ x∈o.Boxes,x.ok) (h11:o.Hist=[]):o.ok:=by
 refine ⟨h1,h2,?_,?_,h5,⟨h6.1,fun x hx=>⟨(h6.2 x hx).1,?_,?_⟩⟩,?_,?_,h9,h10,?_⟩
 ·rw [h3];exact ⟨⟨by decide,by decide⟩,⟨by decide,by decide⟩,by decide,by decide⟩
 ·rw [h4];exact ⟨⟨by decide,by decide⟩,⟨by decide,by decide⟩,by decide,by decide⟩
 ·rw [(h6.2 x hx).2];simp
 ·rw [(h6.2 x hx).2];simp
 ·rw [h7];exact ⟨by simp,by intro x hx;simp at hx⟩
 ·rw [h8];exact ⟨by simp,by simp⟩
 ·rw [h11];exact ⟨by simp,by simp⟩
theorem aZU {o:OpM} (h:o.ok) (a b:Nat) (ha:a<18446744073709551616) (hb:b<18446744073709551616):OpM.ok { o with SR:=a,SS:=b }:=by
 refine ⟨h.ints,?_,h.epoch,h.of,h.past,h.path,h.body,h.refs,h.guards,h.boxes,h.hist⟩
 intro n hn
 simp only [List.mem_cons,List.not_mem_nil,or_false] at hn
 rcases hn with rfl | rfl | rfl
 ·exact h.nums _ (by simp)
 ·exact ha
 ·exact hb
theorem aYc (s:Nat) (b:List Nat):aHf s b<18446744073709551616:=Nat.lt_trans (Nat.mod_lt _ (by decide)) (by decide:aOt<18446744073709551616)
theorem iZ {o:OpM} (h:o.ok):(dD o).ok:=by
 unfold dD
 exact aZU h _ _ (aCc _) (aYc _ _)
theorem aYd:sP1.ok:=by
 refine aQS ?_ ?_ rfl rfl ⟨by decide,?_⟩ ⟨by decide,?_⟩ rfl rfl ⟨by decide,fun x hx=>by cases hx⟩ ⟨by decide,fun x hx=>by cases hx⟩ rfl
 all_goals
  simp only [sP1,List.mem_cons,List.not_mem_nil,or_false,forall_eq_or_imp,forall_eq,okN,Id.ok,false_imp_iff,implies_true,and_true]
 all_goals (try decide)
theorem aYe:sP2.ok:=by
 refine aQS ?_ ?_ rfl rfl ⟨by decide,?_⟩ ⟨by decide,?_⟩ rfl rfl ⟨by decide,fun x hx=>by cases hx⟩ ⟨by decide,fun x hx=>by cases hx⟩ rfl
 all_goals
  simp only [sP2,List.mem_cons,List.not_mem_nil,or_false,forall_eq_or_imp,forall_eq,okN,Id.ok,false_imp_iff,implies_true,and_true]
 all_goals (try decide)
theorem aYf:sP3.ok:=by
 refine aQS ?_ ?_ rfl rfl ⟨by decide,?_⟩ ⟨by decide,?_⟩ rfl rfl ⟨by decide,fun x hx=>by cases hx⟩ ⟨by decide,fun x hx=>by cases hx⟩ rfl
 all_goals
  simp only [sP3,List.mem_cons,List.not_mem_nil,or_false,forall_eq_or_imp,forall_eq,okN,Id.ok,false_imp_iff,implies_true,and_true]
 all_goals (try decide)
theorem aYg:sP4.ok:=by
 refine aQS ?_ ?_ rfl rfl ⟨by decide,?_⟩ ⟨by decide,?_⟩ rfl rfl ⟨by decide,fun x hx=>by cases hx⟩ ⟨by decide,fun x hx=>by cases hx⟩ rfl
 all_goals
  simp only [sP4,List.mem_cons,List.not_mem_nil,or_false,forall_eq_or_imp,forall_eq,okN,Id.ok,false_imp_iff,implies_true,and_true]
 all_goals (try decide)
theorem aYh:sP5.ok:=by
 refine aQS ?_ ?_ rfl rfl ⟨by decide,?_⟩ ⟨by decide,?_⟩ rfl rfl ⟨by decide,?_⟩ ⟨by decide,?_⟩ rfl
 all_goals
  simp only [sP5,List.mem_cons,List.not_mem_nil,or_false,forall_eq_or_imp,forall_eq,okN,Id.ok,false_imp_iff,implies_true,and_true,sBL,BoxM.ok]
 all_goals (try decide)
theorem sR0:Reach aJ sG0:=.new
theorem sR1:Reach aJ sG1:=by
 have:=sR0.add (iZ aYd) (aKX (iZ aYd))
 rw [sA1] at this
 exact this
theorem sR2:Reach aJ sG2:=by
 have:=sR1.add (iZ aYe) (aKX (iZ aYe))
 rw [sA2] at this
 exact this
theorem sR3:Reach aJ sG3:=by
 have:=sR2.add (iZ aYf) (aKX (iZ aYf))
 rw [sA3] at this
 exact this
theorem sR4:Reach aJ sG4:=by
 have:=sR3.add (iZ aYg) (aKX (iZ aYg))
 rw [sA4] at this
 exact this
theorem sR5:Reach aJ sG5:=by
 have:=sR4.add (iZ aYh) (aKX (iZ aYh))
 rw [sA5] at this
 exact this
theorem aLr:∀ c∈aJ,c.Keep<PP:=by
 intro c hc
 simp only [aJ,List.mem_cons,List.not_mem_nil,or_false] at hc
 rcases hc with rfl | rfl | rfl | rfl | rfl | rfl<;>decide
end
end Hud
