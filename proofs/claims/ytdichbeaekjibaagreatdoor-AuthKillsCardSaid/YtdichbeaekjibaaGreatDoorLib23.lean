import Derived.Test.YtdichbeaekjibaaGreatDoorLib22
set_option linter.all false
namespace Hud
open Go
section
def aBu (r:RM) (n:Int) (ds:List Int):RM :=
 if ds=[] then r else
 if ((r.In.filter λx=>!decide (x∈ds)).any λx=>TZ r x==n)=true then { r with In:=r.In.filter (λx=>!decide (x∈ds)),Gone:=r.Gone++ds } else
  { r with In:=r.In.filter (λx=>!decide (x∈ds)),Gone:=r.Gone++ds,L:=r.L.filter (λm=>m.N !=n),V:=Zy { r with L:=r.L.filter λm=>m.N !=n } }
def RX {r:RM} {d:Int} (hm:d∈r.In):No r d=if ((r.In.filter λx=>x !=d).any λx=>TZ r x==TZ r d)=true then { r with In:=r.In.filter (λx=>x !=d),Gone:=r.Gone++[d] } else
   { r with In:=r.In.filter (λx=>x !=d),Gone:=r.Gone++[d],L:=r.L.filter (λm=>m.N !=TZ r d),V:=Zy { r with L:=r.L.filter λm=>m.N !=TZ r d } }:=by
 rw [No,decide_eq_true hm];rfl
def foldGoes {n:Int}:∀ (ds:List Int) (r:RM),ds.Nodup→(∀ d∈ds,d∈r.In∧TZ r d=n)→ds.foldl No r=aBu r n ds
 | [],_,_,_=>by simp [aBu]
 | a::ds,r,hn,hd=>by
  rw [IA] at hn;obtain ⟨ha,hao⟩:=hd a Gk;have e1:(r.In.filter λx=>x !=a)=r.In.filter λx=>!decide (x∈[a]):=by
   refine List.filter_congr λx _=>?_;rw [rX];simp
  have e2:((r.In.filter λx=>x !=a).filter λx=>!decide (x∈ds))=r.In.filter λx=>!decide (x∈a::ds):=by
   rw [List.filter_filter];refine List.filter_congr λx _=>?_;rw [rX];simp [and_comm]
  rw [Gm,RX ha,hao];cases hany:((r.In.filter λx=>x !=a).any λx=>TZ r x==n)
  ·rw [if_neg (by decide)];have:ds=[]:=by
    cases ds with
    | nil=>rfl
    | cons b ds =>
     obtain ⟨hb,hbo⟩:=hd b (by simp);rw [List.any_eq_false] at hany;refine absurd (hany b (uD.2 ⟨hb,?_⟩)) (by simp [hbo]);simp only [bne_iff_ne];rintro rfl;exact hn.1 (by simp)
   subst this;rw [JW,aBu,if_neg (by simp),←e1,hany,if_neg (by decide)]
  ·rw [if_pos rfl,foldGoes (n:=n) ds { r with In:=r.In.filter (λx=>x !=a),Gone:=r.Gone++[a] } hn.2 (λd hdd=>⟨uD.2 ⟨(hd d (by simp [hdd])).1,by
    simp only [bne_iff_ne];rintro rfl
    exact hn.1 hdd⟩,(hd d (by simp [hdd])).2⟩)]
   unfold aBu;by_cases h0:ds=[]
   ·subst h0;rw [if_pos rfl,if_neg (by simp),←e1,hany,if_pos rfl]
   ·rw [if_neg h0,if_neg (List.cons_ne_nil a ds)];dsimp only;rw [e2];have e3:r.Gone++[a]++ds=r.Gone++a::ds:=by simp
    rw [e3];rfl
def RM.nn (r:RM):Prop:=∀ (i j:Nat) (hi:i<r.L.length) (hj:j<r.L.length),r.L[i].N=r.L[j].N→i=j
def PL {r:RM}:r.nn↔(r.L.map (·.N)).Nodup:=by
 unfold RM.nn;rw [Nv,XY];constructor
 ·intro h i j hi hj hij e;simp only [Eg] at e;rw [aL] at hi hj;have:=h i j hi hj e;omega
 ·intro h i j hi hj e;rcases Nat.lt_trichotomy i j with h1 | h1 | h1
  ·exact absurd e (by have:=h i j (by simpa using hi) (by simpa using hj) h1;simpa using this)
  ·exact h1
  ·exact absurd e.symm (by have:=h j i (by simpa using hj) (by simpa using hi) h1;simpa using this)
def XC {r r':RM} (h:r'.Cards=r.Cards) (d:Int):TZ r' d=TZ r d:=by
 unfold TZ;rw [h]
end
section
structure OpGood (o:OpM):Prop where
 at0:0≤o.At
 at1:o.At≤2147483647
 gl:o.Guards.length≤6
 need:o.Kind=9→1≤o.Need∧o.Need≤o.Guards.length
 wait:o.Kind=9→0≤o.Wait∧o.Wait≤2147483647
def aDy {o:OpM} (h:rK o=0):OpGood o:=by
 rw [wW] at h;unfold fS at h;by_cases h0:o.Kind<1∨13<o.Kind
 ·rw [if_pos h0] at h;simp at h
 rw [if_neg h0] at h;by_cases h1:NB o=false
 ·rw [if_pos h1] at h;simp at h
 rw [if_neg h1] at h;by_cases h2:(dU o&&qB o)=false
 ·rw [if_pos h2] at h;simp at h
 rw [if_neg h2] at h;by_cases h3:Bz o=true
 ·rw [if_pos h3] at h;simp at h
 have hn:dU o=true:=by
  cases hq:dU o
  ·rw [hq] at h2;simp at h2
  ·rfl
 unfold dU at hn;rw [lN,lN,lN] at hn;obtain ⟨⟨⟨_,_⟩,hat⟩,hk⟩:=hn;simp only [lD,lN,decide_eq_true_eq] at hat;have hk9:o.Kind=9→lD o.Need 1 o.Guards.length=true∧lD o.Wait 0 2147483647=true:=by
  intro e;rw [e] at hk;simp only [show ¬(9:Int)=1 by decide,show ¬(9:Int)=2 by decide,show ¬(9:Int)=3 by decide,show ¬(9:Int)=5 by decide,show ¬(9:Int)=6 by decide,if_true,if_false,lN] at hk;exact ⟨hk.1.1,hk.1.2⟩
 refine ⟨hat.1,hat.2,?_,λe=>?_,λe=>?_⟩
 ·by_cases hg:o.Guards.length≤6
  ·exact hg
  ·exfalso;apply h3;unfold Bz;have:decide ((o.Guards.length:Int)>6)=true:=decide_eq_true (by omega);rw [this,EG,FW]
 ·have:=(hk9 e).1;simpa only [lD,lN,decide_eq_true_eq] using this
 ·have:=(hk9 e).2;simpa only [lD,lN,decide_eq_true_eq] using this
structure CardsG (cs:List CardM):Prop where
 len:cs.length≤12
 nd:(cs.map (·.Device)).Nodup
 mem:∀ c∈cs,0<c.Member
 dev:∀ c∈cs,0≤c.Device
structure RGood (D:List Id) (cs:List CardM) (r:RM):Prop where
 cards:r.Cards=cs
 inn:r.In.Nodup
 sub:∀ d∈r.In,0<TZ r d
 nn:r.nn
 pos:∀ m∈r.L,0<m.N
 gid:∀ m∈r.L,m.Is=true→m.ID∈D
 uniq:r.uniq
 mg:∀ m∈r.L,m.Guards.length≤6
 need:r.need
 vnd:(r.V.map λv=>(v.Of,v.By,v.Device)).Nodup
 vat:∀ v∈r.V,0≤v.At
 vof:∀ v∈r.V,∃ m∈r.L,m.Is=true∧m.ID=v.Of∧v.By∈m.Guards
def Lc {r:RM} (h:r.uniq) {m m':MM} (hm:m∈r.L) (hm':m'∈r.L) (h1:m.Is=true) (h2:m'.Is=true) (e:m.ID=m'.ID):m=m':=by
 obtain ⟨i,hi,rfl⟩:=List.mem_iff_getElem.1 hm;obtain ⟨j,hj,rfl⟩:=List.mem_iff_getElem.1 hm';have:=h i j hi hj h1 h2 e;subst this;rfl
section
variable {D:List Id} {cs:List CardM} {r:RM}
def RGood.wf (h:RGood D cs r):r.wf:=⟨h.uniq,h.nn,λm hm=>by have:=h.pos m hm;omega,λm hm=>by have:=h.mg m hm;omega,h.need⟩
def RGood.wv (h:RGood D cs r):r.wv:=by
 refine ⟨h.vnd,h.vat,λx d=>?_⟩;by_cases h0:(r.V.filter λv=>decide (v.Of=x)&&(v.Device==d))=[]
 ·rw [h0];simp
 ·obtain ⟨v0,hv0⟩:=List.exists_mem_of_ne_nil _ h0;obtain ⟨hv1,hv2⟩:=uD.1 hv0;simp only [lN,decide_eq_true_eq,beq_iff_eq] at hv2;obtain ⟨m,hm,hI,hID,_⟩:=h.vof v0 hv1;have hsub:∀ b∈(r.V.filter λv=>decide (v.Of=x)&&(v.Device==d)).map (·.By),b∈m.Guards:=by
   intro b hb;obtain ⟨v,hv,rfl⟩:=cZ.1 hb;obtain ⟨hv3,hv4⟩:=uD.1 hv;simp only [lN,decide_eq_true_eq,beq_iff_eq] at hv4;obtain ⟨m',hm',hI',hID',hB⟩:=h.vof v hv3;have:=Lc h.uniq hm hm' hI hI' (hID.trans (hv2.1.trans (hv4.1.symm.trans hID'.symm)));subst this;exact hB
  have hnd:((r.V.filter λv=>decide (v.Of=x)&&(v.Device==d)).map (·.By)).Nodup:=by
   have h1:((r.V.filter λv=>decide (v.Of=x)&&(v.Device==d)).map λv=>(v.Of,v.By,v.Device)).Nodup:=h.vnd.sublist (List.filter_sublist.map _);rw [Nv,Pj] at h1 ⊢;refine Pd (λ{a b} ha hb hne e=>hne ?_) h1;have h2:=(uD.1 ha).2;have h3:=(uD.1 hb).2;simp only [lN,decide_eq_true_eq,beq_iff_eq] at h2 h3;rw [h2.1,h2.2,h3.1,h3.2,e]
  have:=List.Nodup.length_le_of_subset hnd hsub;rw [aL] at this;have:=h.mg m hm;omega
def RGood.mono {D':List Id} (h:RGood D cs r) (hD:∀ x∈D,x∈D'):RGood D' cs r:=⟨h.cards,h.inn,h.sub,h.nn,h.pos,λm hm hI=>hD _ (h.gid m hm hI),h.uniq,h.mg,h.need,h.vnd,h.vat,h.vof⟩
def RGood.new (hc:CardsG cs):RGood D cs (RM.new cs):=by
 refine ⟨rfl,by simp [RM.new],?_,?_,?_,?_,?_,?_,?_,?_,?_,?_⟩
 all_goals simp [RM.new,RM.nn,RM.uniq,RM.need]
def RGood.sub' (h:RGood D cs r) {r':RM} (hC:r'.Cards=r.Cards) (hin:r'.In.Nodup) (hs:∀ d∈r'.In,0<TZ r d) (hL:r'.L.Sublist r.L) (hV:r'.V.Sublist r.V) (hW:∀ v∈r'.V,0≤PJ r' v.Of):RGood D cs r':=by
 have hm:=hL.subset;refine ⟨hC.trans h.cards,hin,λd hd=>by rw [XC hC];exact hs d hd,?_,λm hmm=>h.pos m (hm hmm),λm hmm=>h.gid m (hm hmm),?_,λm hmm=>h.mg m (hm hmm),λm hmm=>h.need m (hm hmm),h.vnd.sublist (hV.map _),λv hv=>h.vat v (hV.subset hv),λv hv=>?_⟩
 ·rw [PL];exact (PL.1 h.nn).sublist (hL.map _)
 ·intro i j hi hj h1 h2 e;have hu:=Lc h.uniq (hm (iN hi)) (hm (iN hj)) h1 h2 e;have hnn:r'.nn:=by rw [PL];exact (PL.1 h.nn).sublist (hL.map _)
  exact hnn i j hi hj (by rw [hu])
 ·obtain ⟨m,hm1,h1,h2,h3⟩:=h.vof v (hV.subset hv);obtain ⟨i,_,hi,hp⟩:=Ta (hW v hv);rw [lN,decide_eq_true_eq] at hp;have:=Lc h.uniq hm1 (hm (iN hi)) h1 hp.1 (h2.trans hp.2.symm);exact ⟨_,iN hi,hp.1,hp.2,this ▸ h3⟩
def RGood.goes (h:RGood D cs r) (d:Int):RGood D cs (No r d):=by
 by_cases hm:d∈r.In
 ·rw [RX hm];have hf:(r.In.filter λx=>x !=d).Nodup:=h.inn.filter _;have hfs:∀ x∈r.In.filter (λx=>x !=d),0<TZ r x:=λx hx=>h.sub x (uD.1 hx).1;split
  ·exact ⟨h.cards,hf,hfs,h.nn,h.pos,h.gid,h.uniq,h.mg,h.need,h.vnd,h.vat,h.vof⟩
  ·refine h.sub' rfl hf hfs List.filter_sublist List.filter_sublist λv hv=>?_;have:=of_decide_eq_true (uD.1 hv).2;exact this
 ·rw [No,decide_eq_false hm];exact h
def RGood.foldGoes (ds:List Int):∀ {r:RM},RGood D cs r→RGood D cs (ds.foldl No r):=by
 induction ds with
 | nil=>exact id
 | cons d ds ih=>exact λh=>ih (h.goes d)
def RGood.setM (h:RGood D cs r) {k:Nat} (hk:k<r.L.length) {m':MM} (e1:m'.N=r.L[k].N) (e2:m'.Is=r.L[k].Is) (e3:m'.ID=r.L[k].ID) (e4:m'.Guards=r.L[k].Guards) (e5:m'.Need=r.L[k].Need):RGood D cs { r with L:=r.L.set k m' }:=by
 have hmem:∀ m∈r.L.set k m',∃ m0∈r.L,m.N=m0.N∧m.Is=m0.Is∧m.ID=m0.ID∧m.Guards=m0.Guards∧m.Need=m0.Need:=λm hm=>by
  obtain ⟨i,hi,rfl⟩:=List.mem_iff_getElem.1 hm;rw [gG] at hi;rw [List.getElem_set];split
  ·rename_i e;subst e;exact ⟨_,iN hi,e1,e2,e3,e4,e5⟩
  ·exact ⟨_,iN hi,rfl,rfl,rfl,rfl,rfl⟩
 have hget:∀ i (hi:i<(r.L.set k m').length),(r.L.set k m')[i].N=(r.L[i]'(by simpa using hi)).N∧(r.L.set k m')[i].Is=(r.L[i]'(by simpa using hi)).Is∧(r.L.set k m')[i].ID=(r.L[i]'(by simpa using hi)).ID:=λi hi=>by
  rw [List.getElem_set];split
  ·rename_i e;subst e;exact ⟨e1,e2,e3⟩
  ·exact ⟨rfl,rfl,rfl⟩
 refine ⟨h.cards,h.inn,h.sub,λi j hi hj e=>?_,λm hm=>?_,λm hm hI=>?_,λi j hi hj h1 h2 e=>?_,λm hm=>?_,λm hm hI=>?_,h.vnd,h.vat,λv hv=>?_⟩
 ·refine h.nn i j (by simpa using hi) (by simpa using hj) ?_;rw [←(hget i hi).1,←(hget j hj).1];exact e
 ·obtain ⟨m0,h0,a,_⟩:=hmem m hm;rw [a];exact h.pos m0 h0
 ·obtain ⟨m0,h0,_,a,b,_⟩:=hmem m hm;rw [b];exact h.gid m0 h0 (a ▸ hI)
 ·refine h.uniq i j (by simpa using hi) (by simpa using hj) ?_ ?_ ?_
  ·rw [←(hget i hi).2.1];exact h1
  ·rw [←(hget j hj).2.1];exact h2
  ·rw [←(hget i hi).2.2,←(hget j hj).2.2];exact e
 ·obtain ⟨m0,h0,_,_,_,a,_⟩:=hmem m hm;rw [a];exact h.mg m0 h0
 ·obtain ⟨m0,h0,_,a,_,_,b⟩:=hmem m hm;rw [b];exact h.need m0 h0 (a ▸ hI)
 ·obtain ⟨m,hm,a,b,c⟩:=h.vof v hv;obtain ⟨i,hi,rfl⟩:=List.mem_iff_getElem.1 hm;refine ⟨(r.L.set k m')[i]'(by simpa using hi),iN _,?_⟩;rw [List.getElem_set];split
  ·rename_i e;subst e;exact ⟨e2.trans a,e3.trans b,e4 ▸ c⟩
  ·exact ⟨a,b,c⟩
end
end
section
section
variable {h:GH} {φ:Nat→Value} {n i k:Nat} {es:List (List AV)}
mutual
def aCi (hi:n≤i):∀ {x:AV} {u:Value},Rp h φ n x u→zH i k es x=x
 | .v _,_,_=>rfl
 | .ls _ _,_,_=>rfl
 | .rp _,_,_=>rfl
 | .any,_,_=>rfl
 | .ptr _ _,_,_=>rfl
 | .mp _,_,_=>rfl
 | .yl _,_,_=>rfl
 | .own j,_,e=>by simp only [Rp] at e;simp only [zH];rw [if_neg (by omega)]
 | .elt j _ _ _,_,e=>by simp only [Rp] at e;simp only [zH];rw [if_neg (by omega)]
 | .vw j _ _ _,_,e=>by simp only [Rp] at e;simp only [zH];rw [if_neg (by omega)]
 | .ag cs,_,e=>by simp only [Rp] at e;obtain ⟨us,_,b⟩:=e;simp only [zH];rw [DQ hi b]
 | .cl _ cs,_,e=>by simp only [Rp] at e;obtain ⟨us,_,b⟩:=e;simp only [zH];rw [DQ hi b]
 | .bm _ _ cs,_,e=>by simp only [Rp] at e;obtain ⟨us,_,b⟩:=e;simp only [zH];rw [DQ hi b]
 | .tup cs,_,e=>by simp only [Rp] at e;obtain ⟨us,_,b⟩:=e;simp only [zH];rw [DQ hi b]
def DQ (hi:n≤i):∀ {cs:List AV} {us:List Value},bK h φ n cs us→Fb i k es cs=cs
 | [],_,_=>rfl
 | c::cs,_,e=>by
  simp only [bK] at e;obtain ⟨u,us',_,b,c⟩:=e;simp only [Fb];rw [aCi hi b,DQ hi c]
end
def Np:∀ {a b:List AV} {us:List Value},bK h φ n (a++b) us→(∃ vs,bK h φ n a vs)∧∃ ws,bK h φ n b ws
 | [],_,us,e=>⟨⟨[],by simp [bK]⟩,us,e⟩
 | c::a,b,us,e=>by
  simp only [fX,bK] at e;obtain ⟨u,us',_,e1,e2⟩:=e;obtain ⟨⟨vs,e3⟩,e4⟩:=Np e2;exact ⟨⟨u::vs,by simp only [bK];exact ⟨u,vs,rfl,e1,e3⟩⟩,e4⟩
def Z2 (hi:n≤i):∀ {fs:List (List AV)} {us:List Value},bK h φ n fs.flatten us→VZ i k es fs=fs
 | [],_,_=>rfl
 | e::fs,us,hR=>by
  rw [qW] at hR;obtain ⟨⟨vs,a⟩,ws,b⟩:=Np hR;simp only [VZ];rw [DQ hi a,Z2 hi b]
def aDz {l:List (Nat×AV)} {f:Nat→Value} (hi:n≤i) (hp:∀ p∈l,Rp h φ n p.2 (f p.1)):Ms i k es l=l:=by
 induction l with
 | nil=>rfl
 | cons p l ih =>
  obtain ⟨j,x⟩:=p;simp only [Ms];rw [aCi hi (hp (j,x) Gk),ih λp hm=>hp p (H8 _ hm)]
def Z3 {w:World} {j:Nat} (hi:n≤i):∀ {o:AObj},qI h φ n w j o→Rq i k es o=some o
 | .box cs,e=>by
  obtain ⟨_,_,_,_,_,_,d⟩:=e;simp only [Rq];rw [DQ hi d]
 | .arr _ _,_=>rfl
 | .mit _ _ _ _,_=>rfl
 | .arf q fs,e=>by
  have hF:VZ i k es fs=fs:=by
   rcases e.2 with ⟨_,_,he⟩ | ⟨_,_,_,_,_,_,_,_,_,_,b⟩
   ·subst he;rfl
   ·exact Z2 hi b
  have hall:(fs.all λx=>x.all eO)=true:=lF.2 λx hx=>lF.2 λc hc=>(e.1 x hx).2 c hc;simp only [Rq];rw [hF,hall];rfl
 | .lp r s,e=>by
  obtain ⟨_,_,_,_,_,a5⟩:=e;simp only [Rq];rw [aDz (f:=λq=>r.tmps.getD q undef) hi a5]
 | .map _ _ _ _ _,e=>by
  obtain ⟨_,_,_,_,_,_,_,d⟩:=e;simp only [Rq];rw [DQ hi d]
end
def aC.keepLs {P:Program} {G:Nat→Option (List AV)} {f:FuncId} {args:List AV} {T:aH} {q:Nat→List (List AV)→Prop} (hc:aC P G f args T λr T'=>T'.take T.length=T∧∃ i k es,r=.own i∧T.length≤i∧T'[i]?=some (some (.arr k es))∧q k es) :
  aC P G f args T λr T'=>(∃ k es,q k es∧r=.ls k es)∧T'=T:=by
 have key:∀ {h:GH} {φ:Nat→Value} {w w':World} {v:Value},pS G h→Inv h φ w T→Bv h φ T w (λr T'=>T'.take T.length=T∧∃ i k es,r=.own i∧T.length≤i∧T'[i]?=some (some (.arr k es))∧q k es) v w'→Bv h φ T w (λr T'=>(∃ k es,q k es∧r=.ls k es)∧T'=T) v w':=by
  rintro h φ w w' v hG hI ⟨r,T',h',φ',⟨ht,i,k,es,rfl,hi,hx,hq⟩,hE,hI',hr⟩;have hS:SInv P G 0 h φ T w ⟨T.length,[(0,.own i)],T'⟩ ⟨#[v],[]⟩ w':=by
   refine ⟨rfl,?_,⟨h',φ',hG.mono hE.le,hE,hI',λi=>?_⟩,by simp,by simp [CZ]⟩
   ·intro i x y hx hy;simp only [iU,Prod.mk.injEq] at hx hy;rw [hx.2,hy.2]
   ·simp only [aP];split
    ·rename_i hi;subst hi;exact hr
    ·simp [Rp]
  have hg:bZ T' i=some (.arr k es):=by simp [bZ,hx]
  have hS2:=hS.shutI i;unfold Hud.shutI at hS2;simp only [hg] at hS2;obtain ⟨_,_,⟨h2,φ2,_,g2,g3,g4⟩,_,_⟩:=hS2;have hr2:=g4 0;have e0:aP (Ms i k es [(0,AV.own i)]) 0=.ls k es:=by simp [Ms,aP,zH]
  rw [e0] at hr2;replace hr2:Rp h2 φ2 ((Mt i k es T').set i none).length (.ls k es) v:=hr2;have hgT:∀ j o,T[j]?=some (some o)→((Mt i k es T').set i none)[j]?=some (some o):=λj o e=>by
   have hj:j<T.length:=(vE.1 e).1;rw [List.getElem?_set_ne (by omega),OF];have e1:T'[j]?=some (some o):=by
    have h3:(T'.take T.length)[j]?=some (some o):=by rw [ht];exact e
    rwa [List.getElem?_take_of_lt hj] at h3
   rw [e1];show some (Rq i k es o)=some (some o);rw [Z3 hi (hI.obj j o e)]
  refine ⟨.ls k es,T,h2,φ2,⟨⟨k,es,hq,rfl⟩,rfl⟩,?_,?_,by simpa only [Rp] using hr2⟩
  ·exact ⟨g2.os,g2.tape,g2.output,g2.size,g2.frame,g2.le,g2.gfr,g2.phi,λi o b hi hb=>g2.org i o b (hgT i o hi) hb,cT _,g2.drawn⟩
  ·exact ⟨g3.gh,λi o e=>Nn (g3.obj i o (hgT i o e)) (hI.obj i o e),λi j oi oj b e1 e2=>g3.dis i j oi oj b (hgT i oi e1) (hgT j oj e2)⟩
 intro h φ w vals hG hI hA;rcases hc h φ w vals hG hI hA with ⟨a,b⟩ | ⟨v,w',a,b⟩
 ·exact .inl ⟨a,b.mono λe w' ⟨v,e1,e2⟩=>⟨v,e1,key hG hI e2⟩⟩
 ·exact .inr ⟨v,w',a,key hG hI b⟩
end
section
section
variable {G:Nat→Option (List AV)} {T:aH} {s:RP} {r:RM}
set_option maxHeartbeats 1000000
end
end
section
def fnV (f:Nat):AV:=.v (.func (.func f) #[] #[])
def aCj:List AV:=[.v .nilFunc,.v .nilFunc,fnV sY,fnV sZ,.v .nilFunc,fnV EM,fnV EN,.v .nilFunc,fnV EO,fnV EP,fnV pM,fnV EQ,fnV pM,fnV ES]
section
variable {G:Nat→Option (List AV)} {T:aH} {s:RP} {r:RM} {D:List Id} {cs:List CardM}
set_option maxHeartbeats 4000000
end
end
section
section
variable {G:Nat→Option (List AV)}
set_option maxHeartbeats 4000000
end
end
section
section
variable {G:Nat→Option (List AV)} {T:aH} {s:RP} {r:RM}
set_option maxHeartbeats 4000000
end
end
section
def Wr.keep {T X T':aH} {s s':RP} {r r':RM} {i:Nat} {o:Option AObj} (W:Wr (T++X) s r T' s' r') (h:RollAt T s r) (hx:(T++X)[T.length+i]?=some o):T'[T.length+i]?=some o:=by
 rw [W.same _ (oT hx) λhf=>absurd (h.lt hf) (by omega)];exact hx
section
variable {T T':aH} {s:RP} {r:RM}
def aDA (h:RollAt T s r) {k:Nat} (hk:k<r.L.length) (hk2:k<s.ms.length):(Lm s.ms[k] r.L[k]).Nodup:=by
 have:=h.nd.own k;rwa [Bu hk hk2] at this
def RollAt.setObj (h:RollAt T s r) {k:Nat} (hk:k<r.L.length) (hk2:k<s.ms.length) (hI:r.L[k].Is=true) {b:Bool} {la:Int} (hl:T.length≤T'.length) (hT:∀ j,j<T.length→j≠s.ms[k].2.1→T'[j]?=T[j]?)
  (hb:T'[s.ms[k].2.1]?=some (some (.box (aFi { r.L[k] with Obj:=b,Last:=la } s.ms[k].2.2)))):∃ s',Wr T s r T' s' { r with L:=r.L.set k { r.L[k] with Obj:=b,Last:=la } }:=by
 have hM:=h.each k hk hk2;have hnd:=aDA h hk hk2;have e0:Lm s.ms[k] { r.L[k] with Obj:=b,Last:=la }=Lm s.ms[k] r.L[k]:=rfl;have e1:Lm s.ms[k] r.L[k]=[s.ms[k].1,s.ms[k].2.1,s.ms[k].2.2]:=by rw [Lm,if_pos hI]
 have hn:=hnd;rw [e1] at hn;simp only [IA,jB,qS,or_false,not_or] at hn;refine ⟨_,h.setM hk hk2 (p':=s.ms[k]) (m':={ r.L[k] with Obj:=b,Last:=la }) (V':=r.V) hl (λj hj hne=>hT j hj λe=>hne (by rw [e,e1];simp)) rfl rfl ⟨?_,λ_=>hb,λe=>?_⟩ (by rw [e0];exact hnd) (λx hx=>.inl hx) λ_ _ _ _ _ _=>Iff.rfl⟩
 ·rw [hT _ (oT hM.mem) hn.1.1];exact hM.mem
 ·obtain ⟨l,bs,cl,a,b,c,d⟩:=hM.vch hI;exact ⟨l,bs,cl,by rw [hT _ (oT a) (Ne.symm hn.2.1)];exact a,b,c,d⟩
end
section
variable {G:Nat→Option (List AV)} {T:aH} {s:RP} {r:RM}
set_option maxHeartbeats 8000000
end
end
end Hud
