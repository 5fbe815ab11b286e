import Derived.Test.YthlndebkfkanbaaGreatDoorLib29
set_option linter.all false
namespace Hud
open Go
section
open Go.Proofs.Tryz
def CardM.K (c:CardM):List Value:=[.int .i64 c.Device,.int .i64 c.Member,.int .u64 c.Lead,.int .u64 c.Keep,.int .u64 c.Sign]
def bBQ (x y:CardM):Int:=x.Device-y.Device
def qI (l:List CardM):List CardM:=l.mergeSort fun x y=>decide (x.Device<=y.Device)
structure cardsOk (l:List CardM):Prop where
 n:l.length<=1000
 ne:l≠[]
 cs:∀ c∈l,c.ok
 dv:∀ c∈l,0<=c.Device/\c.Device<=1000
 un:∀ c∈l,∀ d∈l,c.Device=d.Device->c=d
theorem qJ {l:List CardM} {c:CardM}:c∈qI l↔c∈l:=(List.mergeSort_perm l _).mem_iff
theorem aSH (l:List CardM):(qI l).length=l.length:=(List.mergeSort_perm l _).length_eq
theorem aQQ {l:List CardM} (h:∀ c∈l,∀ d∈l,c.Device=d.Device->c=d) (x:Int) (c:CardM):l.find? (fun c=>c.Device==x)=some c↔(c∈l/\c.Device=x):=by
 constructor
 ·intro e
  exact ⟨List.mem_of_find?_eq_some e,by simpa using List.find?_some e⟩
 ·rintro ⟨hm,hd⟩
  cases e:l.find? (fun c=>c.Device==x) with
  | none=>exact absurd (List.find?_eq_none.1 e c hm) (by simp [hd])
  | some d =>
   have h1:=List.mem_of_find?_eq_some e
   have h2:d.Device=x:=by simpa using List.find?_some e
   rw [h d h1 c hm (by omega)]
theorem aLm {l:List CardM} (h:cardsOk l) (d:Int):aV (qI l) d=aV l d:=by
 have:(qI l).find? (fun c=>c.Device==d)=l.find? (fun c=>c.Device==d):=by
  cases e:l.find? (fun c=>c.Device==d) with
  | none =>
   rw [List.find?_eq_none] at e ⊢
   intro c hc
   exact e c (qJ.1 hc)
  | some c =>
   rw [aQQ h.un] at e
   rw [aQQ (fun c hc d hd=>h.un c (qJ.1 hc) d (qJ.1 hd))]
   exact ⟨qJ.2 e.1,e.2⟩
 rw [aV,aV,this]
section
variable {G:Nat->Option (List AV)}
set_option maxHeartbeats 4000000
theorem aZN (x y:CardM) (hx:0<=x.Device/\x.Device<=1000) (hy:0<=y.Device/\y.Device<=1000):aD prog G nB [.ag x.A,.ag y.A] [] fun r T=>r=.v (.int .i64 (bBQ x y))/\T=[]:=by
 refine aF aG3 (by decide) ?_
 unfold aCP
 dsimp only [zj,zT,zF,zC,zE,zP,zQ,zq,zA,zm,zo,zs,zg,zh,zl,zv,zf,zi,zn,zb,zc,ze,zk,zw,zu,zt,zr,zR,zK,zN,zS,z0,zU]
 have w:IntKind.i64.wrap (x.Device-y.Device)=x.Device-y.Device:=aM (by omega) (by omega)
 simp only [go_sem,↓reduceIte,CardM.A_def,w,bBQ]
theorem aZO (l:List CardM) (hl:cardsOk l):aD prog G fV [.own 0,.cl nB []] [some (.arr 5 (l.map CardM.A))] fun r T=>r=.tup []/\T=[some (.arr 5 ((qI l).map CardM.A))]:=by
 let α:={c:CardM // c∈l}
 have:Inhabited α:=⟨⟨l.head hl.ne,List.head_mem hl.ne⟩⟩
 let cf:α->α->Int:=fun x y=>bBQ x.1 y.1
 have hlt:∀ x y:α,Go.Proofs.ltOf cf x y=decide (x.1.Device<y.1.Device):=by
  intro x y
  unfold Go.Proofs.ltOf
  show decide (x.1.Device-y.1.Device<0)=_
  rw [Bool.eq_iff_iff];simp;omega
 have key:=aZp (α:=α) (k:=5) (enc:=fun c=>c.1.K) Go.Proofs.Tryz.laysSortC Go.Proofs.Tryz.isAgg107 Go.Proofs.Tryz.sizeOf107 (fun _=>rfl) (fun x v hv=>by simp [CardM.K] at hv;rcases hv with rfl | rfl | rfl | rfl | rfl<;>rfl)
  (fun x c hc=>by simp [cellsOf,CardM.K] at hc;rcases hc with rfl | rfl | rfl | rfl | rfl<;>rfl) (cf:=cf)
  ⟨fun x=>by rw [hlt];simp,fun x y z h1 h2=>by rw [hlt] at *;simp at *;omega,fun x y z h1 h2=>by rw [hlt] at *;simp at *;omega⟩
  (fun x y h1 h2=>by rw [hlt] at *;simp at h1 h2;exact Subtype.ext (hl.un _ x.2 _ y.2 (by omega))) (g:=nB) (Go.Proofs.enters_of Go.Proofs.Tryz.func133 (by kernel_rfl) rfl) (Go.Proofs.enters_of Go.Proofs.Tryz.func132 (by kernel_rfl) rfl) (G:=G) (fun x y=>aZN x.1 y.1 (hl.dv _ x.2) (hl.dv _ y.2)) l.attach (by rw [List.length_attach];have:=hl.n;omega)
 have e1:l.attach.map (cellsOf fun c:α=>c.1.K)=l.map CardM.A:=by
  rw [show (cellsOf fun c:α=>c.1.K)=CardM.A∘Subtype.val from rfl,<-List.map_map,List.attach_map_subtype_val]
 have e2:(l.attach.mergeSort fun x y=>!(Go.Proofs.ltOf cf y x)).map (cellsOf fun c:α=>c.1.K)=(qI l).map CardM.A:=by
  rw [show (cellsOf fun c:α=>c.1.K)=CardM.A∘Subtype.val from rfl,<-List.map_map]
  congr 1
  have hs:(fun x y:α=>!(Go.Proofs.ltOf cf y x))=fun x y:α=>decide (x.1.Device<=y.1.Device):=by
   funext x y;rw [hlt,Bool.eq_iff_iff];simp
  rw [hs,List.map_mergeSort (s:=fun x y:CardM=>decide (x.Device<=y.Device)) (fun a _ b _=>rfl),List.attach_map_subtype_val]
  rfl
 rw [e1,e2] at key
 exact key
theorem bBR (l:List CardM) (hl:cardsOk l):aD prog G vH [.ls 5 (l.map CardM.A)] [] fun r T=>r=.ptr 0 0/\T=[some (.box [.own 1,.mp 2,.v (.slice none 0 0)]),some (.arr 5 ((qI l).map CardM.A)),some (MG [])]:=by
 refine aF aKw (by decide) ?_
 unfold aHd
 dsimp only [zj,zT,zF,zC,zE,zP,zQ,zq,zA,zm,zo,zs,zg,zh,zl,zv,zf,zi,zn,zb,zc,ze,zk,zw,zu,zt,zr,zR,zK,zN,zS,z0,zU]
 have hn:=hl.n
 simp only [go_sem,↓reduceIte]
 refine bU (aA _) rfl (uT (l.map CardM.A) (by rw [List.length_map];omega)) ?_
 simp only [go_sem,↓reduceIte]
 refine aG (T2:=[some (.arr 5 (l.map CardM.A))]) [0] (aA _) (by decide) (by simp) rfl (by simp only [go_sem,↓reduceIte]) (aZO l hl) ?_
 rintro r T' ⟨rfl,rfl⟩
 simp only [go_sem,↓reduceIte,MG,List.map_nil,List.range_zero,List.length_nil]
theorem bDF (l:List CardM) (hl:cardsOk l):aD prog G vH [.ls 5 (l.map CardM.A)] [] fun r T=>r=.ptr 0 0/\T=[some (.box [.ls 5 ((qI l).map CardM.A),.mp 1,.v (.slice none 0 0)]),some (MG [])]:=by
 refine (bBR l hl).fin [1] ?_
 rintro r T' ⟨rfl,rfl⟩
 simp only [go_sem,↓reduceIte,MG,List.map_nil,List.range_zero]
end
end
section
open Go.Proofs.Tryz
theorem aZP {g:PGM} (hg:g.ok) (l:List Id):0<=aDP g l/\aDP g l<=g.nodes.length+1:=by
 have key:∀ (l:List Id) (m:Int),0<=m->m<=g.nodes.length+1->0<=l.foldl (fun m x=>max m ((g.nd x).lv+1)) m/\l.foldl (fun m x=>max m ((g.nd x).lv+1)) m<=g.nodes.length+1:=by
  intro l
  induction l with
  | nil=>exact fun m h0 h1=>⟨h0,h1⟩
  | cons x l ih =>
   intro m h0 h1
   have hx:0<=(g.nd x).lv/\(g.nd x).lv<=g.nodes.length:=by
    unfold PGM.nd
    rw [List.getD_eq_getElem?_getD]
    rcases Nat.lt_or_ge (g.at x) g.nodes.length with h | h
    ·rw [List.getElem?_eq_getElem h];exact hg.lv _ (List.getElem_mem h)
    ·rw [List.getElem?_eq_none h];simp [dfN]
   exact ih (max m ((g.nd x).lv+1)) (by omega) (by omega)
 exact key l 1 (by omega) (by omega)
theorem aY2 {g:PGM} (hg:g.ok) (o:OpM):okW (yQ g o):=aOT (aF9 hg _) (aF8 _ _)
theorem aLn (g:PGM) (o:OpM):(uY g o).1=g\/(uY g o).1=⟨g.cards,g.nodes++[⟨o,idM o,yQ g o,aDP g o.Past⟩]⟩/\g.nodes.length<200:=by
 unfold uY aQO aU2
 repeat' (first | split | (exact .inl rfl))
 all_goals first
  | exact .inl rfl
  | exact .inr ⟨rfl,by omega⟩
theorem aZQ {g:PGM} {o:OpM} (hg:g.ok) (ho:o.ok) (hid:(idM o).ok):(uY g o).1.ok:=by
 rcases aLn g o with h | ⟨h,hl⟩<;>rw [h]
 ·exact hg
 ·have hlv:=aZP hg o.Past
  refine ⟨by simp;omega,hg.cn,hg.cs,?_,?_,?_,?_⟩<;>intro x hx<;>simp only [List.mem_append,List.mem_singleton] at hx<;>rcases hx with hx | rfl
  ·exact hg.ops x hx
  ·exact ho
  ·exact hg.ids x hx
  ·exact hid
  ·exact hg.ws x hx
  ·exact aY2 hg o
  ·have:=hg.lv x hx
   simp only [List.length_append,List.length_singleton]
   omega
  ·simp only [List.length_append,List.length_singleton]
   omega
def pOf (cs:List CardM) (l:List OpM):PGM:=l.foldl (fun p o=>(uY p o).1) ⟨qI cs,[]⟩
theorem aU4 (cs:List CardM) (l:List OpM) (o:OpM):pOf cs (l++[o])=(uY (pOf cs l) o).1:=by simp [pOf]
theorem aSI {cs:List CardM} (hc:cardsOk cs):∀ (l:List OpM),(∀ o∈l,o.ok/\(idM o).ok)->(pOf cs l).ok:=by
 have h0:(⟨qI cs,[]⟩:PGM).ok:=⟨by simp,by show (qI cs).length<=1000;rw [aSH];exact hc.n,fun c h=>hc.cs c (qJ.1 h),by simp,by simp,by simp,by simp⟩
 have key:∀ (l:List OpM) (p:PGM),p.ok->(∀ o∈l,o.ok/\(idM o).ok)->(l.foldl (fun p o=>(uY p o).1) p).ok:=by
  intro l
  induction l with
  | nil=>exact fun p h _=>h
  | cons o l ih=>exact fun p h ha=>ih _ (aZQ h (ha o (by simp)).1 (ha o (by simp)).2) (fun x hx=>ha x (by simp [hx]))
 exact fun l ha=>key l _ h0 ha
section
variable {G:Nat->Option (List AV)}
set_option maxHeartbeats 4000000
theorem bBS (hK:GK G) (g:GM) (hg:g.ok) (hc:cardsOk g.Cards) (hids:∀ o∈g.L,(idM o).ok) (hA:∀ i (h:i<g.L.length),(uY (pOf g.Cards (g.L.take i)) g.L[i]).2=0):aD prog G aEh [.ag g.A] [] fun r T=>r=.ptr 0 0/\T=TG 0 (pOf g.Cards g.L):=by
 refine aF aQ8 (by decide) ?_
 unfold aQ7
 dsimp only [zj,zT,zF,zC,zE,zP,zQ,zq,zA,zm,zo,zs,zg,zh,zl,zv,zf,zi,zn,zb,zc,ze,zk,zw,zu,zt,zr,zR,zK,zN,zS,z0,zU]
 have hn:=hg.n
 have hok:∀ i,(pOf g.Cards (g.L.take i)).ok:=fun i=>aSI hc _ fun o ho=>⟨hg.ops o (List.mem_of_mem_take ho),hids o (List.mem_of_mem_take ho)⟩
 simp only [go_sem,↓reduceIte]
 refine bU (aA _) rfl (bDF g.Cards hc) ?_
 simp only [go_sem,↓reduceIte,MG,List.map_nil,List.range_zero,List.length_nil]
 refine aL g.L.length (fun i=>⟨0,[(1,.ptr 0 0),(3,.ptr 1 0),(4,iv i)],some (.box g.A)::TG 1 (pOf g.Cards (g.L.take i))⟩) (fun _=>True) ?_ trivial ?_ ?_
 ·simp only [go_sem,↓reduceIte,TG,MG,List.take_zero,pOf,List.foldl_nil,PGM.I,List.map_nil,List.range_zero,List.length_nil]
 ·intro i hi _
  have ws:=aH (show i<9223372036854775807 by omega)
  have g0:(g.L.map OpM.A)[i]?=some g.L[i].A:=aX _ g.L i hi
  have ho:=hg.ops _ (List.getElem_mem hi)
  have hz:=hA i hi
  have ft:pOf g.Cards (g.L.take (i+1))=(uY (pOf g.Cards (g.L.take i)) g.L[i]).1:=by rw [List.take_succ_eq_append_getElem hi,aU4]
  have hp:=hok i
  simp only [go_sem,↓reduceIte,TG,MG,List.length_map,bQ hi,hi,g0]
  generalize pOf g.Cards (g.L.take (i+1))=p2 at *
  generalize pOf g.Cards (g.L.take i)=p at *
  generalize g.L[i]=o at *
  subst ft
  refine aG (T2:=TG 0 p) [1,2,3] (aA _) (by decide) (by simp) rfl (by simp only [go_sem,↓reduceIte,TG,MG]) (bBP hK p o hp ho) ?_
  rintro r T' ⟨rfl,hT⟩
  rw [hz]
  rcases hT with ⟨rfl,he⟩ | rfl
  ·simp only [go_sem,↓reduceIte,TG,MG,ws]
  ·simp only [go_sem,↓reduceIte,TG,TH,MG,ws]
 intro _
 simp only [go_sem,↓reduceIte,TG,MG,List.length_map,bV (Nat.lt_irrefl _),List.take_length]
end
end
section
inductive RU (Up:List (List Nat)) (up:List Nat):Nat->Prop
 | base {k:Nat}:k∈up->RU Up up k
 | step {j k:Nat}:RU Up up j->k∈Up.getD j []->RU Up up k
theorem RU.tail {Up:List (List Nat)} {up:List Nat} {k:Nat}:RU Up up k↔k∈up\/∃ j,RU Up up j/\k∈Up.getD j []:=by
 constructor
 ·intro h
  cases h with
  | base h=>exact .inl h
  | step h1 h2=>exact .inr ⟨_,h1,h2⟩
 ·rintro (h | ⟨j,h1,h2⟩)
  ·exact .base h
  ·exact .step h1 h2
theorem RU.head {Up:List (List Nat)} {up:List Nat} {k:Nat}:RU Up up k↔k∈up\/∃ i∈up,RU Up (Up.getD i []) k:=by
 constructor
 ·intro h
  induction h with
  | base h=>exact .inl h
  | step h1 h2 ih =>
   rcases ih with ih | ⟨i,hi,ih⟩
   ·exact .inr ⟨_,ih,.base h2⟩
   ·exact .inr ⟨i,hi,.step ih h2⟩
 ·rintro (h | ⟨i,hi,h⟩)
  ·exact .base h
  ·induction h with
   | base h=>exact .step (.base hi) h
   | step h1 h2 ih=>exact .step ih h2
theorem RU.lt {Up:List (List Nat)} {up:List Nat} {n:Nat} (hu:∀ k∈up,k<n) (hU:∀ i,∀ k∈Up.getD i [],k<i) {k:Nat} (h:RU Up up k):k<n:=by
 induction h with
 | base h=>exact hu _ h
 | step h1 h2 ih=>have:=hU _ _ h2;omega
theorem aQR (a:List Bool) (i k:Nat) (h:i<a.length):(a.set i true).getD k false=(decide (k=i)||a.getD k false):=by
 rw [List.getD_eq_getElem?_getD,List.getD_eq_getElem?_getD,List.getElem?_set]
 by_cases e:i=k
 ·subst e;simp [h]
 ·rw [if_neg e,decide_eq_false (fun h=>e h.symm),Bool.false_or]
theorem aVF (u:List Nat) (a:List Bool) (h:∀ k∈u,k<a.length) (k:Nat):(u.foldl (fun b k=>b.set k true) a).getD k false=(decide (k∈u)||a.getD k false):=by
 induction u generalizing a with
 | nil=>simp
 | cons x u ih =>
  rw [List.foldl_cons,ih _ (fun k hk=>by rw [List.length_set];exact h k (by simp [hk])),aQR _ _ _ (h x (by simp))]
  rw [Bool.eq_iff_iff]
  simp only [Bool.or_eq_true,decide_eq_true_eq,List.mem_cons]
  constructor
  ·rintro (h | h | h)
   ·exact .inl (.inr h)
   ·exact .inl (.inl h)
   ·exact .inr h
  ·rintro ((h | h) | h)
   ·exact .inr (.inl h)
   ·exact .inl h
   ·exact .inr (.inr h)
theorem aSJ (Up:List (List Nat)) (up:List Nat) (a:List Bool) (i:Nat) (hi:i<a.length) (hU:∀ k∈Up.getD i [],k<i) (k:Nat) :
  ((aNf Up up a i).getD k false=true)↔(a.getD k false=true\/(k=i/\i∈up)\/((a.getD i false=true\/i∈up)/\k∈Up.getD i [])):=by
 have hs:∀ k,((if decide (i∈up) then a.set i true else a).getD k false=true)↔(a.getD k false=true\/(k=i/\i∈up)):=by
  intro k
  by_cases h:i∈up
  ·rw [if_pos (decide_eq_true h),aQR _ _ _ hi];simp [h,or_comm]
  ·rw [if_neg (by simp [h])];simp [h]
 have hl:(if decide (i∈up) then a.set i true else a).length=a.length:=by split<;>simp
 unfold aNf
 generalize (if decide (i∈up) then a.set i true else a)=b at *
 by_cases hb:b.getD i false=true
 ·rw [if_pos hb,aVF _ _ (fun k hk=>by rw [hl];have:=hU k hk;omega),Bool.or_eq_true,hs,decide_eq_true_eq]
  have:=(hs i).1 hb
  constructor
  ·rintro (h | h | h)
   ·exact .inr (.inr ⟨this.imp id (·.2),h⟩)
   ·exact .inl h
   ·exact .inr (.inl h)
  ·rintro (h | h | h)
   ·exact .inr (.inl h)
   ·exact .inr (.inr h)
   ·exact .inl h.2
 ·rw [if_neg hb,hs]
  have:¬(a.getD i false=true\/i∈up):=fun h=>hb ((hs i).2 (h.imp id fun h=>⟨rfl,h⟩))
  constructor
  ·rintro (h | h)
   ·exact .inl h
   ·exact .inr (.inl h)
  ·rintro (h | h | h)
   ·exact .inl h
   ·exact .inr h
   ·exact absurd h.1 this
theorem aLo (Up:List (List Nat)) (up:List Nat) (n:Nat) (hu:∀ k∈up,k<n) (hU:∀ i,∀ k∈Up.getD i [],k<i):∀ (i:Nat) (a:List Bool),a.length=n->i<=n ->
  (∀ k,i<=k->((a.getD k false=true)↔RU Up up k))->(∀ k,k<i->((a.getD k false=true)↔∃ j,i<=j/\RU Up up j/\k∈Up.getD j []))->∀ k,((aQm Up up i a).getD k false=true)↔RU Up up k
 | 0,a,_,_,h1,_=>fun k=>h1 k (by omega)
 | i+1,a,ha,hi,h1,h2=>by
  have hs:=aSJ Up up a i (by omega) (hU i)
  have hri:(a.getD i false=true\/i∈up)↔RU Up up i:=by
   rw [h2 i (by omega),RU.tail]
   constructor
   ·rintro (⟨j,_,h3,h4⟩ | h)
    ·exact .inr ⟨j,h3,h4⟩
    ·exact .inl h
   ·rintro (h | ⟨j,h3,h4⟩)
    ·exact .inr h
    ·exact .inl ⟨j,by have:=hU j i h4;omega,h3,h4⟩
  refine aLo Up up n hu hU i (aNf Up up a i) (by rw [aNi];exact ha) (by omega) ?_ ?_
  ·intro k hk
   rw [hs]
   rcases Nat.lt_or_ge k (i+1) with h | h
   ·obtain rfl:k=i:=by omega
    rw [<-hri]
    constructor
    ·rintro (h | h | h)
     ·exact .inl h
     ·exact .inr h.2
     ·exact absurd (hU _ _ h.2) (Nat.lt_irrefl _)
    ·rintro (h | h)
     ·exact .inl h
     ·exact .inr (.inl ⟨rfl,h⟩)
   ·rw [h1 k h]
    constructor
    ·rintro (h3 | h3 | h3)
     ·exact h3
     ·omega
     ·have:=hU _ _ h3.2;omega
    ·exact .inl
  ·intro k hk
   rw [hs,h2 k (by omega),hri]
   constructor
   ·rintro (⟨j,h3,h4,h5⟩ | h3 | h3)
    ·exact ⟨j,by omega,h4,h5⟩
    ·omega
    ·exact ⟨i,Nat.le_refl _,h3.1,h3.2⟩
   ·rintro ⟨j,h3,h4,h5⟩
    rcases Nat.lt_or_ge i j with h | h
    ·exact .inl ⟨j,h,h4,h5⟩
    ·obtain rfl:j=i:=by omega
     exact .inr (.inr ⟨h4,h5⟩)
theorem aLp (g:GM) (up:List Nat) (hu:∀ k∈up,k<g.L.length) (hU:∀ i,∀ k∈g.Up.getD i [],k<i) (k:Nat):((pY g up).getD k false=true)↔RU g.Up up k:=by
 refine aLo g.Up up g.L.length hu hU _ _ (by simp) (Nat.le_refl _) ?_ ?_ k
 ·intro k hk
  constructor
  ·intro h
   rw [List.getD_eq_getElem?_getD,List.getElem?_eq_none (by simp;omega)] at h
   exact absurd h (by decide)
  ·intro h
   have:=h.lt hu hU
   omega
 ·intro k hk
  constructor
  ·intro h
   rw [List.getD_eq_getElem?_getD,List.getElem?_replicate,if_pos hk] at h
   exact absurd h (by decide)
  ·rintro ⟨j,h1,h2,_⟩
   have:=h2.lt hu hU
   omega
theorem RU.more {Up:List (List Nat)} {u up:List Nat} {k:Nat} (hu:∀ k∈up,k<Up.length) (hU:∀ i,∀ k∈Up.getD i [],k<i):RU (Up++[u]) up k↔RU Up up k:=by
 have hg:∀ j,j<Up.length->(Up++[u]).getD j []=Up.getD j []:=fun j hj=>by
  rw [List.getD_eq_getElem?_getD,List.getD_eq_getElem?_getD,List.getElem?_append_left hj]
 constructor
 ·intro h
  induction h with
  | base h=>exact .base h
  | step h1 h2 ih=>exact .step ih (by rwa [hg _ (ih.lt hu hU)] at h2)
 ·intro h
  induction h with
  | base h=>exact .base h
  | step h1 h2 ih=>exact .step ih (by rwa [hg _ (h1.lt hu hU)])
end
section
theorem aY3 (W V:List Nat) (h:W.length=V.length) (i:Nat):(orW W V).getD i 0=W.getD i 0 ||| V.getD i 0:=by
 unfold orW
 rw [List.getD_eq_getElem?_getD,List.getD_eq_getElem?_getD,List.getD_eq_getElem?_getD,List.getElem?_zipWith]
 rcases Nat.lt_or_ge i W.length with hi | hi
 ·rw [List.getElem?_eq_getElem hi,List.getElem?_eq_getElem (by omega)];rfl
 ·rw [List.getElem?_eq_none hi,List.getElem?_eq_none (by omega)];rfl
theorem aVG (W V:List Nat) (h:W.length=V.length) (i:Nat):(yP W V).getD i 0=W.getD i 0 &&& V.getD i 0:=by
 unfold yP
 rw [List.getD_eq_getElem?_getD,List.getD_eq_getElem?_getD,List.getD_eq_getElem?_getD,List.getElem?_zipWith]
 rcases Nat.lt_or_ge i W.length with hi | hi
 ·rw [List.getElem?_eq_getElem hi,List.getElem?_eq_getElem (by omega)];rfl
 ·rw [List.getElem?_eq_none hi,List.getElem?_eq_none (by omega)];rfl
theorem aU5 {W V:List Nat} (hW:okW W) (hV:okW V) (k:Nat):nG (orW W V) k=(nG W k||nG V k):=by
 unfold nG;rw [aY3 W V (by rw [hW.1,hV.1]),Nat.testBit_or]
theorem aU6 (k:Nat):nG z4 k=false:=by
 unfold nG
 have:z4.getD (k/64) 0=0:=by
  unfold z4
  rcases k/64 with _ | _ | _ | _ | n<;>rfl
 rw [this,Nat.zero_testBit]
theorem aY4 {W:List Nat} (hW:okW W) (n k:Nat) (hn:n<256):nG (aMm W n) k=(decide (k=n)||nG W k):=by
 unfold nG aMm
 have hl:n/64<W.length:=by rw [hW.1];omega
 by_cases e:k/64=n/64
 ·rw [e,List.getD_eq_getElem?_getD,List.getElem?_set_self hl,Option.getD_some,Nat.testBit_or,Nat.testBit_two_pow,Bool.or_comm]
  congr 1
  rw [Bool.eq_iff_iff]
  simp only [decide_eq_true_eq]
  omega
 ·rw [List.getD_eq_getElem?_getD,List.getElem?_set_ne (fun h=>e h.symm),<-List.getD_eq_getElem?_getD,decide_eq_false (fun h=>e (by rw [h])),Bool.false_or]
theorem aVH {W V:List Nat} (hW:okW W) (hV:okW V) (h:∀ k,k<256->nG W k=true->nG V k=false):yP W V=z4:=by
 have hl:=aQP hW hV
 refine List.ext_getElem (by rw [hl];rfl) fun i hi _=>?_
 have hi4:i<4:=by omega
 have hz:z4[i]'(by simpa [z4] using hi4)=0:=by
  unfold z4
  rcases i with _ | _ | _ | _ | i<;>first | rfl | omega
 rw [hz]
 have e:=aVG W V (by rw [hW.1,hV.1]) i
 rw [List.getD_eq_getElem?_getD,List.getElem?_eq_getElem hi,Option.getD_some] at e
 rw [e]
 refine Nat.eq_of_testBit_eq fun b=>?_
 rw [Nat.testBit_and,Nat.zero_testBit]
 rcases Nat.lt_or_ge b 64 with hb | hb
 ·have h1:(64*i+b)/64=i:=by omega
  have h2:(64*i+b)%64=b:=by omega
  have:=h (64*i+b) (by omega)
  unfold nG at this
  rw [h1,h2] at this
  cases hx:(W.getD i 0).testBit b
  ·rfl
  ·rw [this hx];rfl
 ·rw [Nat.testBit_lt_two_pow (Nat.lt_of_lt_of_le (wM hW i) (show 18446744073709551616<=2^b from Nat.pow_le_pow_right (n:=2) (i:=64) (by omega) hb))];rfl
theorem aY5 (g:PGM) (hn:g.nodes.length<=200) (l:List Id) (hl:∀ x∈l,g.at x<256) (k:Nat):(nG (aDO g l) k=true)↔∃ x∈l,g.at x=k:=by
 have key:∀ (l:List Id) (W:List Nat),okW W->(∀ x∈l,g.at x<256)->((nG (l.foldl (fun W x=>aMm W (g.at x)) W) k=true)↔(nG W k=true\/∃ x∈l,g.at x=k)):=by
  intro l
  induction l with
  | nil=>intro W _ _;simp
  | cons x l ih =>
   intro W hW hx
   rw [List.foldl_cons,ih _ (aTY hW _) (fun y hy=>hx y (by simp [hy])),aY4 hW _ _ (hx x (by simp)),Bool.or_eq_true,decide_eq_true_eq]
   simp only [List.mem_cons,exists_eq_or_imp]
   constructor
   ·rintro ((h | h) | h)
    ·exact .inr (.inl h.symm)
    ·exact .inl h
    ·exact .inr (.inr h)
   ·rintro (h | h | h)
    ·exact .inl (.inr h)
    ·exact .inl (.inl h.symm)
    ·exact .inr h
 unfold aDO
 rw [key l z4 aLl hl,aU6]
 simp
theorem aY6 {g:PGM} (hg:g.ok) (l:List Id) (k:Nat):(nG (aCv g l) k=true)↔∃ x∈l,nG (g.nd x).W k=true:=by
 have key:∀ (l:List Id) (W:List Nat),okW W->((nG (l.foldl (fun W x=>orW W (g.nd x).W) W) k=true)↔(nG W k=true\/∃ x∈l,nG (g.nd x).W k=true)):=by
  intro l
  induction l with
  | nil=>intro W _;simp
  | cons x l ih =>
   intro W hW
   rw [List.foldl_cons,ih _ (aOT hW (aXW hg x)),aU5 hW (aXW hg x),Bool.or_eq_true]
   simp only [List.mem_cons,exists_eq_or_imp]
   rw [or_assoc]
 unfold aCv
 rw [key l z4 aLl,aU6]
 simp
theorem aY7 (g:PGM) (x:Id):g.at x=(lU g.I x).toNat:=by
 unfold PGM.at lU aCr
 cases g.I.findIdx? (fun y=>decide (y=x)) with
 | none=>rfl
 | some i=>simp
theorem aNF (I:List Id) (x:Id):0<=lU I x↔x∈I:=by
 have:=aAl (fun y=>decide (y=x)) I
 unfold lU
 have h2:(decide ((0:Int)<=aCr (fun y=>decide (y=x)) I)=true)↔x∈I:=by
  rw [this];simp
 simpa using h2
theorem aZR (g:PGM) (a:Int) (l:List Id) (h0:0<=a) (h:∀ x∈l,(g.nd x).o.At<=a):aCZ g l<=a:=by
 have key:∀ (l:List Id) (m:Int),m<=a->(∀ x∈l,(g.nd x).o.At<=a)->l.foldl (fun m x=>max m (g.nd x).o.At) m<=a:=by
  intro l
  induction l with
  | nil=>exact fun m h _=>h
  | cons x l ih =>
   intro m hm hx
   have:=hx x (by simp)
   exact ih (max m (g.nd x).o.At) (by omega) (fun y hy=>hx y (by simp [hy]))
 exact key l 0 h0 h
end
section
def sE (g:GM) (o:OpM):List Nat:=o.Past.map fun x=>(lU g.I x).toNat
structure Acc (g:GM) (o:OpM):Prop where
 check:aBH o=0
 twice:¬0<=lU g.I (idM o)
 full:g.L.length<200
 card:(aV g.Cards o.By).2=true
 sig:aES (aV g.Cards o.By).1.Sign o.B o.SR o.SS=true
 kind:((o.Kind==1)&&decide (0<g.L.length))=false
 there:∀ x∈o.Past,0<=lU g.I x
 up:(kH g o).2=sE g o
 order:aSe g o (sE g o)=true
 right:aSd g.L o (pY g (sE g o))=true
theorem aSK {g:GM} {o:OpM} (h:(kH g o).1=0):Acc g o:=by
 have h0:=h
 unfold kH at h
 split at h
 ·rename_i hc;exact absurd h hc
 rename_i hc
 simp only [ne_eq,Decidable.not_not] at hc
 have e0:kH g o=aDK g o:=by rw [kH,if_neg (by simp [hc])]
 unfold aDK at h
 split at h
 ·simp at h
 rename_i h1
 split at h
 ·simp at h
 rename_i h2
 split at h
 ·simp at h
 rename_i h3
 split at h
 ·simp at h
 rename_i h4
 split at h
 ·simp at h
 rename_i h5
 have e1:aDK g o=aDJ g o:=by rw [aDK,if_neg h1,if_neg h2,if_neg h3,if_neg h4,if_neg h5]
 unfold aDJ at h
 by_cases hp:(o.Past.all fun x=>decide (0<=lU g.I x))=true
 rotate_left
 ·have:aVf g.I o.Past=none:=by rw [aVf,if_neg hp]
  rw [this] at h
  simp at h
 have ep:aVf g.I o.Past=some (sE g o):=by rw [aVf,if_pos hp];rfl
 have e2:aDJ g o=aKV g o (sE g o):=by rw [aDJ,ep]
 rw [ep] at h
 simp only at h
 unfold aKV at h
 split at h
 ·simp at h
 rename_i h6
 split at h
 ·simp at h
 rename_i h7
 exact ⟨hc,h1,by omega,by simpa using h3,by simpa using h4,by simpa using h5,by simpa using hp,by rw [e0,e1,e2,aKV,if_neg h6,if_neg h7],by simpa using h6,by simpa using h7⟩
theorem aLq {g:GM} {o:OpM} (a:Acc g o) (h:(kH g o).1=0):(aBL g o).1=⟨g.Cards,g.L++[o],g.I++[idM o],g.Up++[sE g o],(g.In.map fun r=>r++[false])++[pY g (sE g o)++[false]]⟩:=by
 rw [aBL,if_neg (by simp [h]),a.up]
structure GM.wf (g:GM):Prop where
 un:g.Up.length=g.L.length
 inn:g.In.length=g.L.length
 i:g.I.length=g.L.length
 up:∀ i,∀ k∈g.Up.getD i [],k<i
 past:∀ i,i<g.L.length->∀ k,((g.In.getD i []).getD k false=true)↔RU g.Up (g.Up.getD i []) k
theorem bBT (cs:List CardM):(⟨cs,[],[],[],[]⟩:GM).wf:=⟨rfl,rfl,rfl,by simp,by simp⟩
theorem aY8 {g:GM} {o:OpM} (w:g.wf) (a:Acc g o):∀ k∈sE g o,k<g.L.length:=by
 intro k hk
 obtain ⟨x,hx,rfl⟩:=List.mem_map.1 hk
 have h1:=aNq g.I x
 have h2:=a.there x hx
 have:=w.i
 omega
theorem aGf (l:List Bool) (k:Nat):(l++[false]).getD k false=l.getD k false:=by
 rw [List.getD_eq_getElem?_getD,List.getD_eq_getElem?_getD]
 rcases Nat.lt_trichotomy k l.length with h | h | h
 ·rw [List.getElem?_append_left h]
 ·subst h;simp
 ·rw [List.getElem?_eq_none (by simp;omega),List.getElem?_eq_none (by omega)]
theorem aDQ {α:Type} (l:List α) (x d:α) (k:Nat) (h:k<l.length):(l++[x]).getD k d=l.getD k d:=by
 rw [List.getD_eq_getElem?_getD,List.getD_eq_getElem?_getD,List.getElem?_append_left h]
theorem aAr {α:Type} (l:List α) (x d:α):(l++[x]).getD l.length d=x:=by simp
theorem aSL {α:Type} (l:List α) (x d:α) (k:Nat) (h:l.length<k):(l++[x]).getD k d=d:=by
 rw [List.getD_eq_getElem?_getD,List.getElem?_eq_none (by simp;omega)];rfl
theorem aY9 {g:GM} (w:g.wf) (p:List Bool) (i:Nat) (h:i<g.L.length) (k:Nat):((((g.In.map fun r=>r++[false])++[p]).getD i []).getD k false)=(g.In.getD i []).getD k false:=by
 have hi:i<g.In.length:=by rw [w.inn];exact h
 have e1:(g.In.map fun r=>r++[false]).getD i []=g.In[i]++[false]:=by rw [List.getD_eq_getElem?_getD,List.getElem?_map,List.getElem?_eq_getElem hi];rfl
 have e2:g.In.getD i []=g.In[i]:=by rw [List.getD_eq_getElem?_getD,List.getElem?_eq_getElem hi];rfl
 rw [aDQ _ _ _ _ (by simpa using hi),e1,e2,aGf]
theorem bBU {g:GM} {o:OpM} (w:g.wf) (h:(kH g o).1=0):(aBL g o).1.wf:=by
 have a:=aSK h
 have hu:=aY8 w a
 rw [aLq a h]
 have hg:∀ i,i<g.L.length->(g.Up++[sE g o]).getD i []=g.Up.getD i []:=fun i hi=>aDQ _ _ _ _ (by rw [w.un];exact hi)
 have hn:(g.Up++[sE g o]).getD g.L.length []=sE g o:=by rw [<-w.un];exact aAr _ _ _
 refine ⟨by simp [w.un],by simp [w.inn],by simp [w.i],?_,?_⟩
 ·intro i k hk
  rcases Nat.lt_trichotomy i g.L.length with h1 | h1 | h1
  ·rw [hg i h1] at hk;exact w.up i k hk
  ·rw [h1,hn] at hk;rw [h1];exact hu k hk
  ·rw [aSL _ _ _ _ (by rw [w.un];exact h1)] at hk;simp at hk
 ·intro i hi k
  simp only [List.length_append,List.length_singleton] at hi
  rcases Nat.lt_or_ge i g.L.length with h1 | h1
  ·rw [hg i h1,aY9 w _ i h1 k,RU.more (fun k hk=>by rw [w.un];have:=w.up i k hk;omega) w.up]
   exact w.past i h1 k
  ·obtain rfl:i=g.L.length:=by omega
   rw [hn,RU.more (fun k hk=>by rw [w.un];exact hu k hk) w.up,<-aLp g _ hu w.up]
   have:((g.In.map fun r=>r++[false])++[pY g (sE g o)++[false]]).getD g.L.length []=pY g (sE g o)++[false]:=by
    have h2:g.L.length=(g.In.map fun r=>r++[false]).length:=by simp [w.inn]
    rw [h2];exact aAr _ _ _
   rw [this,aGf]
structure Sim (p:PGM) (g:GM):Prop where
 c:∀ d,aV p.cards d=aV g.Cards d
 l:p.nodes.map (·.o)=g.L
 i:p.I=g.I
 w:∀ i,i<g.L.length->∀ k,k<256->nG (p.nodes.getD i dfN).W k=(g.In.getD i []).getD k false
theorem aZS {cs:List CardM} (hc:cardsOk cs):Sim ⟨qI cs,[]⟩ ⟨cs,[],[],[],[]⟩:=⟨fun d=>aLm hc d,rfl,rfl,by simp⟩
end
end Hud
