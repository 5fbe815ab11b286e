import Derived.Test.YthlndebkfkanbaaGreatDoorLib37
import Derived.ProofKit
import Derived.Deep.Slices
set_option linter.all false
section
namespace Hud
open Go Go.RowKit Go.WideShapes Go.ChangeShapes Go.Deep
def aBS:LK->Value->Prop
 | .int k,v=>∃ n,v=.int k n/\(Lit.int k n).wf=true
 | .bool,v=>∃ b,v=.bool b
 | .str,v=>∃ s,v=.string s/\s.size<=maxLen
def eM:List LK->List Value->Prop
 | [],vs=>vs=[]
 | k::ks,vs=>∃ v r,vs=v::r/\aBS k v/\eM ks r
theorem aR5 {a b:List LK} {u v:List Value} (h:eM a u) (k:eM b v):eM (a++b) (u++v):=by
 induction a generalizing u with
 | nil=>simp only [eM] at h;subst h;simpa using k
 | cons x a ih =>
  simp only [eM] at h
  obtain ⟨w,r,rfl,h1,h2⟩:=h
  simp only [List.cons_append,eM]
  exact ⟨w,r++v,rfl,h1,ih h2⟩
mutual
def aLv (P:Program):Nat->TypeId->Option (List LK)
 | 0,_=>none
 | n+1,t=>match P.underlying t with
  | some .bool=>some [.bool]
  | some (.int k)=>some [.int k]
  | some .string=>some [.str]
  | some (.struct fs)=>aGi P n fs.toList 0
  | _=>none
def aGi (P:Program):Nat->List Field->Nat->Option (List LK)
 | 0,_,_=>none
 | _+1,[],_=>some []
 | n+1,f::fs,off=>match aLv P n f.type,aGi P n fs (off+P.cellsOf f.type) with
  | some a,some b=>if f.offset=off/\a.length=P.cellsOf f.type then some (a++b) else none
  | _,_=>none
end
section
variable {H:Type} {enc:TypeId×Value->H} {P:Program} {w:World} {base:Nat} {spare:Nat->Bool} {held:Bool}
mutual
theorem aNL:∀ {n:Nat} {t:TypeId} {ks:List LK},aLv P n t=some ks->ks.length=P.cellsOf t->∀ {fuel:Nat} {cs:List Value} {x:DataW H×List MemPlace},DataW.trod enc P w base spare held fuel t cs=some x->eM ks cs
 | 0,_,_,h,_,_,_,_,_=>by simp [aLv] at h
 | n+1,t,ks,h,hl,fuel,cs,x,e=>by
  simp only [aLv] at h
  split at h
  ·rename_i ht
   injection h with h;subst h
   obtain ⟨b,hc,_⟩:=DataW.trod_bool ht e
   subst hc
   simp [eM,aBS]
  ·rename_i k ht
   injection h with h;subst h
   obtain ⟨m,hc,_,hw⟩:=DataW.trod_int ht e
   subst hc
   simp [eM,aBS,hw]
  ·rename_i ht
   injection h with h;subst h
   obtain ⟨s,hc,_,hw⟩:=DataW.trod_string ht e
   subst hc
   simp [eM,aBS,hw]
  ·rename_i fs ht
   obtain ⟨xs,m,_,_,hcl,hlen,hf⟩:=DataW.trod_struct ht e
   have:=aNM h (cs:=cs) (fun i f hi=>by
    have h1:=hf i f (by simpa using hi)
    have h2:i<xs.length:=by
     rw [hlen]
     rcases Nat.lt_or_ge i fs.size with hh | hh
     ·exact hh
     ·rw [List.getElem?_eq_none (by simpa using hh)] at hi;simp at hi
    exact ⟨m,_,h1.trans (List.getElem?_eq_getElem h2)⟩) (by rw [hcl,<-hl,Nat.zero_add])
   simpa using this
  ·simp at h
theorem aNM:∀ {n:Nat} {fs:List Field} {off:Nat} {ks:List LK},aGi P n fs off=some ks->∀ {cs:List Value},(∀ (i:Nat) (f:Field),fs[i]?=some f->∃ fuel x,DataW.trod enc P w base spare held fuel f.type ((cs.drop f.offset).take (P.cellsOf f.type))=some x) ->
  cs.length=off+ks.length->eM ks (cs.drop off)
 | 0,_,_,_,h,_,_,_=>by simp [aGi] at h
 | n+1,[],off,ks,h,cs,hf,hl=>by
  simp only [aGi,Option.some.injEq] at h
  subst h
  simp only [eM]
  exact List.drop_of_length_le (by simp at hl;omega)
 | n+1,f::fs,off,ks,h,cs,hf,hl=>by
  simp only [aGi] at h
  split at h
  ·rename_i a b h1 h2
   split at h
   ·rename_i hc
    injection h with h;subst h
    obtain ⟨hc1,hc2⟩:=hc
    obtain ⟨fuel,x,e⟩:=hf 0 f rfl
    have ih1:=aNL h1 hc2 e
    rw [List.length_append] at hl
    have ih2:=aNM h2 (cs:=cs) (fun i g hi=>hf (i+1) g (by simpa using hi)) (by rw [<-hc2];omega)
    rw [hc1] at ih1
    have:cs.drop off=(cs.drop off).take (P.cellsOf f.type)++cs.drop (off+P.cellsOf f.type):=by
     rw [<-List.drop_drop,List.take_append_drop]
    rw [this]
    exact aR5 ih1 ih2
   ·simp at h
  ·simp at h
end
end
def aGj (w:World):GH:=fun b=>match w.heap[b]? with | some (.cells cs _ _)=>some cs | _=>none
theorem aYr (w:World) (φ:Nat->Value):Inv (aGj w) φ w [] where
 gh:=fun b cs e=>by
  unfold aGj at e
  split at e
  ·rename_i c E fr h
   injection e with e;subst e
   exact ⟨E,fr,h⟩
  ·simp at e
 obj:=fun i o e=>by simp at e
 dis:=fun i j oi oj b e=>by simp at e
theorem aVO {w:World} {b o:Nat} {v:Value} (h:w.cell? ⟨b,o,none⟩=some v):mH (aGj w) b o=some v:=by
 unfold World.cell? at h
 unfold mH aGj
 split at h
 ·rename_i c E fr h1
  simp only at h1
  rw [h1]
  simpa using h
 ·simp at h
theorem aR6 {k:LK} {v:Value} (h:aBS k v):aP (.v v)=true:=by
 cases k with
 | int k=>obtain ⟨n,rfl,_⟩:=h;rfl
 | bool=>obtain ⟨b,rfl⟩:=h;rfl
 | str=>obtain ⟨s,rfl,_⟩:=h;rfl
theorem aR7 {ks:List LK} {vs:List Value} (h:eM ks vs):∀ {i:Nat} {v:Value},vs[i]?=some v->∃ k,aBS k v:=by
 induction ks generalizing vs with
 | nil=>simp only [eM] at h;subst h;simp
 | cons k ks ih =>
  simp only [eM] at h
  obtain ⟨u,r,rfl,h1,h2⟩:=h
  intro i v hi
  cases i with
  | zero=>simp only [List.getElem?_cons_zero,Option.some.injEq] at hi;subst hi;exact ⟨k,h1⟩
  | succ i=>exact ih h2 (by simpa using hi)
section
variable {H:Type} {enc:TypeId×Value->H} {P:Program} {W:World} {base:Nat} {spare:Nat->Bool} {held:Bool} {h:GH} {φ:Nat->Value}
theorem aR8 {t e:TypeId} {ks:List LK} {n:Nat} (ht:P.underlying t=some (.slice e)) (hs:aLv P n e=some ks) (hk:ks.length=P.cellsOf e) (hk0:0<ks.length) {A:Option Addr} {l0 c0:Nat} {d:DataW H} {ps:List MemPlace}
  (hd:DataW.Trod enc P W base spare held t (.slice A l0 c0) d ps) :
  ∃ es:List (List Value),(∀ x∈es,eM ks x)/\es.length<=maxLen/\Rp (aGj W) φ 0 (.ls ks.length (es.map fun x=>x.map .v)) (.slice A l0 c0):=by
 obtain ⟨fuel,hd⟩:=hd
 rcases open_slice ht hd with ⟨h1,_⟩ | ⟨a,len,cap,m,n',D,Pl,h1,_,h3,h4,hm,_,hel⟩
 ·obtain ⟨rfl,rfl,rfl⟩:A=none/\l0=0/\c0=0:=by simpa [Value.cells] using h1
  refine ⟨[],by simp,by simp,?_⟩
  simp only [Rp,RpD,List.map_nil,List.length_nil]
  exact ⟨none,0,rfl,Nat.le_refl _,Nat.zero_le _,by simp⟩
 ·obtain ⟨rfl,rfl,rfl⟩:A=some a/\l0=len/\c0=cap:=by simpa [Value.cells] using h1
  have hlm:l0<=m:=by rw [hm];split<;>omega
  have hex:∀ i,∃ c':List Value,i<l0->(W.cells? base (a.add (i*P.cellsOf e)) (P.cellsOf e)=some c'/\eM ks c'):=by
   intro i
   by_cases hi:i<l0
   ·obtain ⟨c',hc1,hc2⟩:=hel i (by omega)
    exact ⟨c',fun _=>⟨hc1,aNL hs hk hc2⟩⟩
   ·exact ⟨[],fun hh=>absurd hh hi⟩
  refine ⟨(List.range l0).map fun i=>(hex i).choose,?_,by simpa using Nat.le_trans h3 h4,?_⟩
  ·intro x hx
   obtain ⟨i,hi,rfl⟩:=List.mem_map.1 hx
   exact ((hex i).choose_spec (List.mem_range.1 hi)).2
  ·simp only [Rp,RpD,List.length_map,List.length_range]
   refine ⟨some a,c0,rfl,h3,h4,?_⟩
   rcases Nat.eq_zero_or_pos l0 with h0 | h0
   ·exact .inl (by subst h0;rfl)
   ·refine .inr ?_
    have hsp:a.spot=none:=by
     obtain ⟨c',c1,_⟩:=hel 0 (by omega)
     obtain ⟨_,e2,e3⟩:=World.cells?_some c1
     have e4:=e3 0 (by omega)
     rw [List.getElem?_eq_getElem (by rw [e2];omega),Nat.zero_mul] at e4
     have:(a.add 0).add 0=a:=by simp [Addr.add]
     rw [this] at e4
     unfold World.cell? at e4
     split at e4
     ·split at e4
      ·simp at e4
      ·rename_i hs;simpa using hs
     ·simp at e4
    obtain ⟨b,o,sp⟩:=a
    simp only at hsp
    subst hsp
    refine ⟨b,o,rfl,fU.mk fun j e' hj=>?_⟩
    rw [List.getElem?_map,List.getElem?_map] at hj
    rcases Nat.lt_or_ge j l0 with hjl | hjl
    ·rw [List.getElem?_range hjl] at hj
     simp only [Option.map_some,Option.some.injEq] at hj
     subst hj
     obtain ⟨c1,c2⟩:=(hex j).choose_spec hjl
     obtain ⟨_,e2,e3⟩:=World.cells?_some c1
     refine ⟨by rw [List.length_map,e2,hk],iU.mk fun i c hc=>?_⟩
     rw [List.getElem?_map] at hc
     cases hv:(hex j).choose[i]? with
     | none=>rw [hv] at hc;simp at hc
     | some u =>
      rw [hv] at hc
      simp only [Option.map_some,Option.some.injEq] at hc
      subst hc
      obtain ⟨k,hk'⟩:=aR7 c2 hv
      have hi:i<P.cellsOf e:=by
       rw [<-e2]
       rcases Nat.lt_or_ge i (hex j).choose.length with hh | hh
       ·exact hh
       ·rw [List.getElem?_eq_none hh] at hv;simp at hv
      have e4:=e3 i hi
      rw [hv] at e4
      refine ⟨u,aR6 hk',?_,by simp [RpD]⟩
      have:((Addr.mk b o none).add (j*P.cellsOf e)).add i=⟨b,o+j*ks.length+i,none⟩:=by
       rw [hk]
       by_cases h1:j*P.cellsOf e=0<;>by_cases h2:i=0<;>simp [Addr.add,h1,h2,Nat.add_assoc]
      rw [this] at e4
      exact aVO e4
    ·rw [List.getElem?_eq_none (by simpa using hjl)] at hj;simp at hj
theorem aYs {n:Int} (hw:(Lit.int .i64 n).wf=true):-9223372036854775808<=n/\n<=9223372036854775807:=by
 simp only [Lit.wf,Bool.and_eq_true,decide_eq_true_eq] at hw
 exact hw
theorem bC2 {n:Int} (hw:(Lit.int .u64 n).wf=true):0<=n/\n<=18446744073709551615:=by
 simp only [Lit.wf,Bool.and_eq_true,decide_eq_true_eq] at hw
 exact hw
theorem aUa:∀ {es:List (List Value)},(∀ x∈es,eM [.int .i64] x)->∃ l:List Int,es.map (fun x=>x.map AV.v)=l.map (fun n=>[AV.v (.int .i64 n)])/\∀ n∈l,-9223372036854775808<=n/\n<=9223372036854775807
 | [],_=>⟨[],rfl,by simp⟩
 | e::es,he=>by
  obtain ⟨l,h1,h2⟩:=aUa (es:=es) fun x hx=>he x (by simp [hx])
  have:=he e (by simp)
  simp only [eM,aBS] at this
  obtain ⟨v,r,rfl,⟨n,rfl,hw⟩,rfl⟩:=this
  refine ⟨n::l,by simp [h1],?_⟩
  intro m hm
  rcases List.mem_cons.1 hm with rfl | hm
  ·exact aYs hw
  ·exact h2 m hm
theorem aNN {W':World} (hl:laidOutB P=true) (hb:Below W.heap.size W W') {sp:Nat->Bool}:∀ {ts:List TypeId} {vs:List Value} {ds:List (DataW H)} {ps:List MemPlace},(∀ t∈ts,P.readableRec t=true/\t<P.types.size) ->
  DataW.TrodAll enc P W 0 (fun _=>true) true ts vs ds ps->(∀ x∈ps,x.block<W.heap.size)->(∀ x∈ps,sp x.block=true)->DataW.TrodAll enc P W' 0 sp true ts vs ds ps
 | [],[],[],ps,_,h,_,_=>by simpa [DataW.TrodAll] using h
 | t::ts,v::vs,d::ds,ps,ht,h,hlt,hs=>by
  simp only [DataW.TrodAll] at h ⊢
  obtain ⟨p,q,h1,h2,rfl⟩:=h
  obtain ⟨r1,r2⟩:=ht t (by simp)
  exact ⟨p,q,WideElems.Trod_stays hl r1 r2 h1 (fun x hx=>hb.same (hlt x (by simp [hx]))) (fun x hx=>hs x (by simp [hx])),
   aNN hl hb (fun t ht'=>ht t (by simp [ht'])) h2 (fun x hx=>hlt x (by simp [hx])) (fun x hx=>hs x (by simp [hx])),rfl⟩
 | [],_::_,_,_,_,h,_,_=>by simp [DataW.TrodAll] at h
 | [],[],_::_,_,_,h,_,_=>by simp [DataW.TrodAll] at h
 | _::_,[],_,_,_,h,_,_=>by simp [DataW.TrodAll] at h
 | _::_,_::_,[],_,_,h,_,_=>by simp [DataW.TrodAll] at h
theorem aVP {h':GH} {φ':Nat->Value} {T':Tab} {W':World} (hE:Evo h φ [] W h' φ' T' W'):Go.RowKit.Below W.heap.size W W' :=
 ⟨hE.os,hE.tape,hE.output,hE.size,fun k hk=>hE.frame k hk fun i o e=>by simp at e⟩
end
end Hud
end
