import Derived.Test.YthlndebkfkanbaaGreatDoorLib05
import Derived.Maps.RangeRun
import Derived.Lib.AppendStr
import Derived.Laws.Append
import Derived.OrdersIn
import Derived.TacticsIn
import Derived.RangeFuncRecord
set_option linter.all false
namespace Hud
open Go
section
section
variable {P:Program} {G:Nat→Option (List AV)} {h:GH} {φ:Nat→Value} {T:aQ} {w:World} {s:List (Nat×AV)} {a:Act}
def Wz {t kt et:TypeId} (ht:P.underlying t=some (.map kt et)) {ag:Bool} {ls:List LK} (hk:fZ P 20 kt=some (ag,ls)) {i0:TypeInfo} (hi0:P.info? et=some i0) {z:Value} (hz:i0.zero=some z)
  (hG:rD G h) (hI:Inv h φ w T) (hS:rP h φ T.length s a) {m k:Operand} {x:AV} {T':aQ} (he:bK T (bX G s) (.men ag ls z m k)=some (x,T')) :
  gY h φ T w ((Instr.mapEntry t (a.eval m) (a.eval k)).run P w) x T':=by
 have hm:=dA hG hS m;have hkv:=dA hG hS k;simp only [bK] at he;split at he
 ·rename_i i hev;rw [hev] at hm;simp only [Rp] at hm;split at he
  ·rename_i ag' ks vs bs cl kc hg hkc;split at he
   ·rename_i hag;subst hag;obtain ⟨hku,b,hb⟩:=Jl hkv hkc;have hck:∀ em,(Instr.checkKey em 10000 kt (a.eval k)).run P w=.ok () w:=λem=>by rw [hku];exact RB 20 kt ag ls hk 10000 (by omega) kc b hb
    obtain ⟨g,ens,h1,h2,h3,h4,h5,h6⟩:=Bd hI hg;rw [hm.2.1,h1];split at he
    ·rename_i hf;injection he with he;injection he with e1 e2;subst e1;subst e2;obtain ⟨out,f1,f2⟩:=wB (w:=w) hk (by decide) h4 hf;simp only [Cs] at f1;subst f1;rw [←hku] at f2;have hset:=Bf hI hg h1 h2 (ens':=ens.push { key:=a.eval k,val:=z,born:=cl }) (ks':=ks++[kc]) (vs':=vs++[.v z]) (bs':=bs++[cl]) (cl':=cl+1)
      (by simp [h4,hku]) (by simp [h5]) (by simp only [Array.toList_push,gQ,cN,eQ];exact h6.app (by simp [bW,Rp]))
     refine ⟨.tuple #[z,goInt cl],_,h,φ,by simp [Instr.mapEntry,run_underlying ht,kA h2,hck,f2,zeroValue,typeInfo,hi0,hz,qR _ h2],hset.2,hset.1,?_⟩;simp [Rp,bW,goInt]
    ·rename_i j hf;split at he
     ·rename_i x' b' hx' hb';injection he with he;injection he with e1 e2;subst e1;subst e2;obtain ⟨out,f1,f2⟩:=wB (w:=w) hk (by decide) h4 hf;obtain ⟨_,e,f3,f4⟩:=f1;subst f4;rw [←hku] at f2;simp only [E4] at f3;have hek:e.key=a.eval k:=by
       have hkj:(ks.map (iH ag))[j]?=some e.key:=by rw [←h4,eD,f3];rfl
       rw [eD] at hkj
       cases hkk:ks[j]? with
       | none=>simp [hkk] at hkj
       | some k' =>
        simp only [hkk,kZ,Option.some.injEq] at hkj;have:pZ ls kc k'=some true:=Kr ks 0 hf (by simpa using hkk);rw [←hkj,hku,Cr this]
      have f3':ens[j]?=some e:=by simpa using f3
      have rT:(Instr.keyThatStays e.key (a.eval k)).run P w=.ok (a.eval k) w:=by
       rw [hek,hku];exact RC hb (D6 (P:=P) (w:=w) 20 kt ag ls hk).1
      have hset:=Bf hI hg h1 h2 (ens':=ens.modify j λe=>{ e with key:=a.eval k }) (ks':=ks) (vs':=vs) (bs':=bs) (cl':=cl)
       (by rw [kU,Ct _ _ _ (λe' he'=>by rw [f3] at he';injection he' with he';subst he';exact hek.symm)];exact h4)
       (by rw [kU,vJ ens.toList j (λe=>{ e with key:=a.eval k }) (λ_=>rfl)];exact h5)
       (by
        rw [kU];have:(ens.toList.modify j λe=>{ e with key:=a.eval k }).map (·.val)=ens.toList.map (·.val):=by
         apply BV;intro n;simp only [eD,Qd];by_cases hjn:j=n
         ·subst hjn;simp only [if_true];cases ens.toList[j]?<;>rfl
         ·simp [hjn]
        rw [this]
        exact h6)
      have hTs:T.set i (some (.map ag ks vs bs cl))=T:=by
       have:=bD hg;apply BV;intro n;rw [Ec];split
       ·rename_i hin;subst hin;split
        ·exact this.symm
        ·rename_i hh;rw [gV (by omega)] at this;simp at this
       ·rfl
      rw [hTs] at hset;have hborn:e.born=b':=by
       have:(ens.toList.map (·.born))[j]?=some e.born:=by rw [eD,f3];rfl
       rw [h5,hb'] at this;exact (Option.some.inj this).symm
      have hval:Rp h φ T.length x' e.val:=by
       obtain ⟨u,hu1,hu2⟩:=h6.get hx';rw [eD,f3] at hu1;simp only [kZ,Option.some.injEq] at hu1;rw [hu1];exact hu2
      refine ⟨.tuple #[e.val,goInt e.born],_,h,φ,by simp [Instr.mapEntry,run_underlying ht,kA h2,hck,f2,f3',rT,qR _ h2],hset.2,hset.1,?_⟩;simp only [Rp,bW];exact ⟨_,rfl,_,_,rfl,hval,_,_,rfl,by simp [goInt,hborn],rfl⟩
     ·simp at he
    ·simp at he
   ·simp at he
  ·simp at he
 ·simp at he
def RF {bs:List Nat} {ens:List MapEntry} (h:ens.map (·.born)=bs) (n:Int):ens.findIdx? (λe=>(e.born:Int)==n)=bs.findIdx? (λ(b:Nat)=>(b:Int)==n):=by
 subst h;rw [List.findIdx?_map];rfl
def W0 {t:TypeId}
  (hG:rD G h) (hI:Inv h φ w T) (hS:rP h φ T.length s a) {m k q:Operand} {x:AV} {T':aQ} (he:bK T (bX G s) (.mst m k q)=some (x,T')) :
  ∃ w',(Instr.entryStore t (a.eval m) (a.eval k) (a.eval q)).run P w=.ok () w'∧x=.v undef∧Evo h φ T w h φ T' w'∧Inv h φ w' T':=by
 have hm:=dA hG hS m;have hq:=dA hG hS q;simp only [bK] at he;split at he
 ·rename_i i ki n hev hn;rw [hev] at hm;simp only [Rp] at hm;split at he
  ·rename_i ag ks vs bs cl hg;split at he
   ·rename_i j hj;injection he with he;injection he with e1 e2;subst e1;subst e2;obtain ⟨g,ens,h1,h2,h3,h4,h5,h6⟩:=Bd hI hg;have hset:=Bf hI hg h1 h2 (ens':=ens.modify j λe=>{ e with val:=a.eval q }) (ks':=ks) (vs':=vs.set j (bX G s q)) (bs':=bs) (cl':=cl)
     (by
      rw [kU];have:(ens.toList.modify j λe=>{ e with val:=a.eval q }).map (·.key)=ens.toList.map (·.key):=by
       apply BV;intro n;simp only [eD,Qd];by_cases hjn:j=n
       ·subst hjn;simp only [if_true];cases ens.toList[j]?<;>rfl
       ·simp [hjn]
      rw [this];exact h4)
     (by rw [kU,vJ ens.toList j (λe=>{ e with val:=a.eval q }) (λ_=>rfl)];exact h5)
     (by rw [kU,Cu ens.toList j (λe=>{ e with val:=a.eval q }) (a.eval q) (λ_=>rfl)];exact h6.setv hq)
    have hf:ens.findIdx? (λe=>(e.born:Int)==n)=some j:=by
     rw [show ens.findIdx? (λe=>(e.born:Int)==n)=ens.toList.findIdx? (λe=>(e.born:Int)==n) from by
      conv=>lhs;rw [show ens=ens.toList.toArray from by rw [U0]]
      rw [List.findIdx?_toArray],RF h5]
     exact hj
    refine ⟨_,?_,rfl,hset.2,hset.1⟩;rw [hm.2.1,h1,lB hG hS hn];simp [Instr.entryStore,kA h2,asInt,asIntOf,hf,qR _ h2]
   ·simp at he
  ·simp at he
 ·simp at he
def FV {α:Type} (xs:Array α) (j:Nat):(xs.eraseIdxIfInBounds j).toList=xs.toList.eraseIdx j:=by
 unfold Array.eraseIdxIfInBounds;split
 ·simp
 ·rename_i hh;rw [List.eraseIdx_of_length_le];simpa using hh
def Ar {α β:Type} (f:α→β):∀ (l:List α) (j:Nat),(l.eraseIdx j).map f=(l.map f).eraseIdx j
 | [],_=>rfl
 | _::l,0=>rfl
 | x::l,j+1=>by simp [Ar f l j]
def bW.erase {cs:List AV} {us:List Value} {n:Nat}:∀ {j:Nat},bW h φ n cs us→bW h φ n (cs.eraseIdx j) (us.eraseIdx j):=by
 induction cs generalizing us with
 | nil=>intro j e;simp only [bW] at e;subst e;simp [bW]
 | cons c cs ih =>
  intro j e;simp only [bW] at e;obtain ⟨u,us',rfl,h1,h2⟩:=e
  cases j with
  | zero=>simpa using h2
  | succ j=>simp only [aDw,bW];exact ⟨u,_,rfl,h1,ih h2⟩
def W3 {t kt et ty:TypeId} (ht:P.underlying t=some (.map kt et)) {ag:Bool} {ls:List LK} (hk:fZ P 20 kt=some (ag,ls)) {ts:Array TypeId} (hts:ts[0]?=some t)
  (hG:rD G h) (hI:Inv h φ w T) (hS:rP h φ T.length s a) {m k:Operand} {x:AV} {T':aQ} (he:bK T (bX G s) (.del ag ls m k)=some (x,T')) :
  gY h φ T w ((Builtin.delete_ ts ty #[a.eval m,a.eval k]).run P w) x T':=by
 have hm:=dA hG hS m;have hkv:=dA hG hS k;simp only [bK] at he;split at he
 ·rename_i i hev;rw [hev] at hm;simp only [Rp] at hm;split at he
  ·rename_i ag' ks vs bs cl kc hg hkc;split at he
   ·rename_i hag;subst hag;obtain ⟨hku,b,hb⟩:=Jl hkv hkc;have hck:∀ em,(Instr.checkKey em 10000 kt (a.eval k)).run P w=.ok () w:=λem=>by rw [hku];exact RB 20 kt ag ls hk 10000 (by omega) kc b hb
    obtain ⟨g,ens,h1,h2,h3,h4,h5,h6⟩:=Bd hI hg;rw [hm.2.1,h1];have hTs:T.set i (some (.map ag ks vs bs cl))=T:=by
     have:=bD hg;apply BV;intro n;rw [Ec];split
     ·rename_i hin;subst hin;split
      ·exact this.symm
      ·rename_i hh;rw [gV (by omega)] at this;simp at this
     ·rfl
    split at he
    ·rename_i hf;injection he with he;injection he with e1 e2;subst e1;subst e2;obtain ⟨out,f1,f2⟩:=wB (w:=w) hk (by decide) h4 hf;simp only [Cs] at f1;subst f1;rw [←hku] at f2;have hset:=Bf hI hg h1 h2 (ens':=ens) (ks':=ks) (vs':=vs) (bs':=bs) (cl':=cl) h4 h5 h6;rw [hTs] at hset;refine ⟨.tuple #[],_,h,φ,by simp [Builtin.delete_,hts,run_underlying ht,kA h2,hck,f2,qR _ h2],hset.2,hset.1,by simp [Rp]⟩
    ·rename_i j hf;injection he with he;injection he with e1 e2;subst e1;subst e2;obtain ⟨out,f1,f2⟩:=wB (w:=w) hk (by decide) h4 hf;obtain ⟨_,e,f3,f4⟩:=f1;subst f4;rw [←hku] at f2;have hset:=Bf hI hg h1 h2 (ens':=ens.eraseIdxIfInBounds j) (ks':=ks.eraseIdx j) (vs':=vs.eraseIdx j) (bs':=bs.eraseIdx j) (cl':=cl)
      (by rw [FV,Ar,h4,←Ar]) (by rw [FV,Ar,h5]) (by rw [FV,Ar];exact h6.erase)
     refine ⟨.tuple #[],_,h,φ,by simp [Builtin.delete_,hts,run_underlying ht,kA h2,hck,f2,qR _ h2],hset.2,hset.1,by simp [Rp]⟩
    ·simp at he
   ·simp at he
  ·simp at he
 ·simp at he
end
end
section
section
variable {P:Program} {G:Nat→Option (List AV)} {h:GH} {φ:Nat→Value} {T:aQ} {w:World} {s:List (Nat×AV)} {a:Act}
def Kv {T:aQ} {j:Nat} {x:Option AObj} (h:T[j]?=some x):T.set j x=T:=by
 apply BV;intro m;rw [Ec];by_cases hm:j=m
 ·subst hm;have:=(HM.1 h).1;rw [if_pos rfl,if_pos this,h]
 ·simp [hm]
def W4 {t kt et:TypeId} (ht:P.underlying t=some (.map kt et)) (hG:rD G h) (hI:Inv h φ w T) (hS:rP h φ T.length s a) {m:Operand} {x:AV} {T':aQ} (he:bK T (bX G s) (.rgm m)=some (x,T')) :
  gY h φ T w ((Instr.range t (a.eval m)).run P w) x T':=by
 have hm:=dA hG hS m;have key:∀ (o:AObj) (mo:Option Nat) (since st:Nat),vW h (We φ T.length (.pointer (some ⟨w.heap.size,0,none⟩))) (T.length+1) (w.alloc (.mapIter mo since #[] st)) T.length o →
   gY h φ T w (.ok (.pointer (some ⟨w.heap.size,0,none⟩)) (w.alloc (.mapIter mo since #[] st))) (.ptr T.length 0) (T++[some o]):=by
  intro o mo since st ho;have:=qL (w':=w.alloc (.mapIter mo since #[] st)) (o:=o) (v:=.pointer (some ⟨w.heap.size,0,none⟩)) hI rfl rfl rfl (by simp) (λb hb=>jN w _ b hb)
   (λg hg=>by simp only [mC,Option.some.injEq] at hg;omega) ho
  refine ⟨_,_,h,_,rfl,this.2,this.1,?_⟩;simp only [Rp];exact ⟨by simp,_,bE,rfl⟩
 simp only [bK] at he;split at he
 ·rename_i hev;injection he with he;injection he with e1 e2;subst e1;subst e2;rw [lB hG hS hev];have:(Instr.range t (.map none)).run P w=.ok (.pointer (some ⟨w.heap.size,0,none⟩)) (w.alloc (.mapIter none 0 #[] 0)):=by
   simp [Instr.range,run_underlying ht]
  rw [this];exact key _ none 0 0 ⟨w.heap.size,none,bE,heap_alloc_new w _,D8 hI,rfl⟩
 ·rename_i j hev;rw [hev] at hm;simp only [Rp] at hm;split at he
  ·rename_i ag ks vs bs cl hg;injection he with he;injection he with e1 e2;subst e1;subst e2;obtain ⟨g,ens,h1,h2,h3,h4,h5,h6⟩:=Bd hI hg;have:(Instr.range t (a.eval m)).run P w=.ok (.pointer (some ⟨w.heap.size,0,none⟩)) (w.alloc (.mapIter (some g) cl #[] cl)):=by
    rw [hm.2.1,h1];simp [Instr.range,run_underlying ht,kA h2]
   rw [this];exact key _ (some g) cl cl ⟨w.heap.size,some g,bE,heap_alloc_new w _,D8 hI,g,rfl,by omega,by rw [fK hm.1];exact h1⟩
  ·simp at he
 ·simp at he
def TO (hI:Inv h φ w T) {i:Nat} {m:Option Nat} {since:Nat} {seen:List Nat} {st:Nat} (hg:cR T i=some (.mit m since seen st)) :
  ∃ (g:Nat) (mo:Option Nat),φ i=.pointer (some ⟨g,0,none⟩)∧w.heap[g]?=some (.mapIter mo since seen.toArray st)∧h g=none ∧
   (match (generalizing:=false) m with | none=>mo=none | some j=>∃ b,mo=some b∧j<T.length∧φ j=.map (some b)):=hI.obj i _ (bD hg)
def aE9 {st:St} {K:AV→aQ→Prop} (hG:rD G h) (hI:Inv h φ w st.T) (hS:rP h φ st.T.length st.s a) {p:Operand} (hw:tI P G st (.nxt p) K) (ty:TypeId) :
  ∃ v w',(Instr.next (a.eval p) false ty).run P w=.ok v w'∧Ce h φ st.T w K v w':=by
 have hp:=dA hG hS p;simp only [tI] at hw;split at hw
 ·rename_i i hev;rw [hev] at hp;simp only [Rp] at hp;obtain ⟨hlt,g,hφ,hu⟩:=hp;split at hw
  ·rename_i since seen la hg;obtain ⟨g',mo,e1,e2,e3,e4⟩:=TO hI hg;simp only at e4;subst e4;rw [hφ] at e1;injection e1 with e1;injection e1 with e1;injection e1 with e1;subst e1;refine ⟨.tuple #[.bool false],w,?_,_,st.T,h,φ,hw,Evo.refl,hI,by simp [Rp]⟩;rw [hu];simp [Instr.next,getObj,Sem.run,e2,Sem.run_bind,Result.andThen]
  ·rename_i j since seen la hg;split at hw
   ·rename_i ag ks vs bs cl hm;obtain ⟨w1,w2,w3,w4⟩:=hw;obtain ⟨g',mo,e1,e2,e3,b,rfl,e5,e6⟩:=TO hI hg;rw [hφ] at e1;injection e1 with e1;injection e1 with e1;injection e1 with e1;subst e1;obtain ⟨gm,ens,m1,m2,m3,m4,m5,m6⟩:=Bd hI hm;rw [e6] at m1;injection m1 with m1;injection m1 with m1;subst m1;have hold:∀ x∈ens.toList,x.born<since:=λx hx=>w2 x.born (by rw [←m5];exact List.mem_map_of_mem hx);rcases run_next_at (P:=P) w ty g b since la seen.toArray ens cl e2 m2 hold w1 with ⟨n1,n2⟩ | ⟨e,n1,wx,n2,n3⟩
    ·refine ⟨_,w,by rw [hu];exact n2,_,st.T,h,φ,w3 ?_,Evo.refl,hI,by simp [Rp]⟩;intro b' hb';rw [←m5] at hb';obtain ⟨x,hx,rfl⟩:=dE.1 hb';have:=Uo n1;unfold leftOf at this;rw [Array.filter_eq_empty_iff] at this;have:=this x (by simpa using hx);simpa using this
    ·unfold leftOf at n1;simp only [Array.toList_filter,Ai] at n1;obtain ⟨n1,n4⟩:=n1;obtain ⟨ei,hei⟩:=NV n1;have hk:∃ k,ks[ei]?=some k∧e.key=iH ag k:=by
      have:(ens.toList.map (·.key))[ei]?=some e.key:=by rw [eD,hei];rfl
      rw [m4,eD] at this
      cases hks:ks[ei]? with
      | none=>simp [hks] at this
      | some k=>simp only [hks,kZ,Option.some.injEq] at this;exact ⟨k,rfl,this.symm⟩
     obtain ⟨k,hk1,hk2⟩:=hk;have hb:bs[ei]?=some e.born:=by rw [←m5,eD,hei];rfl
     have hvl:ei<vs.length:=by
      rw [m6.length,aL];have:=(HM.1 hei).1;exact this
     obtain ⟨u,hu1,hu2⟩:=m6.get (fV hvl);rw [eD,hei] at hu1;simp only [kZ,Option.some.injEq] at hu1;subst hu1;have hK:=w4 ei k _ e.born hk1 (fV hvl) hb (by simpa using n4);have hset:Inv h φ (Go.ChangeMaps.setBlock wx g (.mapIter (some b) since (seen.toArray.push e.born) cl)) (st.T.set i (some (.mit (some j) since (seen++[e.born]) cl))) ∧
       Evo h φ st.T w h φ (st.T.set i (some (.mit (some j) since (seen++[e.born]) cl))) (Go.ChangeMaps.setBlock wx g (.mapIter (some b) since (seen.toArray.push e.born) cl)):=by
      have hsz:wx.heap=w.heap∧wx.os=w.os∧wx.tape=w.tape∧wx.output=w.output∧w.drawn≤wx.drawn:=by
       rcases n2 with rfl | rfl
       ·exact ⟨rfl,rfl,rfl,rfl,fW _⟩
       ·exact ⟨rfl,rfl,rfl,rfl,Ni _⟩
      obtain ⟨s1,s2,s3,s4,s5⟩:=hsz;have hgl:g<w.heap.size:=by
       rcases bY g w.heap.size with hh | hh
       ·exact hh
       ·rw [GA hh] at e2;simp at e2
      refine D7 (w':=Go.ChangeMaps.setBlock wx g (.mapIter (some b) since (seen.toArray.push e.born) cl)) hI s2 s3 s4 (by simp [Go.ChangeMaps.setBlock,s1]) (bD hg) (λb' _ hne=>?_) ⟨g,some b,hφ,?_,e3,b,rfl,e5,e6⟩ s5
      ·have:b'≠g:=λhh=>hne (by rw [hφ,hh];rfl);simp [Go.ChangeMaps.setBlock,s1,aDk,Ne.symm this]
      ·simp [Go.ChangeMaps.setBlock,s1,hgl]
     refine ⟨_,_,by rw [hu];exact n3,_,_,h,φ,hK,hset.2,hset.1,?_⟩;rw [hk2];simp only [Rp,bW];rw [mA];exact ⟨_,rfl,_,_,rfl,rfl,_,_,rfl,rfl,_,_,rfl,hu2,rfl⟩
   ·exact hw.elim
  ·exact hw.elim
 ·exact hw.elim
def W5 (hG:rD G h) (hI:Inv h φ w T) (hS:rP h φ T.length s a) {p:Operand} {x:AV} {T':aQ} (he:bK T (bX G s) (.ent p)=some (x,T')) :
  T'=T∧∃ v,(Instr.entry (a.eval p)).run P w=.ok v w∧Rp h φ T.length x v:=by
 have hp:=dA hG hS p;simp only [bK] at he;split at he
 ·rename_i i hev;rw [hev] at hp;simp only [Rp] at hp;obtain ⟨hlt,g,hφ,hu⟩:=hp;split at he
  ·rename_i j since seen la hg;split at he
   ·rename_i ag ks vs bs cl b hm hb;split at he
    ·rename_i hcl;subst hcl;split at he
     ·rename_i e hf;split at he
      ·rename_i k v hk hv;injection he with he;injection he with e1 e2;subst e1;subst e2;obtain ⟨g',mo,e1,e2,e3,bm,rfl,e5,e6⟩:=TO hI hg;rw [hφ] at e1;injection e1 with e1;injection e1 with e1;injection e1 with e1;subst e1;obtain ⟨gm,ens,m1,m2,m3,m4,m5,m6⟩:=Bd hI hm;rw [e6] at m1;injection m1 with m1;injection m1 with m1;subst m1;have hf':ens.findIdx? (λx=>x.born==b)=some e:=by
        conv=>lhs;rw [show ens=ens.toList.toArray from by rw [U0]]
        rw [List.findIdx?_toArray];rw [←m5,List.findIdx?_map] at hf;exact hf
       have hes:∃ en,ens[e]?=some en∧ens.find? (λx=>x.born==b)=some en:=by
        rw [Array.findIdx?_eq_some_iff_getElem] at hf';obtain ⟨hlt',hp1,hp2⟩:=hf';refine ⟨ens[e],QW hlt',?_⟩;rw [Array.find?_eq_some_iff_getElem];exact ⟨hp1,e,hlt',rfl,λj hj=>by simpa using hp2 j hj⟩
       obtain ⟨en,hen,hfind⟩:=hes;have hen':ens.toList[e]?=some en:=by simpa using hen
       have hkey:en.key=iH ag k:=by
        have:(ens.toList.map (·.key))[e]?=some en.key:=by rw [eD,hen'];rfl
        rw [m4,eD,hk] at this;simp only [kZ,Option.some.injEq] at this;exact this.symm
       have hval:Rp h φ T.length v en.val:=by
        obtain ⟨u,hu1,hu2⟩:=m6.get hv;rw [eD,hen'] at hu1;simp only [kZ,Option.some.injEq] at hu1;rw [hu1];exact hu2
       have hback:seen.toArray.back?=some b:=by rw [List.back?_toArray];exact hb
       refine ⟨rfl,.tuple #[en.key,en.val],?_,?_⟩
       ·rw [hu];simp [Instr.entry,getObj,Sem.run_bind,Sem.run,e2,m2,Result.andThen,hback,hfind]
       ·rw [hkey];simp only [Rp,bW];exact ⟨_,rfl,_,_,rfl,rfl,_,_,rfl,hval,rfl⟩
      ·simp at he
     ·simp at he
    ·simp at he
   ·simp at he
  ·simp at he
 ·simp at he
def W6 (z:Array Value) (hz:0<z.size) (n:Nat):(Builtin.zeroCells z n).toList=(List.replicate n z.toList).flatten:=by
 have key:∀ n,(List.replicate n z.toList).flatten=GQ z.toList n:=by
  intro n
  induction n with
  | zero=>rfl
  | succ n ih=>simp [Qf,GQ,ih]
 rw [key];exact No z hz n
def RG (z:List Value) (h:GH):∀ n,cB h (List.replicate n (z.map AV.v)).flatten (List.replicate n z).flatten
 | 0=>by simp [cB]
 | n+1=>by
  rw [Qf,Qf,qP,qP];exact (TJ h z).app (RG z h n)
def W7 {t e ty:TypeId} (ht:P.underlying t=some (.slice e)) {i:TypeInfo} (hi:P.info? e=some i) {z:Value} (hz:i.zero=some z) (hzs:z.cells.size=i.size) (h0:0<i.size) (h1:(z.cells.toList.all λv=>jU (.v v))=true)
  (hG:rD G h) (hI:Inv h φ w T) (hS:rP h φ T.length s a) {p:Operand} {x:AV} {T':aQ} (he:bK T (bX G s) (.clr p i.size z.cells.toList)=some (x,T')) :
  gY h φ T w ((Builtin.clear_ #[t] ty #[a.eval p]).run P w) x T':=by
 have hp:=dA hG hS p;have none_run:∀ A c,(Builtin.clear_ #[t] ty #[.slice A 0 c]).run P w=.ok (.tuple #[]) w:=by
  intro A c;cases A<;>simp [Builtin.clear_,run_underlying ht]
 have hone:∀ n,∀ v∈(List.replicate n z.cells.toList).flatten,v.oneCell'=true:=by
  intro n v hv;obtain ⟨l,hl,hvl⟩:=IU.1 hv;rw [Qc hl] at hvl;have:=kY.1 h1 v hvl;exact Jf (h:=h) (φ:=φ) (n:=0) (x:=.v v) (by simp [Rp]) this
 have hflen:∀ n,(List.replicate n z.cells.toList).flatten.length=n*i.size:=by
  intro n;rw [List.length_flatten];simp [hzs]
 have run:∀ (g o n c:Nat) (cur:Array Value) (E:TypeId),0<n→w.heap[g]?=some (.cells cur E (0,0))→o+n*i.size≤cur.size →
   (Builtin.clear_ #[t] ty #[.slice (some ⟨g,o,none⟩) n c]).run P w=.ok (.tuple #[]) (w.setRow g (cur.toList.take o++(List.replicate n z.cells.toList).flatten++cur.toList.drop (o+n*i.size)).toArray):=by
  intro g o n c cur E hn hw hle;have rT:=run_storeCells_at P g o E (List.replicate n z.cells.toList).flatten 0 cur w hw (by rw [hflen];omega) (hone n);simp only [yN,hflen] at rT;obtain ⟨m,rfl⟩:∃ m,n=m+1:=⟨n-1,by omega⟩
  simp [Builtin.clear_,run_underlying ht,zeroValue,typeInfo,hi,hz,W6 z.cells (by omega),rT]
 have write:∀ (j k lo n c:Nat) (es:List (List AV)) (g:Nat),cR T j=some (.arr i.size es)→φ j=.slice (some ⟨g,0,none⟩) es.length c→lo+n≤es.length→(z.cells.toList.all λv=>bB (.v v))=true →
   gY h φ T w ((Builtin.clear_ #[t] ty #[.slice (some ⟨g,lo*i.size,none⟩) n k]).run P w) (.v (.tuple #[])) (T.set j (some (.arr i.size (es.take lo++List.replicate n (z.cells.toList.map .v)++es.drop (lo+n))))):=by
  intro j k lo n c es g hg hφ hle hcl;by_cases hn:n=0
  ·subst hn;rw [none_run];have:T.set j (some (.arr i.size (es.take lo++List.replicate 0 (z.cells.toList.map .v)++es.drop (lo+0))))=T:=by
    simp only [Yt,kT,yN,KO];exact Kv (bD hg)
   rw [this];exact ⟨_,w,h,φ,rfl,Evo.refl,hI,by simp [Rp]⟩
  ·obtain ⟨hl,h2 | ⟨g',c',cur,E,hφ',hw,h3,h4,h5,h6,h7⟩⟩:=wU hI hg
   ·obtain ⟨A,_,rfl⟩:=h2;simp at hle;omega
   ·rw [hφ] at hφ';injection hφ' with e1 e2 e3;injection e1 with e1;injection e1 with e1;subst e1;subst e3;have hl':∀ d∈es,d.length=i.size:=λd hd=>(hl d hd).1;have hmul:(lo+n)*i.size≤es.length*i.size:=Mr _ hle;have hmul2:es.length*i.size≤(c'+1)*i.size:=Mr _ h3;rw [CW] at hmul;rw [run g (lo*i.size) n k cur E (by omega) hw (by omega)];have hcur:cur.toList.length=(c'+1)*i.size:=by rw [show cur.toList.length=cur.size from FM,h5]
    have hnl:∀ d∈es.take lo++List.replicate n (z.cells.toList.map AV.v)++es.drop (lo+n),d.length=i.size∧∀ c∈d,bB c=true:=by
     intro d hd;simp only [eO] at hd;rcases hd with (hd | hd) | hd
     ·exact hl d (CS hd)
     ·rw [Qc hd];refine ⟨by simp [hzs],λc hc=>?_⟩;obtain ⟨v,hv,rfl⟩:=dE.1 hc;exact kY.1 hcl v hv
     ·exact hl d (IS hd)
    have hlen:(es.take lo++List.replicate n (z.cells.toList.map AV.v)++es.drop (lo+n)).length=es.length:=by
     simp only [dU,hZ,KI,tT];omega
    have hflat:(es.take lo++List.replicate n (z.cells.toList.map AV.v)++es.drop (lo+n)).flatten=es.flatten.take (lo*i.size)++(List.replicate n (z.cells.toList.map AV.v)).flatten++es.flatten.drop (lo*i.size+n*i.size):=by
     rw [NX,NX,Ha hl',HZ hl',CW]
    have:=Oq (o':=.arr i.size (es.take lo++List.replicate n (z.cells.toList.map AV.v)++es.drop (lo+n))) hI (bD hg) hw (by rw [hφ];rfl)
     (new:=(cur.toList.take (lo*i.size)++(List.replicate n z.cells.toList).flatten++cur.toList.drop (lo*i.size+n*i.size)).toArray)
     ⟨hnl,.inr ⟨g,c',_,E,by rw [hφ,hlen],setRow_heap w g cur _ E _ hw,by rw [hlen];exact h3,h4,by
      rw [IT];simp only [dU,hZ,tT,hflen,hcur];omega,h6,by
      rw [hflat,hlen];have:=Q3 cur.toList (List.replicate n z.cells.toList).flatten (lo*i.size) (n*i.size) (es.length*i.size) (by omega) (by omega) (hflen n);show cB h _ (List.take _ (cur.toList.take (lo*i.size)++(List.replicate n z.cells.toList).flatten++cur.toList.drop (lo*i.size+n*i.size)));rw [this]
      exact ((h7.take _).app (RG _ h n)).app (h7.drop _)⟩⟩
    exact ⟨_,_,h,φ,rfl,this.2,this.1,by simp [Rp]⟩
 simp only [bK] at he;split at he
 ·rename_i k hev;injection he with he;injection he with e1 e2;subst e1;subst e2;rw [hev] at hp;simp only [Rp,mB] at hp;obtain ⟨A,c,hu,_⟩:=hp;rw [hu];simp only [kI];rw [none_run];exact ⟨_,w,h,φ,rfl,Evo.refl,hI,by simp [Rp]⟩
 ·rename_i hev;injection he with he;injection he with e1 e2;subst e1;subst e2;rw [lB hG hS hev,none_run];exact ⟨_,w,h,φ,rfl,Evo.refl,hI,by simp [Rp]⟩
 ·rename_i j hev;rw [hev] at hp;simp only [Rp] at hp;split at he
  ·rename_i k' es hg;split at he
   ·rename_i hc;obtain ⟨rfl,hc1,hc2⟩:=hc;injection he with he;injection he with e1 e2;subst e1;subst e2;obtain ⟨_,h2 | ⟨g,c,cur,E,hφ,_⟩⟩:=wU hI hg
    ·obtain ⟨A,hA,rfl⟩:=h2;rw [hp.2.1,hA,none_run];have:T.set j (some (.arr i.size (List.replicate ([]:List (List AV)).length (z.cells.toList.map .v))))=T:=by
      simp only [kI,Yt];exact Kv (bD hg)
     rw [this];exact ⟨_,w,h,φ,rfl,Evo.refl,hI,by simp [Rp]⟩
    ·rw [hp.2.1,hφ];have:=write j (c+1) 0 es.length (c+1) es g hg hφ (by omega) hc2;simpa using this
   ·simp at he
  ·simp at he
 ·rename_i j k' lo m hev;rw [hev] at hp;simp only [Rp] at hp;split at he
  ·rename_i k'' es hg;split at he
   ·rename_i hc;obtain ⟨rfl,rfl,hc1,hc2,hc3⟩:=hc;injection he with he;injection he with e1 e2;subst e1;subst e2;obtain ⟨_,A,c,hu,_,_,h3⟩:=hp;rcases h3 with rfl | ⟨g,l,c',hφ,rfl,hle⟩
    ·rw [hu,none_run];have:T.set j (some (.arr i.size (es.take lo++List.replicate 0 (z.cells.toList.map .v)++es.drop (lo+0))))=T:=by
      simp only [Yt,kT,yN,KO];exact Kv (bD hg)
     rw [this];exact ⟨_,w,h,φ,rfl,Evo.refl,hI,by simp [Rp]⟩
    ·rw [hu];have hl:l=es.length:=by
      obtain ⟨_,h2 | ⟨g',c2,cur,E,hφ',_⟩⟩:=wU hI hg
      ·obtain ⟨A,hA,rfl⟩:=h2;rw [hφ] at hA;injection hA
      ·rw [hφ] at hφ';injection hφ'
     subst hl;exact write j c lo m c' es g hg hφ hc2 hc3
   ·simp at he
  ·simp at he
 ·simp at he
end
end
end Hud
section
namespace Hud
open Go Go.Lib
section
variable {P:Program} {G:Nat→Option (List AV)} {h:GH} {φ:Nat→Value} {w:World} {T:aQ} {s:List (Nat×AV)} {a:Act}
def aC1 {ev:Operand→AV} {x y:Operand} {r:AV} {T':aQ} (he:bK T ev (.apS x y)=some (r,T')) :
    ∃ S,ev y=.v (.string S) ∧
      ((ev x=.v (.slice none 0 0)∧S.size≤140737488355328∧S.size≤maxLen∧r=.own T.length∧T'=T++[some (.arr 1 (jH S))]) ∨
       ∃ i es,ev x=.own i∧cR T i=some (.arr 1 es)∧es.length+S.size≤140737488355328∧es.length+S.size≤maxLen∧r=.own T.length∧T'=T.set i none++[some (.arr 1 (es++jH S))]):=by
  simp only [bK] at he;split at he
  · rename_i S hS
    refine ⟨S,hS,?_⟩
    split at he
    · rename_i hx
      split at he
      · rename_i hc
        injection he with he;injection he with e1 e2
        exact .inl ⟨hx,hc.1,hc.2,e1.symm,e2.symm⟩
      · simp at he
    · rename_i i hx
      split at he
      · rename_i k' es hg
        split at he
        · rename_i hc
          obtain ⟨rfl,hc1,hc2⟩:=hc
          injection he with he;injection he with e1 e2
          exact .inr ⟨i,es,hx,hg,hc1,hc2,e1.symm,e2.symm⟩
        · simp at he
      · simp at he
    · simp at he
  · simp at he
def RH (n:Nat):∀ l:List UInt8,cB h (l.map λb=>AV.v (.int .u8 (b.toNat:Int))) (l.map λb=>Value.int .u8 (b.toNat:Int))
 | []=>by simp [cB]
 | x::l=>by
  simp only [cN,cB];exact ⟨_,_,rfl,by simp [mB],RH n l⟩
def W8 {n:Nat} (S:ByteArray):BU h φ n true (jH S).flatten (strCells S):=by
 have e:(jH S).flatten=S.data.toList.map λb=>AV.v (.int .u8 (b.toNat:Int)):=by
  unfold jH
  induction S.data.toList with
  | nil=>rfl
  | cons x l ih=>simp only [cN,qP,ih];rfl
 rw [e];show cB h _ _;exact RH 0 _
def ZX (w:World) {t u e ty:TypeId} (ht:P.underlying t=some (.slice e)) (hut:P.underlying u=some .string) {i:TypeInfo} (hi:P.info? e=some i) (A:Option Addr) (c:Nat) {S:ByteArray} (hS:S.size=0) (hA:A=none∨A.isSome=true) :
  (Builtin.append_ #[t,u] ty #[.slice A 0 c,.string S]).run P w=.ok (.slice A 0 c) w:=by
 have hf:=run_firstCells_string (P:=P) w i.size S;have hc:strCells S=[]:=CR (by rw [strCells_length,hS]);rw [hS,hc] at hf;cases A<;>simp [Builtin.append_,run_underlying ht,run_underlying hut,Go.sizeOf,typeInfo,hi,Builtin.lenOf,hS,hf,storeCells]
def nilS (w:World) {t u e ty:TypeId} (ht:P.underlying t=some (.slice e)) (hut:P.underlying u=some .string) {i:TypeInfo} (hi:P.info? e=some i) {z:Value} (hz:i.zero=some z) (S:ByteArray) (h0:0<S.size) (h63:(S.size:Int)≤9223372036854775807) (h48:S.size*i.bytes≤281474976710656) :
  (Builtin.append_ #[t,u] ty #[.slice none 0 0,.string S]).run P w =
   .ok (.slice (some ⟨w.heap.size,0,none⟩) S.size (grownCap w S.size 0 e)) (w.drew.alloc (.cells ((strCells S).toArray++Builtin.zeroCells z.cells (grownCap w S.size 0 e-S.size)) e)):=by
 rw [run_append_nil_string w t u ty e i z ht hut hi hz S h0 h63 h48];congr 3;apply Array.ext';simp [strCells]
set_option maxHeartbeats 1000000
def W9 {t u e ty:TypeId} (ht:P.underlying t=some (.slice e)) (hut:P.underlying u=some .string) {i:TypeInfo} (hi:P.info? e=some i) {z:Value} (hz:i.zero=some z) (hzs:z.cells.size=i.size) (hs1:i.size=1) (hby:i.bytes=1)
    (hG:rD G h) (hI:Inv h φ w T) (hS:rP h φ T.length s a) {p q:Operand} {x:AV} {T':aQ} (he:bK T (bX G s) (.apS p q)=some (x,T')) :
    gY h φ T w ((Builtin.append_ #[t,u] ty #[a.eval p,a.eval q]).run P w) x T':=by
  have h0:0<i.size:=by omega
  obtain ⟨S,hqv,hcase0⟩:=aC1 he;have hp:=dA hG hS p;have hu:a.eval q=.string S:=lB hG hS hqv;obtain ⟨new,hnewd⟩:∃ new,new=jH S:=⟨_,rfl⟩
  obtain ⟨news,hnews⟩:∃ news,news=strCells S:=⟨_,rfl⟩
  obtain ⟨fb,hfb⟩:∃ fb:Bool,fb=true:=⟨_,rfl⟩
  have hSl:new.length=S.size:=by rw [hnewd];simp [jH]
  have hnew:∀ d∈new,d.length=i.size∧∀ c∈d,Mv fb c=true:=by
    intro d hd;rw [hnewd] at hd;simp only [jH,dE] at hd;obtain ⟨x,_,rfl⟩:=hd;refine ⟨by rw [hs1];rfl,λc hc=>?_⟩;rw [gZ.1 hc,hfb];rfl
  have hnl:BU h φ T.length fb new.flatten news:=by
    rw [hnewd,hnews,hfb];exact W8 S
  have hcase:(bX G s p=.v (.slice none 0 0)∧new.length*i.bytes≤140737488355328∧new.length≤maxLen∧x=.own T.length∧T'=T++[some (iA fb i.size new)]) ∨
       ∃ j es b',bX G s p=.own j∧pO (cR T j)=some (i.size,es,b')∧(es.length+new.length)*i.bytes≤140737488355328∧es.length+new.length≤maxLen∧x=.own T.length∧T'=T.set j none++[some (iA (fb&&b') i.size (es++new))]:=by
    rw [hs1,hby,hfb,hSl,hnewd];rcases hcase0 with ⟨e1,e2,e3,e4,e5⟩ | ⟨j,es,e1,e2,e3,e4,e5,e6⟩
    · exact .inl ⟨e1,by omega,e3,e4,e5⟩
    · exact .inr ⟨j,es,true,e1,by rw [e2];rfl,by omega,e4,e5,e6⟩
  have hnlen:news.length=new.length*i.size:=by rw [←hnl.length,xD λd hd=>(hnew d hd).1]
  have hone:∀ v∈news,v.oneCell'=true:=by
    intro v hv;obtain ⟨j,hj⟩:=NV hv;have hjl:j<new.flatten.length:=by
      rw [hnl.length];rcases bY j news.length with hh | hh
      · exact hh
      · rw [gV hh] at hj;simp at hj
    obtain ⟨u,h1,h2⟩:=hnl.toL.get (fV hjl);rw [hj] at h1;injection h1 with h1;subst h1;obtain ⟨d,hd,hcd⟩:=IU.1 (jY hjl);exact Jf h2 (Jg ((hnew d hd).2 _ hcd))
  have cap_cells:∀ (m old:Nat) (xs:List Value),xs.length=m*i.size→m≤maxLen →
      (xs.toArray++Builtin.zeroCells z.cells (grownCap w m old e-m)).size=grownCap w m old e*i.size∧(xs.toArray++Builtin.zeroCells z.cells (grownCap w m old e-m)).toList.take (m*i.size)=xs∧m≤grownCap w m old e∧grownCap w m old e≤maxLen:=by
    intro m old xs hxs hm;have hge:=grownCap_ge w m old e;refine ⟨?_,?_,hge,grownCap_le_maxLen w m old e hm⟩
    · simp only [Array.size_append,IT,size_zeroCells,hzs,hxs,←CW]
      congr 1
      omega
    · simp only [Qe]
      rw [←hxs]
      exact VI
  rcases hcase with ⟨hx,hb,hm,rfl,rfl⟩ | ⟨j,es,b',hx,hg,hb,hm,rfl,rfl⟩
  ·
    rw [lB hG hS hx,hu]
    by_cases hn0:new=[]
    · have hs0:S.size=0:=by rw [←hSl,hn0];rfl
      rw [hn0]
      have:(Builtin.append_ #[t,u] ty #[.slice none 0 0,.string S]).run P w=.ok (.slice none 0 0) w:=ZX w ht hut hi none 0 hs0 (.inl rfl)
      rw [this]
      have:=qL (w':=w) (o:=iA fb i.size []) (v:=.slice none 0 0) hI rfl rfl rfl (fW _) (λ_ _=>rfl) (λg hg=>by simp [mC] at hg) (lC.2 ⟨by simp,.inl ⟨none,bE,rfl⟩⟩)
      refine ⟨_,w,h,_,rfl,this.2,this.1,?_⟩
      simp only [Rp]
      exact ⟨by simp,bE.symm,_,_,_,rfl⟩
    · have hpos:0<new.length:=CT.2 hn0
      have hr:=nilS (P:=P) w (ty:=ty) ht hut hi hz S (by omega) (by unfold maxLen at hm;omega) (by rw [hby];omega)
      rw [←hSl,←hnews] at hr
      rw [hr]
      obtain ⟨c1,c2,c3,c4⟩:=cap_cells new.length 0 news hnlen hm
      exact qB (w1:=w.drew) hI rfl rfl rfl rfl hnew rfl c3 c4 c1 (by rw [c2];exact hnl) e
  ·
    rw [hx] at hp
    simp only [Rp] at hp
    obtain ⟨hl,h1 | ⟨g,cap,cur,E,hφ,hw,h2,h3,h4,h5,h6⟩⟩:=oV hI hg
    ·
      obtain ⟨A0,hφ,rfl⟩:=h1
      rw [hp.2.1,hφ,hu]
      simp only [FQ,kI,rW] at hb hm ⊢
      obtain ⟨hI',hE'⟩:=uP hI j
      have comb:∀ {r:Result Value},gY h φ (T.set j none) w r (.own (T.set j none).length) (T.set j none++[some (iA (fb&&b') i.size new)])→gY h φ T w r (.own T.length) (T.set j none++[some (iA (fb&&b') i.size new)]):=by
        rintro r ⟨v,w',h',φ',m1,m2,m3,m4⟩;rw [mA] at m4;exact ⟨v,w',h',φ',m1,hE'.trans m2,m3,m4⟩
      apply comb
      by_cases hn0:new=[]
      · have hs0:S.size=0:=by rw [←hSl,hn0];rfl
        rw [hn0]
        have:(Builtin.append_ #[t,u] ty #[.slice A0 0 0,.string S]).run P w=.ok (.slice A0 0 0) w:=ZX w ht hut hi A0 0 hs0 (by cases A0;exact .inl rfl;exact .inr rfl)
        rw [this]
        have:=qL (w':=w) (o:=iA (fb&&b') i.size []) (v:=.slice A0 0 0) hI' rfl rfl rfl (fW _) (λ_ _=>rfl) (λg hg=>by simp [mC] at hg) (lC.2 ⟨by simp,.inl ⟨A0,bE,rfl⟩⟩)
        refine ⟨_,w,h,_,rfl,this.2,this.1,?_⟩
        simp only [Rp]
        exact ⟨by simp,bE.symm,_,_,_,rfl⟩
      · have hpos:0<new.length:=CT.2 hn0
        cases A0 with
          | none =>
            have hr:=nilS (P:=P) w (ty:=ty) ht hut hi hz S (by omega) (by unfold maxLen at hm;omega) (by rw [hby];omega)
            rw [←hSl,←hnews] at hr
            rw [hr]
            obtain ⟨c1,c2,c3,c4⟩:=cap_cells new.length 0 news hnlen hm
            exact qB (w1:=w.drew) hI' rfl rfl rfl rfl (λd hd=>⟨(hnew d hd).1,λc hc=>oD ((hnew d hd).2 c hc) (λhh=>(eM _ _ ▸ hh:fb=true∧b'=true).1)⟩) rfl c3 c4 c1 (by rw [c2,mA];exact hnl.weaken λhh=>(eM _ _ ▸ hh:fb=true∧b'=true).1) e
          | some a0 =>
            have hr:=run_append_grow_string (P:=P) w t u ty e i z ht hut hi hz a0 0 0 [] (by simp) (λj v hj=>by simp at hj) S (by omega) (by unfold maxLen at hm;omega) (growslice_fits (by omega) (by rw [hby];omega))
            rw [←hSl,←hnews] at hr
            rw [hr]
            obtain ⟨c1,c2,c3,c4⟩:=cap_cells new.length 0 news hnlen hm
            simp only [rW,U6] at *
            exact qB (w1:=w.drew) hI' rfl rfl rfl rfl (λd hd=>⟨(hnew d hd).1,λc hc=>oD ((hnew d hd).2 c hc) (λhh=>(eM _ _ ▸ hh:fb=true∧b'=true).1)⟩) rfl c3 c4 c1 (by rw [c2,mA];exact hnl.weaken λhh=>(eM _ _ ▸ hh:fb=true∧b'=true).1) e
    · rw [hp.2.1,hφ,hu]
      have holen:(cur.toList.take (es.length*i.size)).length=es.length*i.size:=by rw [←h6.length,xD λd hd=>(hl d hd).1]
      have hbb:(fb&&b')=true→fb=true∧b'=true:=λhh=>by simpa using hh
      have hboth:∀ d∈es++new,d.length=i.size∧∀ c∈d,Mv (fb&&b') c=true:=by
        intro d hd;rcases eO.1 hd with hd | hd
        · exact ⟨(hl d hd).1,λc hc=>oD ((hl d hd).2 c hc) λhh=>(hbb hh).2⟩
        · exact ⟨(hnew d hd).1,λc hc=>oD ((hnew d hd).2 c hc) λhh=>(hbb hh).1⟩
      have hbothL:BU h φ T.length (fb&&b') (es++new).flatten (cur.toList.take (es.length*i.size)++news):=by rw [NX];exact (h6.weaken λhh=>(hbb hh).2).app (hnl.weaken λhh=>(hbb hh).1)
      by_cases hroom:es.length+new.length≤cap+1
      ·
        have hf:(Builtin.firstCells i.size new.length (.string S)).run P w=.ok news.toArray w:=by rw [hSl,hnews];exact run_firstCells_string w i.size S
        have hroom2:es.length+S.size≤cap+1:=by omega
        rw [hSl] at hf
        have hfit:es.length*i.size+news.length≤cur.size:=by rw [hnlen,h4,←CW];exact Mr _ hroom
        have rT:=run_storeCells_at P g (es.length*i.size) E news 0 cur w hw (by simpa using hfit) hone
        simp only [yN] at rT
        have hrun:(Builtin.append_ #[t,u] ty #[.slice (some ⟨g,0,none⟩) es.length (cap+1),.string S]).run P w =
            .ok (.slice (some ⟨g,0,none⟩) (es.length+new.length) (cap+1)) (w.setRow g (cur.toList.take (es.length*i.size)++news++cur.toList.drop (es.length*i.size+news.length)).toArray):=by
          rw [hSl];simp [Builtin.append_,run_underlying ht,run_underlying hut,Go.sizeOf,typeInfo,hi,Builtin.lenOf,hroom2,hf,gB,rT]
        rw [hrun]
        have hI1:=uP hI j
        have hgt:=bD (Ba hg)
        refine ⟨_,_,h,We φ T.length (.slice (some ⟨g,0,none⟩) (es.length+new.length) (cap+1)),rfl,?_,?_,?_⟩
        · refine ⟨rfl,rfl,rfl,by simp,λb hb hne=>setRow_other w g b _ λe=>hne j _ hgt (by rw [hφ,e];rfl),Ad.refl h,λ_ _ e=>.inl e,λm hm=>fK hm,λm o b em hbl=>?_,by simp,fW _⟩
          rcases iZ em with ⟨hm',em'⟩ | ⟨rfl,em'⟩
          · rw [mA] at hm'
            rw [fK hm'] at hbl
            rcases kF em' with ⟨_,e'⟩ | ⟨_,e'⟩
            · simp at e'
            · exact .inr ⟨m,o,e',hbl⟩
          · rw [mA,bE] at hbl
            simp only [mC,Option.some.injEq] at hbl
            exact .inr ⟨j,_,hgt,by rw [hφ];simp [mC,hbl]⟩
        · refine ⟨λb cs eb=>?_,λm o em=>?_,λm m' o o' b em em' hbm hbm'=>?_⟩
          · obtain ⟨E',fr,hb'⟩:=hI.gh b cs eb
            refine ⟨E',fr,?_⟩
            rw [setRow_other w g b _ λe=>by subst e;rw [h5] at eb;simp at eb]
            exact hb'
          · rcases iZ em with ⟨hm',em'⟩ | ⟨rfl,em'⟩
            · rw [mA] at hm'
              rcases kF em' with ⟨_,e'⟩ | ⟨hne,e'⟩
              · simp at e'
              · rw [dU,mA]
                have h7:=hI.obj m o e'
                refine oC h7 (Ad.refl h) (by simp) (λj hj=>fK hj) hm' λb hb'=>?_
                obtain ⟨h8,h9⟩:=gM h7 hb'
                refine ⟨setRow_other w g b _ λe=>hne (hI.dis m j o _ b e' hgt hb' (by rw [hφ,e];rfl)),h9⟩
            · injection em' with em'
              subst em'
              rw [mA,dU,mA]
              refine lC.2 ⟨hboth,.inr ⟨g,cap,_,E,by rw [bE,dU],setRow_heap w g cur _ E _ hw,by rw [dU];exact hroom,h3,?_,h5,?_⟩⟩
              · rw [IT]
                simp only [dU,tT,holen]
                rw [show cur.toList.length=cur.size from FM,←h4]
                omega
              · have hlen2:(cur.toList.take (es.length*i.size)++news).length=(es++new).length*i.size:=by rw [dU,holen,hnlen,dU,CW]
                show BU h _ _ (fb&&b') _ (List.take _ (cur.toList.take (es.length*i.size)++news++cur.toList.drop (es.length*i.size+news.length)))
                rw [←hlen2,VI]
                exact hbothL.mono (Ad.refl h) (by simp) λi hi=>fK hi
          · rcases iZ em with ⟨hm1,em1⟩ | ⟨rfl,em1⟩<;>rcases iZ em' with ⟨hm2,em2⟩ | ⟨rfl,em2⟩
            · rw [mA] at hm1 hm2
              rw [fK hm1] at hbm;rw [fK hm2] at hbm'
              exact hI1.1.dis m m' o o' b em1 em2 hbm hbm'
            · rw [mA] at hm1 hbm'
              rw [fK hm1] at hbm;rw [bE] at hbm'
              simp only [mC,Option.some.injEq] at hbm'
              rcases kF em1 with ⟨_,e'⟩ | ⟨hne,e'⟩
              · simp at e'
              · exact absurd (hI.dis m j o _ b e' hgt hbm (by rw [hφ,←hbm'];rfl)) hne
            · rw [mA] at hm2 hbm
              rw [fK hm2] at hbm';rw [bE] at hbm
              simp only [mC,Option.some.injEq] at hbm
              rcases kF em2 with ⟨_,e'⟩ | ⟨hne,e'⟩
              · simp at e'
              · exact absurd (hI.dis m' j o' _ b e' hgt hbm' (by rw [hφ,←hbm];rfl)) hne
            · rfl
        · simp only [Rp]
          rw [dU,mA]
          exact ⟨by simp,by rw [bE],_,_,_,rfl⟩
      ·
        have hne:new≠[]:=by rintro rfl;simp at hroom;omega
        · have holds:∀ j v,(cur.toList.take (es.length*i.size))[j]?=some v→w.cell? ((⟨g,0,none⟩:Addr).add j)=some v:=by
            intro j v hj;rw [gB,BZ hw];rw [AI] at hj;split at hj
            · rw [←hj];simp
            · simp at hj
          have hr:=run_append_grow_string (P:=P) w t u ty e i z ht hut hi hz ⟨g,0,none⟩ es.length (cap+1) _ holen holds S (by omega) (by unfold maxLen at hm;omega) (growslice_fits (by omega) (by rw [←hSl];exact hb))
          rw [←hSl,←hnews] at hr
          rw [hr]
          obtain ⟨hI',hE'⟩:=uP hI j
          have comb:∀ {r:Result Value},gY h φ (T.set j none) w r (.own (T.set j none).length) (T.set j none++[some (iA (fb&&b') i.size (es++new))])→gY h φ T w r (.own T.length) (T.set j none++[some (iA (fb&&b') i.size (es++new))]):=by
            rintro r ⟨v,w',h',φ',m1,m2,m3,m4⟩;rw [mA] at m4;exact ⟨v,w',h',φ',m1,hE'.trans m2,m3,m4⟩
          apply comb
          have hxs:(cur.toList.take (es.length*i.size)++news).length=(es.length+new.length)*i.size:=by rw [dU,holen,hnlen,CW]
          obtain ⟨c1,c2,c3,c4⟩:=cap_cells (es.length+new.length) (cap+1) (cur.toList.take (es.length*i.size)++news) hxs hm
          have heq:(cur.toList.take (es.length*i.size)).toArray++news.toArray=(cur.toList.take (es.length*i.size)++news).toArray:=by simp
          rw [heq]
          exact qB (w1:=w.drew) hI' rfl rfl rfl rfl hboth (by simp) c3 c4 c1 (by rw [c2,mA];exact hbothL) e
end
end Hud
end
namespace Hud
open Go
section
def Jm (P:Program) (o:Oper):Option HOp :=
 match o.op with
 | .makeMap t none=>match P.underlying t with
  | some (.map kt _)=>match fZ P 20 kt with
   | some (ag,_)=>some (.mkm ag)
   | none=>none
  | _=>none
 | .lookup t m k ok=>match P.underlying t with
  | some (.map kt et)=>match fZ P 20 kt,P.info? et with
   | some (ag,ls),some i=>match i.zero with
    | some z=>some (.lku ag ls z m k ok)
    | none=>none
   | _,_=>none
  | _=>none
 | .mapUpdate t m k x=>match P.underlying t with
  | some (.map kt _)=>match fZ P 20 kt with
   | some (ag,ls)=>some (.mup ag ls m k x)
   | none=>none
  | _=>none
 | .insert t m k x=>match P.underlying t with
  | some (.map kt _)=>match fZ P 20 kt with
   | some (ag,ls)=>some (.mup ag ls m k x)
   | none=>none
  | _=>none
 | .call c=>match c.callee,c.args.toList,c.argTypes[0]? with
  | .builtin .len,[x],some t=>match P.underlying t with
   | some (.map _ _)=>some (.lenM x)
   | _=>none
  | _,_,_=>none
 | _=>none
def Jn (P:Program) (o:Oper):Option HOp :=
 match o.op with
 | .buildSlice t len parts=>match P.underlying t with
  | some (.slice e)=>match P.info? e with
   | some i=>if len=0∧parts.size=0 then some (.bsl i.size [] [] 0) else none
   | none=>none
  | _=>none
 | .makeSlice t x y=>match P.underlying t with
  | some (.slice e)=>match P.info? e with
   | some i=>match i.zero with
    | some z=>if z.cells.size=i.size∧0<i.size∧(z.cells.toList.all λx=>bB (.v x))=true then some (.mks i.size z.cells.toList i.bytes x y) else none
    | none=>none
   | none=>none
  | _=>none
 | .convert src d x=>match P.underlying src,P.underlying d with
  | some .string,some (.slice e)=>match P.underlying e with
   | some (.int .u8)=>some (.s2b x)
   | _=>none
  | some (.slice e),some .string=>match P.underlying e with
   | some (.int .u8)=>some (.b2s x)
   | _=>none
  | some (.slice e),some (.slice _)=>if src=d then (match P.underlying e with
   | some (.int .u8)=>some (.b2b x)
   | _=>none) else none
  | _,_=>none
 | .slice t x lo (some hi) (some mx)=>match P.underlying t with
  | some (.slice e)=>match mU P e with
   | some k=>some (.slx x lo hi mx k)
   | none=>none
  | _=>none
 | .mapEntry t m k=>match P.underlying t with
  | some (.map kt et)=>match fZ P 20 kt,P.info? et with
   | some (ag,ls),some i=>match i.zero with
    | some z=>some (.men ag ls z m k)
    | none=>none
   | _,_=>none
  | _=>none
 | .entryStore _ m s x=>some (.mst m s x)
 | .call c=>match c.callee,c.args.toList,c.argTypes[0]? with
  | .builtin .delete,[m,k],some t=>match P.underlying t with
   | some (.map kt _)=>match fZ P 20 kt with
    | some (ag,ls)=>some (.del ag ls m k)
    | none=>none
   | _=>none
  | _,_,_=>none
 | _=>none
def Jo (P:Program) (o:Oper):Option HOp :=
 match o.op with
 | .makeFunc (.func f) first caps=>some (.bmo f first.size (first.toList++caps.toList))
 | .range t m=>match P.underlying t with
  | some (.map _ _)=>some (.rgm m)
  | _=>none
 | .next it false=>some (.nxt it)
 | .entry it=>some (.ent it)
 | .panic _=>some .bad
 | .makeInterface _ _=>some .bad
 | .call c=>match c.callee,c.args.toList,c.argTypes.toList with
  | .builtin .clear,[x],[t]=>match P.underlying t with
   | some (.slice e)=>match P.info? e with
    | some i=>match i.zero with
     | some z=>if z.cells.size=i.size∧0<i.size∧(z.cells.toList.all λv=>jU (.v v))=true then some (.clr x i.size z.cells.toList) else none
     | none=>none
    | none=>none
   | _=>none
  | _,_,_=>none
 | _=>none
def Jp (P:Program) (o:Oper):Option HOp :=
 match o.op with
 | .binOp op t x y _ =>
  if op=.eql∨op=.neq then
   match P.underlying t with
   | some (.array n e)=>match P.underlying e with
    | some (.int k)=>if P.cellsOf e=1∧(P.info? e).isSome∧Eg P e=some none∧P.eqGuardType P.depth t=false then some (.eqa (op==.neq) (List.replicate n (.int k)) x y) else none
    | _=>none
   | _=>none
  else none
 | .build t parts=>match P.underlying t,P.info? t with
  | some (.array _ e),some i=>match i.zero with
   | some z=>if parts.toList.length=0∧(P.info? e).isSome then some (.bld z.cells.toList []) else none
   | none=>none
  | _,_=>none
 | .call c=>match c.callee,c.args.toList,c.argTypes.toList with
  | .builtin .append,[x,y],[t,u]=>match P.underlying t,P.underlying u with
   | some (.slice e),some .string=>match P.info? e with
    | some i=>match i.zero with
     | some z=>if z.cells.size=i.size∧i.size=1∧i.bytes=1 then some (.apS x y) else none
     | none=>none
    | none=>none
   | _,_=>none
  | _,_,_=>none
 | _=>none
def FW (P:Program) (o:Oper):Option HOp :=
 match fH P o with
 | some h=>some h
 | none=>match Jk P o with
  | some h=>some h
  | none=>match Jm P o with
   | some h=>some h
   | none=>match Jn P o with
    | some h=>some h
    | none=>match Jo P o with
     | some h=>some h
     | none=>Jp P o
section
variable {P:Program} {G:Nat→Option (List AV)} {h:GH} {φ:Nat→Value} {w:World} {a:Act} {st:St} {K:AV→aQ→Prop} {next:Act→World→Prop} {Q:Exit→Act→World→Prop}
def XA {o:Oper} {ho:HOp} (hc:Jm P o=some ho) (hw:tI P G st ho K) (hG:rD G h) (hI:Inv h φ w st.T) (hS:rP h φ st.T.length st.s a)
  (hn:∀ v w',Ce h φ st.T w K v w'→next (a.put o.dst v) w'):oW P o a w next:=by
 have pure_op:∀ {sv:Sem Value} (_:execOp a.eval o=(do pure (.value (←sv)))) (_:(∀ f l,ho≠.call f l)∧(∀ p,ho≠.nxt p)∧∀ n k x,ho≠.nilS n k x) (_:∀ x T',bK st.T (bX G st.s) ho=some (x,T')→T'=st.T∧∃ v,sv.run P w=.ok v w∧Rp h φ st.T.length x v),oW P o a w next:=by
  intro sv he hcall hrun;obtain ⟨x,T',e,hk⟩:=Eh hcall hw;obtain ⟨rfl,v,h1,h2⟩:=hrun x T' e;exact rZ he h1 (hn v w (qC hI h2 hk))
 have make_op:∀ {sv:Sem Value} (_:execOp a.eval o=(do pure (.value (←sv)))) (_:(∀ f l,ho≠.call f l)∧(∀ p,ho≠.nxt p)∧∀ n k x,ho≠.nilS n k x) (_:∀ x T',bK st.T (bX G st.s) ho=some (x,T')→gY h φ st.T w (sv.run P w) x T'),oW P o a w next:=by
  intro sv he hcall hrun;obtain ⟨x,T',e,hk⟩:=Eh hcall hw;obtain ⟨v,w',h1,h2⟩:=Ao (hrun x T' e) hk;exact rZ he h1 (hn v w' h2)
 have unit_op:∀ {su:Sem Unit} (_:execOp a.eval o=(do su;pure .skip)) (_:(∀ f l,ho≠.call f l)∧(∀ p,ho≠.nxt p)∧∀ n k x,ho≠.nilS n k x) (_:∀ x T',bK st.T (bX G st.s) ho=some (x,T')→∃ w',su.run P w=.ok () w'∧x=.v undef∧Evo h φ st.T w h φ T' w'∧Inv h φ w' T'),oW P o a w next:=by
  intro su he hcall hrun;obtain ⟨x,T',e,hk⟩:=Eh hcall hw;obtain ⟨w',h1,rfl,h2,h3⟩:=hrun x T' e;unfold oW;rw [he];simp only [Sem.run_bind,h1,Result.andThen_ok,Sem.run_pure];exact hn undef w' ⟨_,T',h,φ,hk,h2,h3,by simp [Rp]⟩
 obtain ⟨dst,op,ty,pos,after,guard⟩:=o;unfold Jm at hc;simp only at hc;split at hc
 ·rename_i t;split at hc
  ·rename_i kt et ht;split at hc
   ·rename_i ag ls hk;injection hc with hc;subst hc;refine make_op (sv:=Instr.makeMap t none) rfl (by simp) λx T' he=>?_;simp only [bK,Option.some.injEq,Prod.mk.injEq] at he;obtain ⟨rfl,rfl⟩:=he;exact Wq hI t ag
   ·simp at hc
  ·simp at hc
 ·rename_i t m k ok;split at hc
  ·rename_i kt et ht;split at hc
   ·rename_i ag ls i hk hi;split at hc
    ·rename_i z hz;injection hc with hc;subst hc;exact pure_op (sv:=Instr.lookup t (a.eval m) (a.eval k) ok) rfl (by simp) λy T' he=>Ws ht hk hi hz hG hI hS he
    ·simp at hc
   ·simp at hc
  ·simp at hc
 ·rename_i t m k x;split at hc
  ·rename_i kt et ht;split at hc
   ·rename_i ag ls hk;injection hc with hc;subst hc;exact unit_op (su:=Instr.mapUpdate t (a.eval m) (a.eval k) (a.eval x)) rfl (by simp) λy T' he=>Nt ht hk hG hI hS he
   ·simp at hc
  ·simp at hc
 ·rename_i t m k x;split at hc
  ·rename_i kt et ht;split at hc
   ·rename_i ag ls hk;injection hc with hc;subst hc;exact unit_op (su:=Instr.mapUpdate t (a.eval m) (a.eval k) (a.eval x)) rfl (by simp) λy T' he=>Nt ht hk hG hI hS he
   ·simp at hc
  ·simp at hc
 ·rename_i c;obtain ⟨callee,args,argTypes⟩:=c;simp only at hc;split at hc
  ·rename_i x t hargs hts;have ha:args=#[x]:=CV.1 (by rw [hargs]);subst ha;split at hc
   ·rename_i kt et ht;injection hc with hc;subst hc;exact pure_op (sv:=Builtin.len_ argTypes ty #[a.eval x]) (by simp [execOp,resolve,invoke,builtin]) (by simp) λy T' he=>TF ht hts hG hI hS he
   ·simp at hc
  ·simp at hc
 ·simp at hc
def XB {o:Oper} {ho:HOp} (hc:Jn P o=some ho) (hw:tI P G st ho K) (hG:rD G h) (hI:Inv h φ w st.T) (hS:rP h φ st.T.length st.s a)
  (hn:∀ v w',Ce h φ st.T w K v w'→next (a.put o.dst v) w'):oW P o a w next:=by
 have pure_op:∀ {sv:Sem Value} (_:execOp a.eval o=(do pure (.value (←sv)))) (_:(∀ f l,ho≠.call f l)∧(∀ p,ho≠.nxt p)∧∀ n k x,ho≠.nilS n k x) (_:∀ x T',bK st.T (bX G st.s) ho=some (x,T')→T'=st.T∧∃ v,sv.run P w=.ok v w∧Rp h φ st.T.length x v),oW P o a w next:=by
  intro sv he hcall hrun;obtain ⟨x,T',e,hk⟩:=Eh hcall hw;obtain ⟨rfl,v,h1,h2⟩:=hrun x T' e;exact rZ he h1 (hn v w (qC hI h2 hk))
 have make_op:∀ {sv:Sem Value} (_:execOp a.eval o=(do pure (.value (←sv)))) (_:(∀ f l,ho≠.call f l)∧(∀ p,ho≠.nxt p)∧∀ n k x,ho≠.nilS n k x) (_:∀ x T',bK st.T (bX G st.s) ho=some (x,T')→gY h φ st.T w (sv.run P w) x T'),oW P o a w next:=by
  intro sv he hcall hrun;obtain ⟨x,T',e,hk⟩:=Eh hcall hw;obtain ⟨v,w',h1,h2⟩:=Ao (hrun x T' e) hk;exact rZ he h1 (hn v w' h2)
 have unit_op:∀ {su:Sem Unit} (_:execOp a.eval o=(do su;pure .skip)) (_:(∀ f l,ho≠.call f l)∧(∀ p,ho≠.nxt p)∧∀ n k x,ho≠.nilS n k x) (_:∀ x T',bK st.T (bX G st.s) ho=some (x,T')→∃ w',su.run P w=.ok () w'∧x=.v undef∧Evo h φ st.T w h φ T' w'∧Inv h φ w' T'),oW P o a w next:=by
  intro su he hcall hrun;obtain ⟨x,T',e,hk⟩:=Eh hcall hw;obtain ⟨w',h1,rfl,h2,h3⟩:=hrun x T' e;unfold oW;rw [he];simp only [Sem.run_bind,h1,Result.andThen_ok,Sem.run_pure];exact hn undef w' ⟨_,T',h,φ,hk,h2,h3,by simp [Rp]⟩
 obtain ⟨dst,op,ty,pos,after,guard⟩:=o;unfold Jn at hc;simp only at hc;split at hc
 ·rename_i t len parts;split at hc
  ·rename_i e ht;split at hc
   ·rename_i i hi;split at hc
    ·rename_i hcs;obtain ⟨rfl,hp⟩:=hcs;have:parts=#[]:=Uo hp;subst this;injection hc with hc;subst hc;exact make_op (sv:=Instr.buildSlice t 0 #[]) (by simp [execOp]) (by simp) λy T' he=>TI ht hi hI he
    ·simp at hc
   ·simp at hc
  ·simp at hc
 ·rename_i t x y;split at hc
  ·rename_i e ht;split at hc
   ·rename_i i hi;split at hc
    ·rename_i z hz;split at hc
     ·rename_i hcs;injection hc with hc;subst hc;exact make_op (sv:=Instr.makeSlice t (a.eval x) (a.eval y)) rfl (by simp) λy T' he=>Wt ht hi hz hcs.1 hcs.2.1 hcs.2.2 hG hI hS he
     ·simp at hc
    ·simp at hc
   ·simp at hc
  ·simp at hc
 ·rename_i src d x;split at hc
  ·rename_i e hs hd;split at hc
   ·rename_i hu8;injection hc with hc;subst hc;exact make_op (sv:=convert src d (a.eval x)) rfl (by simp) λy T' he=>Wv hs hd hu8 hG hI hS he
   ·simp at hc
  ·rename_i e hs hd;split at hc
   ·rename_i hu8;injection hc with hc;subst hc;exact pure_op (sv:=convert src d (a.eval x)) rfl (by simp) λy T' he=>Wx hs hd hu8 hG hI hS he
   ·simp at hc
  ·rename_i e _ hs hd;split at hc
   ·rename_i hsd;subst hsd;split at hc
    ·rename_i hu8;injection hc with hc;subst hc;exact make_op (sv:=convert src src (a.eval x)) rfl (by simp) λy T' he=>Ww hs hu8 hG hI hS he
    ·simp at hc
   ·simp at hc
  ·simp at hc
 ·rename_i t x lo hi mx;split at hc
  ·rename_i e ht;split at hc
   ·rename_i k hk;injection hc with hc;subst hc;exact make_op (sv:=Instr.sliceAt t (a.eval x) (lo.map a.eval) (some (a.eval hi)) (some (a.eval mx))) rfl (by simp) λy T' he=>Wy ht hk hG hI hS he
   ·simp at hc
  ·simp at hc
 ·rename_i t m k;split at hc
  ·rename_i kt et ht;split at hc
   ·rename_i ag ls i hk hi;split at hc
    ·rename_i z hz;injection hc with hc;subst hc;exact make_op (sv:=Instr.mapEntry t (a.eval m) (a.eval k)) rfl (by simp) λy T' he=>Wz ht hk hi hz hG hI hS he
    ·simp at hc
   ·simp at hc
  ·simp at hc
 ·rename_i t m k x;injection hc with hc;subst hc;exact unit_op (su:=Instr.entryStore t (a.eval m) (a.eval k) (a.eval x)) rfl (by simp) λy T' he=>W0 hG hI hS he
 ·rename_i c;obtain ⟨callee,args,argTypes⟩:=c;simp only at hc;split at hc
  ·rename_i m k t hargs hts;have ha:args=#[m,k]:=CV.1 (by rw [hargs]);subst ha;split at hc
   ·rename_i kt et ht;split at hc
    ·rename_i ag ls hk;injection hc with hc;subst hc;exact make_op (sv:=Builtin.delete_ argTypes ty #[a.eval m,a.eval k]) (by simp [execOp,resolve,invoke,builtin]) (by simp) λy T' he=>W3 ht hk hts hG hI hS he
    ·simp at hc
   ·simp at hc
  ·simp at hc
 ·simp at hc
def XC {o:Oper} {ho:HOp} (hc:Jo P o=some ho) (hw:tI P G st ho K) (hG:rD G h) (hI:Inv h φ w st.T) (hS:rP h φ st.T.length st.s a)
  (hn:∀ v w',Ce h φ st.T w K v w'→next (a.put o.dst v) w'):oW P o a w next:=by
 have pure_op:∀ {sv:Sem Value} (_:execOp a.eval o=(do pure (.value (←sv)))) (_:(∀ f l,ho≠.call f l)∧(∀ p,ho≠.nxt p)∧∀ n k x,ho≠.nilS n k x) (_:∀ x T',bK st.T (bX G st.s) ho=some (x,T')→T'=st.T∧∃ v,sv.run P w=.ok v w∧Rp h φ st.T.length x v),oW P o a w next:=by
  intro sv he hcall hrun;obtain ⟨x,T',e,hk⟩:=Eh hcall hw;obtain ⟨rfl,v,h1,h2⟩:=hrun x T' e;exact rZ he h1 (hn v w (qC hI h2 hk))
 have make_op:∀ {sv:Sem Value} (_:execOp a.eval o=(do pure (.value (←sv)))) (_:(∀ f l,ho≠.call f l)∧(∀ p,ho≠.nxt p)∧∀ n k x,ho≠.nilS n k x) (_:∀ x T',bK st.T (bX G st.s) ho=some (x,T')→gY h φ st.T w (sv.run P w) x T'),oW P o a w next:=by
  intro sv he hcall hrun;obtain ⟨x,T',e,hk⟩:=Eh hcall hw;obtain ⟨v,w',h1,h2⟩:=Ao (hrun x T' e) hk;exact rZ he h1 (hn v w' h2)
 obtain ⟨dst,op,ty,pos,after,guard⟩:=o;unfold Jo at hc;simp only at hc;split at hc
 ·rename_i f first caps
  injection hc with hc;subst hc;refine pure_op (sv:=pure (.func (.func f) (first.map a.eval) (caps.map a.eval))) (by simp [execOp,Instr.makeFunc]) (by simp) λy T' he=>?_;simp only [bK,Option.some.injEq,Prod.mk.injEq] at he;obtain ⟨rfl,rfl⟩:=he;refine ⟨rfl,_,rfl,?_⟩;simp only [Rp];refine ⟨(first++caps).map a.eval,?_,?_⟩
  ·have h1:(first++caps).map a.eval=(first.map a.eval)++(caps.map a.eval):=by simp
   have h2:(((first++caps).map a.eval).toList.take first.size).toArray=first.map a.eval:=by
    apply CV.1;rw [h1];simp only [Qe];rw [Ey (by simp)]
   have h3:(((first++caps).map a.eval).toList.drop first.size).toArray=caps.map a.eval:=by
    apply CV.1;rw [h1];simp only [Qe];rw [Y7 (by simp)]
   rw [h2,h3]
  ·simpa using Kc hG hS (first.toList++caps.toList)
 ·rename_i t m;split at hc
  ·rename_i kt et ht;injection hc with hc;subst hc;exact make_op (sv:=Instr.range t (a.eval m)) rfl (by simp) λy T' he=>W4 ht hG hI hS he
  ·simp at hc
 ·rename_i it;injection hc with hc;subst hc;obtain ⟨v,w',h1,h2⟩:=aE9 hG hI hS hw ty;exact rZ (sv:=Instr.next (a.eval it) false ty) rfl h1 (hn v w' h2)
 ·rename_i it;injection hc with hc;subst hc;exact pure_op (sv:=Instr.entry (a.eval it)) rfl (by simp) λy T' he=>W5 hG hI hS he
 ·injection hc with hc;subst hc;exact hw.elim
 ·injection hc with hc;subst hc;exact hw.elim
 ·rename_i c;obtain ⟨callee,args,argTypes⟩:=c;simp only at hc;split at hc
  ·rename_i x t hargs hts;have ha:args=#[x]:=CV.1 (by rw [hargs]);have hb:argTypes=#[t]:=CV.1 (by rw [hts]);subst ha;subst hb;split at hc
   ·rename_i e ht;split at hc
    ·rename_i i hi;split at hc
     ·rename_i z hz;split at hc
      ·rename_i hcs;injection hc with hc;subst hc;exact make_op (sv:=Builtin.clear_ #[t] ty #[a.eval x]) (by simp [execOp,resolve,invoke,builtin]) (by simp) λy T' he=>W7 ht hi hz hcs.1 hcs.2.1 hcs.2.2 hG hI hS he
      ·simp at hc
     ·simp at hc
    ·simp at hc
   ·simp at hc
  ·simp at hc
 ·simp at hc
def RI {e:TypeId} {k:IntKind} (hk:P.underlying e=some (.int k)) (ha:Eg P e=some none) (d:Nat) (xs ys:Array Value):∀ (m s:Nat) (b:Bool),s+m≤xs.size→s+m≤ys.size→pZ (List.replicate m (.int k)) ((xs.toList.drop s).take m) ((ys.toList.drop s).take m)=some b →
  (Op.eqItems (d+1) e 1 xs ys (List.range' s m)).run P w=.ok b w
 | 0,s,b,_,_,h=>by
  simp [pZ] at h;subst h;simp [Op.eqItems]
 | m+1,s,b,h1,h2,h=>by
  have hx:(xs.toList.drop s).take (m+1)=xs[s]::(xs.toList.drop (s+1)).take m:=by
   rw [QZ (by simp;omega),NW];simp
  have hy:(ys.toList.drop s).take (m+1)=ys[s]::(ys.toList.drop (s+1)).take m:=by
   rw [QZ (by simp;omega),NW];simp
  rw [hx,hy,Qf] at h;have px:(part e xs (s*1)).run P w=.ok xs[s] w:=by
   have:=Cp (P:=P) (w:=w) (t:=e) (X:=xs) (off:=s) (ag:=false) (n:=1) ha (λ_=>rfl) (by omega);rw [CL,this];simp [iH,fG,show s<xs.size by omega]
  have py:(part e ys (s*1)).run P w=.ok ys[s] w:=by
   have:=Cp (P:=P) (w:=w) (t:=e) (X:=ys) (off:=s) (ag:=false) (n:=1) ha (λ_=>rfl) (by omega);rw [CL,this];simp [iH,fG,show s<ys.size by omega]
  have ih:=RI hk ha d xs ys m (s+1);simp only [List.range'_succ,Op.eqItems,Sem.run_bind,px,py,Result.andThen_ok];generalize xs[s]=x at h;generalize ys[s]=y at h;cases x<;>cases y<;>simp only [pZ] at h<;>(try (simp at h;done))
  rename_i k1 a k2 c;split at h
  ·rename_i hkk;obtain ⟨rfl,rfl⟩:=hkk;split at h
   ·rename_i r hr;injection h with h;subst h;rw [run_equalIn_int w d e _ _ _ _ hk];simp only [Result.andThen_ok];have:=ih r (by omega) (by omega) hr;cases hac:(a==c)
    ·simp
    ·simpa using this
   ·simp at h
  ·simp at h
def XD {o:Oper} {ho:HOp} (hc:Jp P o=some ho) (hw:tI P G st ho K) (hG:rD G h) (hI:Inv h φ w st.T) (hS:rP h φ st.T.length st.s a)
  (hn:∀ v w',Ce h φ st.T w K v w'→next (a.put o.dst v) w'):oW P o a w next:=by
 have pure_op:∀ {sv:Sem Value} (_:execOp a.eval o=(do pure (.value (←sv)))) (_:(∀ f l,ho≠.call f l)∧(∀ p,ho≠.nxt p)∧∀ n k x,ho≠.nilS n k x) (_:∀ x T',bK st.T (bX G st.s) ho=some (x,T')→T'=st.T∧∃ v,sv.run P w=.ok v w∧Rp h φ st.T.length x v),oW P o a w next:=by
  intro sv he hcall hrun;obtain ⟨x,T',e,hk⟩:=Eh hcall hw;obtain ⟨rfl,v,h1,h2⟩:=hrun x T' e;exact rZ he h1 (hn v w (qC hI h2 hk))
 have make_op:∀ {sv:Sem Value} (_:execOp a.eval o=(do pure (.value (←sv)))) (_:(∀ f l,ho≠.call f l)∧(∀ p,ho≠.nxt p)∧∀ n k x,ho≠.nilS n k x) (_:∀ x T',bK st.T (bX G st.s) ho=some (x,T')→gY h φ st.T w (sv.run P w) x T'),oW P o a w next:=by
  intro sv he hcall hrun;obtain ⟨x,T',e,hk⟩:=Eh hcall hw;obtain ⟨v,w',h1,h2⟩:=Ao (hrun x T' e) hk;exact rZ he h1 (hn v w' h2)
 obtain ⟨dst,op,ty,pos,after,guard⟩:=o;unfold Jp at hc;split at hc
 ·rename_i op t x y u heq;simp only at heq;subst heq;split at hc
  ·rename_i hop';split at hc
   ·rename_i n e ht;split at hc
    ·rename_i k hk;split at hc
     ·rename_i hcs;obtain ⟨hc1,hc2,hc3,hg2⟩:=hcs;injection hc with hc;subst hc;obtain ⟨i,hi⟩:=Yc.1 hc2;refine pure_op (sv:=do eqGuard op t x y (a.eval x) (a.eval y);binOp op t (a.eval x) (a.eval y)) rfl (by simp) λz T' e=>?_;simp only [bK] at e;split at e
      ·rename_i cs ds h1 h2;split at e
       ·rename_i b hb;simp only [Option.some.injEq,Prod.mk.injEq] at e;obtain ⟨rfl,rfl⟩:=e;obtain ⟨us,e1,r1⟩:=Jj (dA hG hS x) h1;obtain ⟨vs,e2,r2⟩:=Jj (dA hG hS y) h2;have hq0:=Ko hb r1 r2;have hl:=yS hq0;have hl2:us.size=n∧vs.size=n:=by simpa using hl
        have hq:(Op.equalIn 10000 t (.agg us) (.agg vs)).run P w=.ok b w:=by
         rw [run_equalIn_array w 9999 us vs ht hi,hc1,Ym];refine RI hk hc3 9998 us vs n 0 b (by omega) (by omega) ?_;rw [Qq,Qq,pY (by simp;omega),pY (by simp;omega)];exact hq0
        rw [e1,e2];refine ⟨rfl,.bool (if op==.neq then !b else b),?_,by simp [Rp]⟩;rcases hop' with rfl | rfl
        ·simp only [Sem.run_bind,run_eqGuard_agg w .eql t x y us vs hg2,Result.andThen_ok,run_eql_struct w t us vs,hq];rfl
        ·simp only [Sem.run_bind,run_eqGuard_agg w .neq t x y us vs hg2,Result.andThen_ok,run_neq_struct w t us vs,hq];rfl
       ·simp at e
      ·simp at e
     ·simp at hc
    ·simp at hc
   ·simp at hc
  ·simp at hc
 ·rename_i t parts heq;simp only at heq;subst heq;split at hc
  ·rename_i n e i ht hi;split at hc
   ·rename_i z hz;split at hc
    ·rename_i hcs;obtain ⟨hp,hc2⟩:=hcs;injection hc with hc;subst hc;obtain ⟨j,hj⟩:=Yc.1 hc2;have hpe:parts=#[]:=Uo (by simpa using hp);subst hpe;refine pure_op (sv:=Instr.build t ((#[]:Array (Nat×Operand)).map λ(i,x)=>(i,a.eval x))) rfl (by simp) λy T' he=>?_;simp only [bK,eQ,HT,Option.some.injEq,Prod.mk.injEq] at he;obtain ⟨rfl,rfl⟩:=he;refine ⟨rfl,.agg z.cells,?_,by simp only [Rp];exact ⟨_,rfl,Ki h φ st.T.length z.cells.toList⟩⟩;simp only [Instr.build,Sem.run_bind,zeroValue,typeInfo,run_program,Result.andThen_ok,hi,Sem.run_pure,hz,run_underlying ht,run_sizeOf w hj];simp [Instr.fill]
    ·simp at hc
   ·simp at hc
  ·simp at hc
 ·rename_i c heq;simp only at heq;subst heq;obtain ⟨callee,args,argTypes⟩:=c;simp only at hc;split at hc
  ·rename_i x y t u hargs hts;have ha:args=#[x,y]:=CV.1 (by rw [hargs]);have ht':argTypes=#[t,u]:=CV.1 (by rw [hts]);subst ha;subst ht';split at hc
   ·rename_i e ht hut;split at hc
    ·rename_i i hi;split at hc
     ·rename_i z hz;split at hc
      ·rename_i hcs;injection hc with hc;subst hc;exact make_op (sv:=Builtin.append_ #[t,u] ty #[a.eval x,a.eval y]) (by simp [execOp,resolve,invoke,builtin]) (by simp) λr T' he=>W9 ht hut hi hz hcs.1 hcs.2.1 hcs.2.2 hG hI hS he
      ·simp at hc
     ·simp at hc
    ·simp at hc
   ·simp at hc
  ·simp at hc
 ·simp at hc
def Kw {o:Oper} {ho:HOp} (hc:FW P o=some ho) (hw:tI P G st ho K) (hG:rD G h) (hI:Inv h φ w st.T) (hS:rP h φ st.T.length st.s a)
  (hn:∀ v w',Ce h φ st.T w K v w'→next (a.put o.dst v) w'):oW P o a w next:=by
 unfold FW at hc;split at hc
 ·rename_i h1 e;injection hc with hc;subst hc;exact Wm e hw hG hI hS hn
 ·split at hc
  ·rename_i h1 e;injection hc with hc;subst hc;exact Wp e hw hG hI hS hn
  ·split at hc
   ·rename_i h1 e;injection hc with hc;subst hc;exact XA e hw hG hI hS hn
   ·split at hc
    ·rename_i h1 e;injection hc with hc;subst hc;exact XB e hw hG hI hS hn
    ·split at hc
     ·rename_i h1 e;injection hc with hc;subst hc;exact XC e hw hG hI hS hn
     ·exact XD hc hw hG hI hS hn
end
end
section
def oE (P:Program) (N:Nat) (ops:Array Oper) (o:Oper):Option HOper :=
 if o.dst.all (· < N)=false then none else
 match FW P o with
 | none=>none
 | some h=>match o.guard with
  | none=>some ⟨o.dst,h,none⟩
  | some (j,b)=>match (ops[j]?).bind (·.dst) with
   | some d=>some ⟨o.dst,h,some (d,b)⟩
   | none=>none
def fI (P:Program) (N:Nat) (ops:Array Oper):List Oper→Option (List HOper)
 | []=>some []
 | o::os=>match oE P N ops o,fI P N ops os with
  | some h,some hs=>some (h::hs)
  | _,_=>none
def ZY (l:List (Nat×AV)) (j i:Nat) (h:i≠j):aU (GL l j) i=aU l i:=by
 induction l with
 | nil=>rfl
 | cons p l ih =>
  obtain ⟨k,x⟩:=p;simp only [GL];split
  ·rename_i hk;subst hk;simp only [aU];rw [if_neg (λe=>h e.symm)];exact ih
  ·simp only [aU];split
   ·rfl
   ·exact ih
def GY (l:List (Nat×AV)) (j i:Nat) (x:AV):aU (Cm l j x) i=if j=i then x else aU l i:=by
 unfold Cm;simp only [aU];split
 ·rfl
 ·rename_i h;exact ZY l j i (λe=>h e.symm)
def aC2 {p q:Nat×AV} {l:List (Nat×AV)} (h:q∈HU p l):q=p∨q∈l:=by
 induction l with
 | nil=>simp only [HU,gZ] at h;exact .inl h
 | cons r l ih =>
  simp only [HU] at h;split at h
  ·rcases gK.1 h with h | h
   ·exact .inl h
   ·exact .inr h
  ·rcases gK.1 h with h | h
   ·exact .inr (by simp [h])
   ·rcases ih h with h | h
    ·exact .inl h
    ·exact .inr (by simp [h])
def ZZ {q:Nat×AV} {l:List (Nat×AV)} (h:q∈pP l):q∈l:=by
 induction l with
 | nil=>simp [pP] at h
 | cons p l ih =>
  rcases aC2 h with h | h
  ·simp [h]
  ·simp [ih h]
def GZ {d:List Nat} {q:Nat×AV} {l:List (Nat×AV)} (h:q∈kK d l):q∈l:=by
 induction l with
 | nil=>simp [kK] at h
 | cons p l ih =>
  obtain ⟨k,x⟩:=p;simp only [kK] at h;split at h
  ·simp [ih h]
  ·rcases gK.1 h with h | h
   ·simp [h]
   ·simp [ih h]
def Hb (l:List (Nat×AV)):Prop:=∀ i x y,(i,x)∈l→(i,y)∈l→x=y
def Kx {l:List (Nat×AV)} (h:Hb l) {i:Nat} {x:AV} (hm:(i,x)∈l):aU l i=x:=by
 induction l with
 | nil=>simp at hm
 | cons p l ih =>
  obtain ⟨k,y⟩:=p;simp only [aU];split
  ·rename_i hk;subst hk;exact h k y x (by simp) hm
  ·rename_i hk;rcases gK.1 hm with hm | hm
   ·injection hm with h1 _;exact absurd h1.symm hk
   ·exact ih (λi a b ha hb=>h i a b (by simp [ha]) (by simp [hb])) hm
def Oy {l:List (Nat×AV)} {i:Nat}:aU l i=.any∨(i,aU l i)∈l:=by
 induction l with
 | nil=>exact .inl rfl
 | cons p l ih =>
  obtain ⟨k,y⟩:=p;simp only [aU];split
  ·rename_i hk;subst hk;exact .inr (by simp)
  ·rcases ih with ih | ih
   ·exact .inl ih
   ·exact .inr (by simp [ih])
def Ga {l:List (Nat×AV)} (h:Hb l) (j:Nat):(∀ q∈GL l j,q∈l∧q.1≠j):=by
 intro q hq
 induction l with
 | nil=>simp [GL] at hq
 | cons p l ih =>
  obtain ⟨k,y⟩:=p;have hl:Hb l:=λi a b ha hb=>h i a b (by simp [ha]) (by simp [hb]);simp only [GL] at hq;split at hq
  ·have:=ih hl hq;exact ⟨by simp [this.1],this.2⟩
  ·rename_i hk;rcases gK.1 hq with rfl | hq
   ·exact ⟨by simp,hk⟩
   ·have:=ih hl hq;exact ⟨by simp [this.1],this.2⟩
def Ky {l:List (Nat×AV)} (h:Hb l) (j:Nat) (x:AV):Hb (Cm l j x):=by
 intro i a b ha hb;unfold Cm at ha hb;rcases gK.1 ha with ha | ha<;>rcases gK.1 hb with hb | hb
 ·injection ha with _ h1;injection hb with _ h2;rw [h1,h2]
 ·injection ha with h1 _;exact absurd h1 (Ga h j _ hb).2
 ·injection hb with h1 _;exact absurd h1 (Ga h j _ ha).2
 ·exact h i a b (Ga h j _ ha).1 (Ga h j _ hb).1
def TP {L:List Nat} {q:Nat×AV} {l:List (Nat×AV)} (h:q∈Qy L l):∃ x,(q.1,x)∈l∧q.2=F9 L x:=by
 induction l with
 | nil=>simp [Qy] at h
 | cons p l ih =>
  obtain ⟨k,y⟩:=p;simp only [Qy] at h;rcases gK.1 h with rfl | h
  ·exact ⟨y,by simp,rfl⟩
  ·obtain ⟨x,h1,h2⟩:=ih h;exact ⟨x,by simp [h1],h2⟩
def fe:Option Nat→Fence
 | none=>Fence.wide
 | some l=>Fence.wide.inRound l
def Vc (ro:Option Nat) (f:FuncId):(fe ro).fn f:=by cases ro<;>trivial
def RJ (ro:Option Nat):(fe ro).round=ro:=by cases ro<;>rfl
def RK (ro:Option Nat):(fe ro).depth=none:=by cases ro<;>rfl
def Kz {P:Program} {ro:Option Nat} {f:FuncId} {args:Array Value} {w:World} {R:Ending→World→Prop} (h:Calls P f args w R):CallsIn (fe ro) 0 P f args w R:=by
 have:=(callsIn_wide (n:=0)).2 h;cases ro<;>exact this
def TQ {P:Program} {ro:Option Nat} {l:Nat} {f:FuncId} {tmps:Array Value} {as_ body:Code} {w:World} {R:Ending→World→Prop} (h:RoundIn Fence.wide 0 P l f tmps as_ body w R):RoundIn (fe ro) 0 P l f tmps as_ body w R:=by
 cases ro<;>exact h
def aDA {P:Program} {ro:Option Nat} {o:Oper} {a:Act} {w:World} {next:Act→World→Prop} {Q:Exit→Act→World→Prop} (hd:∀ c,o.op≠.defer c) (h:oW P o a w next):o.wpIn (fe ro) 0 P a w next Q:=by
 refine ⟨λf _=>Vc ro f,?_⟩;have hs:o.semAt (fe ro).round a.eval=execOp a.eval o:=by
  rw [RJ]
  cases ro with
  | none=>rfl
  | some l =>
   unfold Oper.semAt;cases ho:o.op<;>first | rfl | exact absurd ho (hd _)
 rw [hs];unfold oW at h;have hdep:(fe ro).depth.isSome=true→1≤0:=λhh=>by rw [RK] at hh;simp at hh
 split at h
 ·rename_i v w' e;rw [e];exact h
 ·rename_i w' e;rw [e];exact h
 ·rename_i f args w' e;rw [e];refine ⟨hdep,(Kz h).mono ?_⟩;rintro e w'' ⟨v,rfl,hn⟩;exact hn
 ·rename_i l f tmps as_ body w' e;rw [e];refine ⟨hdep,(TQ h).mono ?_⟩;rintro e w'' ⟨v,rfl,hn⟩;exact hn
 ·exact h.elim
def Gb {P:Program} {o:Oper} {h:HOp} (hc:FW P o=some h):∀ c,o.op≠.defer c:=by
 intro c hd;obtain ⟨dst,op,ty,pos,after,guard⟩:=o;simp only at hd;subst hd;simp [FW,fH,Jk,Jm,Jn,Jo,Jp] at hc
def Ei (w0:World) (a:Act) (w:World):Prop :=
 (a.defers.Pairwise λx y=>x.target≠y.target)∧∀ d∈a.defers,∃ D,d.target=.collected D∧w0.heap.size≤D∧w.heap[D]?=some (.deferred (some []))
def K0 {h:GH} {φ:Nat→Value} {n:Nat} {w:World} {i:Nat} {o:AObj} (e:vW h φ n w i o) {g:Nat} (hg:mC (φ i)=some g) (ds:Option (List Deferred)):w.heap[g]?≠some (.deferred ds):=by
 cases o with
 | box cs =>
  obtain ⟨g',us,E,h1,h2,h3,_⟩:=e;rw [h1] at hg;simp only [mC,Option.some.injEq] at hg;subst hg;rw [h2];simp
 | arr k es =>
  obtain ⟨_,⟨A,h1⟩ | ⟨g',c,cur,E,h1,h2,_,_,_,h3,_⟩⟩:=e
  ·rw [h1.1] at hg;simp [mC] at hg
  ·rw [h1] at hg;simp only [mC,Option.some.injEq] at hg;subst hg;rw [h2];simp
 | arf k es =>
  obtain ⟨_,⟨A,h1⟩ | ⟨g',c,cur,E,h1,h2,_,_,_,h3,_⟩⟩:=e
  ·rw [h1.1] at hg;simp [mC] at hg
  ·rw [h1] at hg;simp only [mC,Option.some.injEq] at hg;subst hg;rw [h2];simp
 | lp r s =>
  obtain ⟨g',h1,h2,h3,_⟩:=e;rw [h1] at hg;simp only [mC,Option.some.injEq] at hg;subst hg;rw [h2];simp
 | mit m since seen st =>
  obtain ⟨g',mo,h1,h2,h3,_⟩:=e;rw [h1] at hg;simp only [mC,Option.some.injEq] at hg;subst hg;rw [h2];simp
 | map ag ks vs bs cl =>
  obtain ⟨g',ens,h1,h2,h3,_⟩:=e;rw [h1] at hg;simp only [mC,Option.some.injEq] at hg;subst hg;rw [h2];simp
def Ei.keep {w0 w w':World} {a:Act} {h h':GH} {φ φ':Nat→Value} {T T':aQ} (hd:Ei w0 a w) (hI:Inv h φ w T) (hE:Evo h φ T w h' φ' T' w'):Ei w0 a w':=by
 refine ⟨hd.1,λd hm=>?_⟩;obtain ⟨D,h1,h2,h3⟩:=hd.2 d hm;refine ⟨D,h1,h2,?_⟩;have hlt:D<w.heap.size:=by
  rcases bY D w.heap.size with hh | hh
  ·exact hh
  ·rw [GA hh] at h3;simp at h3
 rw [hE.frame D hlt λi o ho hb=>K0 (hI.obj i o ho) hb _ h3];exact h3
def Ei.put {w0 w:World} {a:Act} (hd:Ei w0 a w) (o:Option Nat) (v:Value):Ei w0 (a.put o v) w:=by
 cases o with
 | none=>exact hd
 | some j=>exact hd
structure SInv (P:Program) (G:Nat→Option (List AV)) (N:Nat) (h0:GH) (φ0:Nat→Value) (T0:aQ) (w0:World) (st:St) (a:Act) (w:World):Prop where
 r:st.r=T0.length
 once:Hb st.s
 ex:∃ h φ,rD G h∧Evo h0 φ0 T0 w0 h φ st.T w∧Inv h φ w st.T∧rP h φ st.T.length st.s a
 sz:N≤a.tmps.size
 df:Ei w0 a w
section
variable {P:Program} {G:Nat→Option (List AV)} {N:Nat} {h0:GH} {φ0:Nat→Value} {T0:aQ} {w0:World} {a:Act} {w:World}
def Cw {st:St} (d:List Nat) (hS:SInv P G N h0 φ0 T0 w0 st a w):SInv P G N h0 φ0 T0 w0 (yR d st) a w:=by
 obtain ⟨hr0,honce,⟨h,φ,hG,hE,hI,hSl⟩,hsz,hdf⟩:=hS;have hnd:(tN st.T (List.range st.r++Mw (pP (kK d st.s)))).Nodup:=Ih _ _;obtain ⟨l,hl⟩:∃ l,tN st.T (List.range st.r++Mw (pP (kK d st.s)))=List.range st.r++l:=by
  exact Q4 st.T st.r _
 have hgc:yR d st=⟨st.r,Qy (tN st.T (List.range st.r++Mw (pP (kK d st.s)))) (pP (kK d st.s)),Ef (tN st.T (List.range st.r++Mw (pP (kK d st.s)))) st.T⟩:=rfl;rw [hgc];revert hnd hl;generalize tN st.T (List.range st.r++Mw (pP (kK d st.s)))=L;intro hnd hl;have hφ:Ii L φ (λj=>φ (L.getD j 0)):=by
  intro j i e;simp [fG,e]
 have hlen:(Ef L st.T).length=L.length:=by simp [Ef]
 have hpre:∀ i,i<st.r→L[i]?=some i:=by
  intro i hi;rw [hl,Eb (by simpa using hi)];simp [hi]
 have hmem:∀ i x,(i,x)∈pP (kK d st.s)→(i,x)∈st.s:=λi x hm=>GZ (ZZ hm);refine ⟨hr0,?_,⟨h,_,hG,?_,ZO hnd hI hφ,?_⟩,hsz,hdf⟩
 ·intro i x y hx hy;obtain ⟨x',h1,h2⟩:=TP hx;obtain ⟨y',h3,h4⟩:=TP hy;simp only at h2 h4;rw [h2,h4,honce i x' y' (hmem _ _ h1) (hmem _ _ h3)]
 ·refine ⟨hE.os,hE.tape,hE.output,hE.size,hE.frame,hE.le,hE.gfr,λi hi=>?_,λi o b e hb=>?_,?_,hE.drawn⟩
  ·have h1:=hpre i (by omega);show φ (L.getD i 0)=_;rw [fG,h1];exact hE.phi i hi
  ·obtain ⟨i',o',h1,h2,_⟩:=GV e;have hii:=hφ i i' h1;simp only at hii;simp only [hii] at hb;exact hE.org i' o' b h2 hb
  ·show T0.length≤(Ef L st.T).length;rw [hlen,hl,dU,NY];omega
 ·intro i;show Rp h _ (Ef L st.T).length (aU (Qy L (pP (kK d st.s))) i) _;rcases Oy (l:=Qy L (pP (kK d st.s))) (i:=i) with e | e
  ·rw [e];simp [Rp]
  ·obtain ⟨x,h1,h2⟩:=TP e;simp only at h1 h2;rw [h2,hlen];have:=hSl i;rw [Kx honce (hmem _ _ h1)] at this;exact S7 hφ this
def Gc {h:GH} {φ:Nat→Value} {n:Nat} {s:List (Nat×AV)} {o:Option Nat} {x:AV} {v:Value} (hs:rP h φ n s a) (hx:Rp h φ n x v) (ho:∀ j,o=some j→j<a.tmps.size):rP h φ n (dT s o x) (a.put o v):=by
 intro i
 cases o with
 | none=>exact hs i
 | some j =>
  have hj:=ho j rfl;simp only [dT,GY,Act.put];split
  ·rename_i hij;subst hij;rw [show (a.tmps.setIfInBounds j v).getD j undef=v from by simp [KF,hj]];exact hx
  ·rename_i hij;rw [show (a.tmps.setIfInBounds j v).getD i undef=a.tmps.getD i undef from by simp [KF,aDk,hij]];exact hs i
def Gd {h:GH} {φ:Nat→Value} {n:Nat} {s:List (Nat×AV)} {ops:Array Oper} {o:Oper} {g:Option (Nat×Bool)} {b:Bool} (hs:rP h φ n s a)
  (hg:match o.guard with | none=>g=none | some (j,t)=>∃ d,(ops[j]?).bind (·.dst)=some d∧g=some (d,t)) (hw:eC s g=some b):Region.wanted o (yielded ops a.tmps)=b:=by
 cases hgd:o.guard with
 | none =>
  rw [hgd] at hg;simp only at hg;subst hg;simp only [eC,Option.some.injEq] at hw;subst hw;simp [Region.wanted,hgd]
 | some jt =>
  obtain ⟨j,t⟩:=jt;rw [hgd] at hg;obtain ⟨d,hd,rfl⟩:=hg;have hv:=hs d;simp only [eC] at hw;have hyield:yielded ops a.tmps j=(match a.tmps[d]? with | some (.bool x)=>some x | _=>none):=by
   unfold yielded;rw [hd];simp only [KQ]
   cases a.tmps[d]? with
   | none=>rfl
   | some v=>cases v<;>rfl
  split at hw
  ·rename_i x hx;rw [hx] at hv;simp only [Rp] at hv;injection hw with hw;have:a.tmps[d]?=some (.bool x):=by
    rcases bY d a.tmps.size with hlt | hge
    ·rw [QW hlt];simpa [KF,hlt] using hv
    ·rw [KF,GA hge] at hv;simp [undef] at hv
   simp only [Region.wanted,hgd,hyield,this];rw [←hw];cases x<;>cases t<;>rfl
  ·rename_i us hx;rw [hx] at hv;simp only [Rp] at hv;injection hw with hw;subst hw;have:yielded ops a.tmps j=none:=by
    rw [hyield];rcases bY d a.tmps.size with hlt | hge
    ·have h2:a.tmps[d]=.tuple us:=by simpa [KF,hlt] using hv
     rw [QW hlt,h2]
    ·rw [GA hge]
   simp [Region.wanted,hgd,this]
  ·simp at hw
def E8 {ops:Array Oper} {o:Oper} {ho:HOper} (hc:oE P N ops o=some ho) :
  (∀ j,o.dst=some j→j<N)∧ho.dst=o.dst∧FW P o=some ho.op∧(match o.guard with | none=>ho.guard=none | some (j,t)=>∃ d,(ops[j]?).bind (·.dst)=some d∧ho.guard=some (d,t)):=by
 unfold oE at hc;split at hc
 ·simp at hc
 ·rename_i hd;have hd':∀ j,o.dst=some j→j<N:=by
   intro j hj;rw [hj] at hd;simpa using hd
  split at hc
  ·simp at hc
  ·rename_i h hh;split at hc
   ·rename_i hg;injection hc with hc;subst hc;exact ⟨hd',rfl,hh,rfl⟩
   ·rename_i j b hg;split at hc
    ·rename_i d hdd;injection hc with hc;subst hc;exact ⟨hd',rfl,hh,d,hdd,rfl⟩
    ·simp at hc
def wV {l:List (Nat×AV)} (h:Hb l) (o:Option Nat) (x:AV):Hb (dT l o x):=by
 cases o with
 | none=>exact h
 | some j=>exact Ky h j x
def Bg {ro:Option Nat} {ops:Array Oper} {Q:Exit→Act→World→Prop} {l2:List Oper}:∀ {l:List Oper} {hl:List HOper} {st:St} {a:Act} {w:World} {K:St→Prop},fI P N ops l=some hl→HV P G hl st K→SInv P G N h0 φ0 T0 w0 st a w →
  (∀ st' a' w',K st'→SInv P G N h0 φ0 T0 w0 st' a' w'→wpListIn (fe ro) 0 P ops Q l2 a' w')→wpListIn (fe ro) 0 P ops Q (l++l2) a w
 | [],hl,st,a,w,K,hc,hw,hS,hn=>by
  simp only [fI,Option.some.injEq] at hc;subst hc;exact hn st a w hw hS
 | o::l,hl,st,a,w,K,hc,hw,hS,hn=>by
  simp only [fI] at hc;split at hc
  ·rename_i ho hl' h1 h2;injection hc with hc;subst hc;obtain ⟨hr,honce,⟨h,φ,hG,hE,hI,hSl⟩,hsz,hdf⟩:=hS;obtain ⟨c1,c2,c3,c4⟩:=E8 h1;have hdst:∀ j,o.dst=some j→j<a.tmps.size:=λj hj=>CU (c1 j hj) hsz;have hput:∀ v,N≤(a.put o.dst v).tmps.size:=by
    intro v
    cases o.dst with
    | none=>exact hsz
    | some j=>simpa [Act.put] using hsz
   simp only [HV] at hw;rw [c2] at hw;split at hw
   ·rename_i hwt;have hwant:=Gd hSl c4 hwt;rw [Ag];unfold wpListIn;rw [if_pos hwant];refine aDA (Gb c3) (Kw c3 hw hG hI hSl λv w' hret=>?_);obtain ⟨x,T',h',φ',hk,hE',hI',hx⟩:=hret;have hSl':rP h' φ' T'.length st.s a:=λi=>(hSl i).mono hE'.le hE'.len hE'.phi;exact Bg h2 hk ⟨hr,wV honce _ _,⟨h',φ',hG.mono hE'.le,hE.trans hE',hI',Gc hSl' hx hdst⟩,hput v,(hdf.keep hI hE').put _ _⟩ hn
   ·rename_i hwt;have hwant:=Gd hSl c4 hwt;rw [Ag];unfold wpListIn;rw [if_neg (by simp [hwant])];exact ⟨λf _=>Vc ro f,Bg h2 hw ⟨hr,wV honce _ _,⟨h,φ,hG,hE,hI,Gc hSl (by simp [Rp]) hdst⟩,hput _,hdf.put _ _⟩ hn⟩
   ·exact hw.elim
  ·simp at hc
def XE {ro:Option Nat} {ops:Array Oper} {Q:Exit→Act→World→Prop} {l:List Oper} {hl:List HOper} {st:St} {a:Act} {w:World} {K:St→Prop} (hc:fI P N ops l=some hl) (hw:HV P G hl st K) (hS:SInv P G N h0 φ0 T0 w0 st a w)
  (hn:∀ st' a' w',K st'→SInv P G N h0 φ0 T0 w0 st' a' w'→Q .normal a' w'):wpListIn (fe ro) 0 P ops Q l a w:=by
 have:=Bg (ro:=ro) (Q:=Q) (l2:=[]) hc hw hS hn;rwa [kT] at this
def Ij {ops:Array Oper}:∀ {l l2:List Oper} {hl hl2:List HOper},fI P N ops l=some hl→fI P N ops l2=some hl2→fI P N ops (l++l2)=some (hl++hl2)
 | [],l2,hl,hl2,h,h2=>by simp only [fI,Option.some.injEq] at h;subst h;exact h2
 | o::l,l2,hl,hl2,h,h2=>by
  simp only [fI] at h;split at h
  ·rename_i a b e1 e2;injection h with h;subst h;simp only [Ag,fI,e1,Ij e2 h2]
  ·simp at h
def Ge {ops:Array Oper} {o:Oper} {l:List Oper} {hl:List HOper} (h:fI P N ops (o::l)=some hl):∃ a b,oE P N ops o=some a∧fI P N ops l=some b∧hl=a::b:=by
 simp only [fI] at h;split at h
 ·rename_i a b e1 e2;injection h with h;exact ⟨a,b,e1,e2,h.symm⟩
 ·simp at h
end
end
end Hud
