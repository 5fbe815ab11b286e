import Derived.Test.YthlndebkfkanbaaGreatDoorLib01
set_option linter.all false
namespace Hud
open Go
section
section
variable {P:Program} {G:Nat→Option (List AV)} {h:GH} {φ:Nat→Value} {T:aQ} {w:World} {s:List (Nat×AV)} {a:Act}
def oB {t:TypeId} {n:Nat} (e:mU P t=some n):(Go.sizeOf t).run P w=.ok n w:=by
 unfold mU at e
 cases hi:P.info? t with
 | none=>simp [hi] at e
 | some i=>simp [hi] at e;subst e;simp [Go.sizeOf,typeInfo,hi]
def Wa {t:TypeId} {fs:Array Field} (ht:P.underlying t=some (.struct fs)) {f:Nat} {fd:Field} (hf:fs[f]?=some fd) {n:Nat} (hn:mU P fd.type=some n) (h0:n≠0)
  (hG:rD G h) (hS:rP h φ T.length s a) {p:Operand} {x:AV} {T':aQ} (he:bK T (bX G s) (.fad p fd.offset)=some (x,T')) :
  T'=T∧∃ v,(Instr.fieldAt t (a.eval p) f).run P w=.ok v w∧Rp h φ T.length x v:=by
 have hp:=dA hG hS p;have run:∀ b o,(Instr.fieldAt t (.pointer (some ⟨b,o,none⟩)) f).run P w=.ok (.pointer (some ⟨b,o+fd.offset,none⟩)) w:=by
  intro b o;simp [Instr.fieldAt,run_underlying ht,hf,Instr.sureAddr,fieldPlace,oB hn,h0,gB]
 simp only [bK] at he;split at he
 ·rename_i i off hev;rw [hev] at hp;simp only [Rp] at hp;obtain ⟨hi,g,hφ,hu⟩:=hp;injection he with he;injection he with e1 e2;subst e1;subst e2;rw [hu];exact ⟨rfl,_,run g off,by simp only [Rp];exact ⟨hi,g,hφ,rfl⟩⟩
 ·rename_i i k j off hev;rw [hev] at hp;simp only [Rp] at hp;obtain ⟨hi,g,l,c,hφ,hu⟩:=hp;injection he with he;injection he with e1 e2;subst e1;subst e2;rw [hu];exact ⟨rfl,_,run g _,by simp only [Rp];exact ⟨hi,g,l,c,hφ,by rw [Nf]⟩⟩
 ·rename_i cs hev;rw [hev] at hp;simp only [Rp] at hp;obtain ⟨b,o,hu,hc⟩:=hp;injection he with he;injection he with e1 e2;subst e1;subst e2;rw [hu];exact ⟨rfl,_,run b o,by simp only [Rp];exact ⟨b,_,rfl,hc.drop _⟩⟩
 ·simp at he
def Kh {t:TypeId} {m:Option Nat} (ht:Eg P t=some m) {us:Array Value} {cs:List AV} {n:Nat} (hr:bW h φ n cs us.toList) {off:Nat} {x:AV} (hx:KY cs off m=some x) :
  ∃ v,(part t us off).run P w=.ok v w∧Rp h φ n x v:=by
 have hk:=VQ hr hx;have ha:=D5 (w:=w) ht
 cases m with
 | none =>
  obtain ⟨u,h1,h2⟩:=hk;refine ⟨u,?_,h2⟩;have:us[off]?=some u:=by simpa using h1
  simp [part,ha.1,this]
 | some k =>
  obtain ⟨h1,h2⟩:=hk;refine ⟨_,?_,h2⟩;simp only [part,Sem.run_bind,ha.1,ha.2,Result.andThen_ok,if_true,Sem.run_pure];congr 2;apply CV.1;simp [Array.toList_extract,List.extract]
def Wb {t:TypeId} {fs:Array Field} (ht:P.underlying t=some (.struct fs)) {f:Nat} {fd:Field} (hf:fs[f]?=some fd) {m:Option Nat} (hm:Eg P fd.type=some m)
  (hG:rD G h) (hS:rP h φ T.length s a) {p:Operand} {x:AV} {T':aQ} (he:bK T (bX G s) (.fld p fd.offset m)=some (x,T')) :
  T'=T∧∃ v,(Instr.field t (a.eval p) f).run P w=.ok v w∧Rp h φ T.length x v:=by
 have hp:=dA hG hS p;simp only [bK] at he;split at he
 ·rename_i cs hev;rw [hev] at hp;simp only [Rp] at hp;obtain ⟨us,hu,hr⟩:=hp;split at he
  ·rename_i y hy;injection he with he;injection he with e1 e2;subst e1;subst e2;obtain ⟨v,h1,h2⟩:=Kh (P:=P) (w:=w) hm hr hy;rw [hu];exact ⟨rfl,v,by simp [Instr.field,run_underlying ht,hf,asAgg,h1],h2⟩
  ·simp at he
 ·rename_i us hev;rw [hev] at hp;simp only [Rp] at hp;split at he
  ·rename_i y hy;injection he with he;injection he with e1 e2;subst e1;subst e2;have hr:bW h φ T.length (us.toList.map .v) us.toList:=bW.mk (by simp) λi c u hc hu=>by
    rw [eD,hu] at hc;simp at hc;subst hc;simp [Rp]
   obtain ⟨v,h1,h2⟩:=Kh (P:=P) (w:=w) hm hr hy;rw [hp];exact ⟨rfl,v,by simp [Instr.field,run_underlying ht,hf,asAgg,h1],h2⟩
  ·simp at he
 ·simp at he
def Wc {t e:TypeId} (ht:P.underlying t=some (.slice e)) {k:Nat} (hk:mU P e=some k)
  (hG:rD G h) (hI:Inv h φ w T) (hS:rP h φ T.length s a) {p q:Operand} {x:AV} {T':aQ} (he:bK T (bX G s) (.iad p q k)=some (x,T')) :
  T'=T∧∃ v,(Instr.indexAt t (a.eval p) (a.eval q)).run P w=.ok v w∧Rp h φ T.length x v:=by
 have hp:=dA hG hS p;have run:∀ b o len cap kd (i:Int),0≤i→i.toNat<len→(Instr.indexAt t (.slice (some ⟨b,o,none⟩) len cap) (.int kd i)).run P w=.ok (.pointer (some ⟨b,o+i.toNat*k,none⟩)) w:=by
  intro b o len cap kd i h0 hl;have:0≤i∧i<len:=⟨h0,by omega⟩
  simp [Instr.indexAt,run_underlying ht,asIntOf,this,oB hk,gB]
 simp only [bK] at he;split at he
 ·rename_i k' es kd i hev hix;rw [hev] at hp;simp only [Rp,mB] at hp;obtain ⟨A,c,hu,h1,h2,h3⟩:=hp;split at he
  ·rename_i hc;obtain ⟨rfl,h0⟩:=hc;split at he
   ·rename_i el hj;injection he with he;injection he with e1 e2;subst e1;subst e2;have hlt:i.toNat<es.length:=by
     rcases bY i.toNat es.length with hh | hh
     ·exact hh
     ·simp [gV hh] at hj
    rcases h3 with rfl | ⟨b,o,rfl,hE⟩
    ·simp at hj
    ·rw [hu,lB hG hS hix];refine ⟨rfl,_,run b o _ _ _ i h0 hlt,?_⟩;simp only [Rp];exact ⟨b,_,rfl,(hE.get hj).2⟩
   ·simp at he
  ·simp at he
 ·rename_i i0 kd i hev hix;rw [hev] at hp;simp only [Rp] at hp;split at he
  ·rename_i k' es b hg;split at he
   ·rename_i hc;obtain ⟨rfl,h0,hlt⟩:=hc;injection he with he;injection he with e1 e2;subst e1;subst e2;have hj:es[i.toNat]?=some es[i.toNat]:=fV hlt;obtain ⟨g,c,us,hφ,_,_⟩:=Nl hI hg hj;rw [hp.2.1,hφ,lB hG hS hix];refine ⟨rfl,_,run g 0 _ _ _ i h0 hlt,?_⟩;simp only [Rp];exact ⟨hp.1,g,_,c+1,hφ,by simp⟩
   ·simp at he
  ·simp at he
 ·rename_i i0 k' lo m kd i hev hix;rw [hev] at hp;simp only [Rp] at hp;split at he
  ·rename_i hc;obtain ⟨rfl,h0,hlt⟩:=hc;injection he with he;injection he with e1 e2;subst e1;subst e2;obtain ⟨hi0,A,c,hu,_,_,h3⟩:=hp;rcases h3 with rfl | ⟨g,l,c',hφ,rfl,hle⟩
   ·omega
   ·rw [hu,lB hG hS hix];refine ⟨rfl,_,run g _ _ _ _ i h0 hlt,?_⟩;simp only [Rp];exact ⟨hi0,g,l,c',hφ,by rw [CW,yN]⟩
  ·simp at he
 ·simp at he
def S0 {t e:TypeId} {len:Nat} (ht:P.underlying t=some (.array len e)) {k:Nat} (hk:mU P e=some k)
  (hG:rD G h) (hS:rP h φ T.length s a) {p q:Operand} {x:AV} {T':aQ} (he:bK T (bX G s) (.iadA p q len k)=some (x,T')) :
  T'=T∧∃ v,(Instr.indexAt t (a.eval p) (a.eval q)).run P w=.ok v w∧Rp h φ T.length x v:=by
 have hp:=dA hG hS p;have run:∀ b o kd (i:Int),0≤i∧i<len→(Instr.indexAt t (.pointer (some ⟨b,o,none⟩)) (.int kd i)).run P w=.ok (.pointer (some ⟨b,o+i.toNat*k,none⟩)) w:=by
  intro b o kd i hc;simp [Instr.indexAt,run_underlying ht,asIntOf,Instr.sureAddr,hc,oB hk,gB]
 simp only [bK] at he;split at he
 ·rename_i j o kd i hev hix;rw [hev] at hp;simp only [Rp] at hp;obtain ⟨hi,g,hφ,hu⟩:=hp;split at he
  ·rename_i hc;injection he with he;injection he with e1 e2;subst e1;subst e2;rw [hu,lB hG hS hix];exact ⟨rfl,_,run g o _ i hc,by simp only [Rp];exact ⟨hi,g,hφ,rfl⟩⟩
  ·simp at he
 ·rename_i cs kd i hev hix;rw [hev] at hp;simp only [Rp] at hp;obtain ⟨b,o,hu,hcs⟩:=hp;split at he
  ·rename_i hc;injection he with he;injection he with e1 e2;subst e1;subst e2;rw [hu,lB hG hS hix];exact ⟨rfl,_,run b o _ i hc,by simp only [Rp];exact ⟨b,_,rfl,hcs.drop _⟩⟩
  ·simp at he
 ·simp at he
def Wd {t:TypeId} (ht:P.underlying t=some .string)
  (hG:rD G h) (hS:rP h φ T.length s a) {p q:Operand} {x:AV} {T':aQ} (he:bK T (bX G s) (.ixS p q)=some (x,T')) :
  T'=T∧∃ v,(Instr.index t (a.eval p) (a.eval q)).run P w=.ok v w∧Rp h φ T.length x v:=by
 simp only [bK] at he;split at he
 ·rename_i sb kd i hev hix;split at he
  ·rename_i h0;split at he
   ·rename_i b hb;injection he with he;injection he with e1 e2;subst e1;subst e2;rw [lB hG hS hev,lB hG hS hix];refine ⟨rfl,.int .u8 b.toNat,?_,by simp [Rp]⟩;have:sb[i.toNat]?=some b:=by
     have hlt:i.toNat<sb.data.size:=by
      rcases bY i.toNat sb.data.size with hh | hh
      ·exact hh
      ·simp [GA hh] at hb
     rw [QW hlt] at hb;rw [getElem?_pos sb i.toNat hlt];exact hb
    simp [Instr.index,run_underlying ht,asIntOf,h0,this]
   ·simp at he
  ·simp at he
 ·simp at he
def S2 {t ty:TypeId} (ht:P.underlying t=some .string)
  (hG:rD G h) (hS:rP h φ T.length s a) {p:Operand} {x:AV} {T':aQ} {ts:Array TypeId} (hts:ts[0]?=some t) (he:bK T (bX G s) (.lenS p)=some (x,T')) :
  T'=T∧∃ v,(Builtin.len_ ts ty #[a.eval p]).run P w=.ok v w∧Rp h φ T.length x v:=by
 simp only [bK] at he;split at he
 ·rename_i sb hev;injection he with he;injection he with e1 e2;subst e1;subst e2;rw [lB hG hS hev];exact ⟨rfl,goInt sb.size,by simp [Builtin.len_,hts,run_underlying ht],by simp [Rp,goInt]⟩
 ·simp at he
def S3 {t e ty:TypeId} (ht:P.underlying t=some (.slice e))
  (hG:rD G h) (hI:Inv h φ w T) (hS:rP h φ T.length s a) {p:Operand} {x:AV} {T':aQ} {ts:Array TypeId} (hts:ts[0]?=some t) (he:bK T (bX G s) (.lenL p)=some (x,T')) :
  T'=T∧∃ v,(Builtin.len_ ts ty #[a.eval p]).run P w=.ok v w∧Rp h φ T.length x v:=by
 have hp:=dA hG hS p;have run:∀ A l c,(Builtin.len_ ts ty #[.slice A l c]).run P w=.ok (goInt l) w:=by
  intro A l c;simp [Builtin.len_,hts,run_underlying ht]
 simp only [bK] at he;split at he
 ·rename_i k es hev;rw [hev] at hp;simp only [Rp,mB] at hp;obtain ⟨A,c,hu,_⟩:=hp;injection he with he;injection he with e1 e2;subst e1;subst e2;rw [hu];exact ⟨rfl,_,run _ _ _,by simp [Rp,goInt]⟩
 ·rename_i i hev;rw [hev] at hp;simp only [Rp] at hp;split at he
  ·rename_i k es b hg;injection he with he;injection he with e1 e2;subst e1;subst e2;rw [hp.2.1];obtain ⟨_,⟨A,h1⟩ | ⟨g,c,cur,E,hφ,_⟩⟩:=oV hI hg
   ·rw [h1.1,h1.2];exact ⟨rfl,_,run _ _ _,by simp [Rp,goInt]⟩
   ·rw [hφ];exact ⟨rfl,_,run _ _ _,by simp [Rp,goInt]⟩
  ·simp at he
 ·rename_i hev;injection he with he;injection he with e1 e2;subst e1;subst e2;rw [lB hG hS hev];exact ⟨rfl,_,run _ _ _,by simp [Rp,goInt]⟩
 ·rename_i i k lo m hev;rw [hev] at hp;simp only [Rp] at hp;obtain ⟨_,A,c,hu,_⟩:=hp;injection he with he;injection he with e1 e2;subst e1;subst e2;rw [hu];exact ⟨rfl,_,run _ _ _,by simp [Rp,goInt]⟩
 ·simp at he
end
end
section
def xE {h:GH} {φ:Nat→Value} {T:aQ} {w:World} (hI:Inv h φ w T) {b:Nat} {cs:Array Value} (e:h b=some cs):b<w.heap.size:=by
 obtain ⟨E,fr,hw⟩:=hI.gh b cs e;rcases bY b w.heap.size with hh | hh
 ·exact hh
 ·rw [GA hh] at hw;simp at hw
def gM {h:GH} {φ:Nat→Value} {n:Nat} {w:World} {i:Nat} {o:AObj} (e:vW h φ n w i o) {g:Nat} (hg:mC (φ i)=some g) :
  g<w.heap.size∧h g=none:=by
 have lt:∀ {x:Obj},w.heap[g]?=some x→g<w.heap.size:=by
  intro x hx;rcases bY g w.heap.size with hh | hh
  ·exact hh
  ·rw [GA hh] at hx;simp at hx
 cases o with
 | box cs =>
  obtain ⟨g',us,E,h1,h2,h3,_⟩:=e;rw [h1] at hg;simp only [mC,Option.some.injEq] at hg;subst hg;exact ⟨lt h2,h3⟩
 | arr k es =>
  obtain ⟨_,⟨A,h1⟩ | ⟨g',c,cur,E,h1,h2,_,_,_,h3,_⟩⟩:=e
  ·rw [h1.1] at hg;simp [mC] at hg
  ·rw [h1] at hg;simp only [mC,Option.some.injEq] at hg;subst hg;exact ⟨lt h2,h3⟩
 | arf k es =>
  obtain ⟨_,⟨A,h1⟩ | ⟨g',c,cur,E,h1,h2,_,_,_,h3,_⟩⟩:=e
  ·rw [h1.1] at hg;simp [mC] at hg
  ·rw [h1] at hg;simp only [mC,Option.some.injEq] at hg;subst hg;exact ⟨lt h2,h3⟩
 | lp r s =>
  obtain ⟨g',h1,h2,h3,_⟩:=e;rw [h1] at hg;simp only [mC,Option.some.injEq] at hg;subst hg;exact ⟨lt h2,h3⟩
 | mit m since seen st =>
  obtain ⟨g',mo,h1,h2,h3,_⟩:=e;rw [h1] at hg;simp only [mC,Option.some.injEq] at hg;subst hg;exact ⟨lt h2,h3⟩
 | map ag ks vs bs cl =>
  obtain ⟨g',ens,h1,h2,h3,_⟩:=e;rw [h1] at hg;simp only [mC,Option.some.injEq] at hg;subst hg;exact ⟨lt h2,h3⟩
def oC {h h':GH} {φ φ':Nat→Value} {n n':Nat} {w w':World} {i:Nat} {o:AObj} (e:vW h φ n w i o) (le:Ad h h') (hn:n≤n') (hp:∀ j,j<n→φ' j=φ j) (hi:i<n)
  (hb:∀ g,mC (φ i)=some g→w'.heap[g]?=w.heap[g]?∧h' g=none):vW h' φ' n' w' i o:=by
 cases o with
 | box cs =>
  obtain ⟨g,us,E,h1,h2,h3,h4⟩:=e;obtain ⟨h5,h6⟩:=hb g (by rw [h1];rfl);exact ⟨g,us,E,by rw [hp i hi];exact h1,by rw [h5];exact h2,h6,h4.mono le hn hp⟩
 | arr k es =>
  obtain ⟨h0,h1 | ⟨g,c,cur,E,h1,h2,h3,h4,h5,h6,h7⟩⟩:=e
  ·exact ⟨h0,.inl (by rw [hp i hi];exact h1)⟩
  ·obtain ⟨h8,h9⟩:=hb g (by rw [h1];rfl);exact ⟨h0,.inr ⟨g,c,cur,E,by rw [hp i hi];exact h1,by rw [h8];exact h2,h3,h4,h5,h9,h7.mono le⟩⟩
 | arf k es =>
  obtain ⟨h0,h1 | ⟨g,c,cur,E,h1,h2,h3,h4,h5,h6,h7⟩⟩:=e
  ·exact ⟨h0,.inl (by rw [hp i hi];exact h1)⟩
  ·obtain ⟨h8,h9⟩:=hb g (by rw [h1];rfl);exact ⟨h0,.inr ⟨g,c,cur,E,by rw [hp i hi];exact h1,by rw [h8];exact h2,h3,h4,h5,h9,h7.mono le hn hp⟩⟩
 | lp r s =>
  obtain ⟨g,h1,h2,h3,h4,h5⟩:=e;obtain ⟨h8,h9⟩:=hb g (by rw [h1];rfl);exact ⟨g,by rw [hp i hi];exact h1,by rw [h8];exact h2,h9,h4,λp hpm=>(h5 p hpm).mono le hn hp⟩
 | mit m since seen st =>
  obtain ⟨g,mo,h1,h2,h3,h4⟩:=e;obtain ⟨h8,h9⟩:=hb g (by rw [h1];rfl);refine ⟨g,mo,by rw [hp i hi];exact h1,by rw [h8];exact h2,h9,?_⟩
  cases m with
  | none=>exact h4
  | some j =>
   obtain ⟨b,h5,h6,h7⟩:=h4;exact ⟨b,h5,by omega,by rw [hp j h6];exact h7⟩
 | map ag ks vs bs cl =>
  obtain ⟨g,ens,h1,h2,h3,h4,h5,h6⟩:=e;obtain ⟨h8,h9⟩:=hb g (by rw [h1];rfl);exact ⟨g,ens,by rw [hp i hi];exact h1,by rw [h8];exact h2,h9,h4,h5,h6.mono le hn hp⟩
def We (φ:Nat→Value) (n:Nat) (v:Value):Nat→Value:=λi=>if i=n then v else φ i
def fK {φ:Nat→Value} {n i:Nat} {v:Value} (h:i<n):We φ n v i=φ i:=by unfold We;rw [if_neg (by omega)]
def bE {φ:Nat→Value} {n:Nat} {v:Value}:We φ n v n=v:=by unfold We;rw [if_pos rfl]
def iZ {T:aQ} {o:Option AObj} {i:Nat} {x:AObj} (e:(T++[o])[i]?=some (some x)):(i<T.length∧T[i]?=some (some x))∨(i=T.length∧o=some x):=by
 rcases bY i T.length with hh | hh
 ·rw [Eb hh] at e;exact .inl ⟨hh,e⟩
 ·rw [KG hh] at e;have h0:i-T.length=0:=by
   rcases Oh (i-T.length) with h | h
   ·exact h
   ·rw [gV (by simp;omega)] at e;simp at e
  rw [h0] at e;simp at e;exact .inr ⟨by omega,e⟩
def kF {T:aQ} {o:Option AObj} {i j:Nat} {x:AObj} (e:(T.set j o)[i]?=some (some x)):(i=j∧o=some x)∨(i≠j∧T[i]?=some (some x)):=by
 rw [Ec] at e;split at e
 ·rename_i hh;subst hh;split at e
  ·injection e with e;exact .inl ⟨rfl,e⟩
  ·simp at e
 ·rename_i hh;exact .inr ⟨λh=>hh h.symm,e⟩
def qL {h:GH} {φ:Nat→Value} {T:aQ} {w w':World} (hI:Inv h φ w T) (hos:w'.os=w.os) (htp:w'.tape=w.tape) (hout:w'.output=w.output) (hsz:w.heap.size≤w'.heap.size)
  (hb:∀ b,b<w.heap.size→w'.heap[b]?=w.heap[b]?) {o:AObj} {v:Value} (hv:∀ g,mC v=some g→w.heap.size≤g) (ho:vW h (We φ T.length v) (T.length+1) w' T.length o)
  (hdr:w.drawn≤w'.drawn:=by first | exact fW _ | exact Ni _ | assumption) :
  Inv h (We φ T.length v) w' (T++[some o])∧Evo h φ T w h (We φ T.length v) (T++[some o]) w':=by
 have old:∀ i x,T[i]?=some (some x)→i<T.length:=by
  intro i x e;rcases bY i T.length with hh | hh
  ·exact hh
  ·rw [gV hh] at e;simp at e
 refine ⟨⟨?_,?_,?_⟩,⟨hos,htp,hout,hsz,λb hb' _=>hb b hb',Ad.refl h,λ_ _ e=>.inl e,λi hi=>fK hi,?_,by simp,hdr⟩⟩
 ·intro b cs e;obtain ⟨E,fr,hw⟩:=hI.gh b cs e;exact ⟨E,fr,by rw [hb b (xE hI e)];exact hw⟩
 ·intro i x e;rcases iZ e with ⟨hi,e'⟩ | ⟨rfl,e'⟩
  ·have h1:=hI.obj i x e';rw [dU];exact oC h1 (Ad.refl h) (by simp) (λj hj=>fK hj) hi λg hg=>by
    obtain ⟨h2,h3⟩:=gM h1 hg;exact ⟨hb g h2,h3⟩
  ·injection e' with e';subst e';rw [dU];exact ho
 ·intro i j oi oj b ei ej hbi hbj;rcases iZ ei with ⟨hi,ei'⟩ | ⟨rfl,ei'⟩<;>rcases iZ ej with ⟨hj,ej'⟩ | ⟨rfl,ej'⟩
  ·rw [fK hi] at hbi;rw [fK hj] at hbj;exact hI.dis i j oi oj b ei' ej' hbi hbj
  ·rw [fK hi] at hbi;rw [bE] at hbj;have:=(gM (hI.obj i oi ei') hbi).1;have:=hv b hbj;omega
  ·rw [bE] at hbi;rw [fK hj] at hbj;have:=(gM (hI.obj j oj ej') hbj).1;have:=hv b hbi;omega
  ·rfl
 ·intro i x b e hbl;rcases iZ e with ⟨hi,e'⟩ | ⟨rfl,e'⟩
  ·rw [fK hi] at hbl;exact .inr ⟨i,x,e',hbl⟩
  ·rw [bE] at hbl;exact .inl (hv b hbl)
def D7 {h:GH} {φ:Nat→Value} {T:aQ} {w w':World} (hI:Inv h φ w T) (hos:w'.os=w.os) (htp:w'.tape=w.tape) (hout:w'.output=w.output) (hsz:w.heap.size≤w'.heap.size)
  {i:Nat} {o o':AObj} (hi:T[i]?=some (some o)) (hb:∀ b,b<w.heap.size→mC (φ i)≠some b→w'.heap[b]?=w.heap[b]?) (ho:vW h φ T.length w' i o')
  (hdr:w.drawn≤w'.drawn:=by first | exact fW _ | exact Ni _ | assumption) :
  Inv h φ w' (T.set i (some o'))∧Evo h φ T w h φ (T.set i (some o')) w':=by
 have hlt:i<T.length:=by
  rcases bY i T.length with hh | hh
  ·exact hh
  ·rw [gV hh] at hi;simp at hi
 refine ⟨⟨?_,?_,?_⟩,⟨hos,htp,hout,hsz,λb hb' hn=>hb b hb' (hn i o hi),Ad.refl h,λ_ _ e=>.inl e,λ_ _=>rfl,?_,by simp,hdr⟩⟩
 ·intro b cs e;obtain ⟨E,fr,hw⟩:=hI.gh b cs e;refine ⟨E,fr,?_⟩;rw [hb b (xE hI e) λhbl=>?_]
  ·exact hw
  ·have:=(gM (hI.obj i o hi) hbl).2;rw [e] at this;simp at this
 ·intro j x e;rw [mA];rcases kF e with ⟨rfl,e'⟩ | ⟨hne,e'⟩
  ·injection e' with e';subst e';exact ho
  ·have h1:=hI.obj j x e';have hj:j<T.length:=by
    rcases bY j T.length with hh | hh
    ·exact hh
    ·rw [gV hh] at e';simp at e'
   exact oC h1 (Ad.refl h) (fW _) (λ_ _=>rfl) hj λg hg=>by
    obtain ⟨h2,h3⟩:=gM h1 hg;exact ⟨hb g h2 λhbl=>hne (hI.dis j i x o g e' hi hg hbl),h3⟩
 ·intro j k oj ok b ej ek hbj hbk;have get:∀ {m:Nat} {x:AObj},(T.set i (some o'))[m]?=some (some x)→∃ y,T[m]?=some (some y):=by
   intro m x e;rcases kF e with ⟨rfl,_⟩ | ⟨_,e'⟩
   ·exact ⟨o,hi⟩
   ·exact ⟨x,e'⟩
  obtain ⟨y,hy⟩:=get ej;obtain ⟨z,hz⟩:=get ek;exact hI.dis j k y z b hy hz hbj hbk
 ·intro j x b e hbl;rcases kF e with ⟨rfl,_⟩ | ⟨_,e'⟩
  ·exact .inr ⟨j,o,hi,hbl⟩
  ·exact .inr ⟨j,x,e',hbl⟩
def uP {h:GH} {φ:Nat→Value} {T:aQ} {w:World} (hI:Inv h φ w T) (i:Nat):Inv h φ w (T.set i none)∧Evo h φ T w h φ (T.set i none) w:=by
 have get:∀ {m:Nat} {x:AObj},(T.set i none)[m]?=some (some x)→T[m]?=some (some x):=by
  intro m x e;rcases kF e with ⟨_,e'⟩ | ⟨_,e'⟩
  ·simp at e'
  ·exact e'
 refine ⟨⟨hI.gh,?_,?_⟩,⟨rfl,rfl,rfl,fW _,λ_ _ _=>rfl,Ad.refl h,λ_ _ e=>.inl e,λ_ _=>rfl,?_,by simp,fW _⟩⟩
 ·intro j x e;rw [mA];exact hI.obj j x (get e)
 ·intro j k x y b e e';exact hI.dis j k x y b (get e) (get e')
 ·intro j x b e hb;exact .inr ⟨j,x,get e,hb⟩
end
section
section
variable {P:Program} {G:Nat→Option (List AV)} {h:GH} {φ:Nat→Value} {T:aQ} {w:World} {s:List (Nat×AV)} {a:Act}
def gY (h:GH) (φ:Nat→Value) (T:aQ) (w:World) (run:Result Value) (x:AV) (T':aQ):Prop :=
 ∃ v w' h' φ',run=.ok v w'∧Evo h φ T w h' φ' T' w'∧Inv h' φ' w' T'∧Rp h' φ' T'.length x v
def jN (w:World) (o:Obj) (b:Nat) (h:b<w.heap.size):(w.alloc o).heap[b]?=w.heap[b]?
  := by rw [World.alloc,Array.getElem?_push,if_neg (by omega)]
def VR (hI:Inv h φ w T) {cs:List AV} {us:Array Value} (hr:bW h φ T.length cs us.toList) (E:TypeId) :
  gY h φ T w (.ok (.pointer (some ⟨w.heap.size,0,none⟩)) (w.alloc (.cells us E))) (.ptr T.length 0) (T++[some (.box cs)]):=by
 have hn:h w.heap.size=none:=by
  cases e:h w.heap.size with
  | none=>rfl
  | some cs=>have:=xE hI e;omega
 have:=qL (w':=w.alloc (.cells us E)) (o:=.box cs) (v:=.pointer (some ⟨w.heap.size,0,none⟩)) hI rfl rfl rfl (by simp) (λb hb=>jN w _ b hb)
  (λg hg=>by simp only [mC,Option.some.injEq] at hg;omega)
  ⟨w.heap.size,us,E,bE,heap_alloc_new w _,hn,hr.mono (Ad.refl h) (by omega) λi hi=>fK hi⟩
 refine ⟨_,_,h,_,rfl,this.2,this.1,?_⟩;simp only [Rp];exact ⟨by simp,w.heap.size,bE,rfl⟩
def Wf (hG:rD G h) (hI:Inv h φ w T) (hS:rP h φ T.length s a) {E:TypeId} {p:Operand} {x:AV} {T':aQ} (he:bK T (bX G s) (.box p)=some (x,T')) :
  gY h φ T w ((Instr.box E (a.eval p)).run P w) x T':=by
 simp only [bK] at he;split at he
 ·rename_i hone;injection he with he;injection he with e1 e2;subst e1;subst e2;have hr:=An (dA hG hS p) (λc hc=>kY.1 hone c hc);have:(Instr.box E (a.eval p)).run P w=.ok (.pointer (some ⟨w.heap.size,0,none⟩)) (w.alloc (.cells (a.eval p).cells E)):=by
   simp [Instr.box,newVar,newRow]
  rw [this];exact VR hI hr E
 ·simp at he
def Ki (h:GH) (φ:Nat→Value) (n:Nat):∀ (us:List Value),bW h φ n (us.map .v) us
 | []=>by simp [bW]
 | u::us=>by simp only [cN,bW];exact ⟨u,us,rfl,by simp [Rp],Ki h φ n us⟩
def Q0 (hI:Inv h φ w T) {E:TypeId} {i:TypeInfo} {z:Value} (hi:P.info? E=some i) (hz:i.zero=some z) {ev:Operand→AV} {x:AV} {T':aQ} (he:bK T ev (.alloc z.cells.toList)=some (x,T')) :
  gY h φ T w ((Instr.alloc E true (.tuple #[])).run P w) x T':=by
 simp only [bK] at he;injection he with he;injection he with e1 e2;subst e1;subst e2;have:(Instr.alloc E true (.tuple #[])).run P w=.ok (.pointer (some ⟨w.heap.size,0,none⟩)) (w.alloc (.cells z.cells E)):=by
  simp [Instr.alloc,zeroValue,typeInfo,hi,hz,newVar,newRow]
 rw [this];exact VR hI (by simpa using Ki h φ T.length z.cells.toList) E
def ZJ (vs:Array Value) (off:Nat) (cs:Array Value) (hl:off+vs.size≤cs.size) :
  (vs.zipIdx.foldl (λcs (c,j)=>cs.setIfInBounds (off+j) c) cs).toList=cs.toList.take off++vs.toList++cs.toList.drop (off+vs.size):=by
 have key:∀ (l:List Value) (k:Nat) (cs:Array Value),off+k+l.length≤cs.size →
   ((l.zipIdx k).foldl (λ(cs:Array Value) (p:Value×Nat)=>cs.setIfInBounds (off+p.2) p.1) cs).toList=cs.toList.take (off+k)++l++cs.toList.drop (off+k+l.length):=by
  intro l
  induction l with
  | nil=>intro k cs _;simp
  | cons v l ih =>
   intro k cs hc;simp only [kS] at hc;simp only [List.zipIdx_cons,HO];rw [ih (k+1) _ (by simp;omega)];have:=list_seg_step cs.toList (off+k) v l (by simp;omega);simpa [Array.toList_setIfInBounds,Nf] using this
 have:=key vs.toList 0 cs (by simpa using hl);rw [←Array.foldl_toList,Array.toList_zipIdx];simpa using this
def Om (a:Act) (l:List (Nat×Nat×Operand)):List (Nat×Nat×Value):=l.map λp=>(p.1,p.2.1,a.eval p.2.2)
def Wg (cells:List Value):List (Nat×Nat×Value)→Option (List Value)
 | []=>some cells
 | (off,n,x)::r=>if x.cells.size=n∧off+n≤cells.length then Wg (cells.take off++x.cells.toList++cells.drop (off+n)) r else none
def S4 (hG:rD G h) (hS:rP h φ T.length s a):∀ (l:List (Nat×Nat×Operand)) {cells:List AV} {us:List Value} {cs:List AV},bW h φ T.length cells us →
  HT cells (l.map λp=>(p.1,p.2.1,bX G s p.2.2))=some cs→∃ vs,Wg us (Om a l)=some vs∧bW h φ T.length cs vs
 | [],cells,us,cs,hr,e=>by
  simp only [eQ,HT,Option.some.injEq] at e;subst e;exact ⟨us,rfl,hr⟩
 | p::l,cells,us,cs,hr,e=>by
  simp only [cN,HT] at e;split at e
  ·rename_i hc;have hx:=An (dA hG hS p.2.2) (λc hc'=>kY.1 hc.2.2 c hc');have hl:=hx.length;have hrl:=hr.length;simp only [Om,cN,Wg];rw [if_pos ⟨by simp only [FM] at hl;omega,by omega⟩];exact S4 hG hS l (((hr.take _).app hx).app (hr.drop _)) e
  ·simp at e
def Oo {place:Nat→Option (Nat×Nat)} (pl:Nat→Nat×Nat):∀ (l:List (Nat×Value)) (cells:Array Value) (vs:List Value),
  (∀ p∈l,place p.1=some (pl p.1))→Wg cells.toList (l.map λp=>((pl p.1).1,(pl p.1).2,p.2))=some vs→Instr.fill place cells l=some vs.toArray
 | [],cells,vs,_,e=>by
  simp only [eQ,Wg,Option.some.injEq] at e;subst e;simp [Instr.fill]
 | (i,v)::l,cells,vs,hf,e=>by
  have hp:=hf (i,v) (by simp);simp only [cN,Wg] at e;split at e
  ·rename_i hc;simp only [FM] at hc;simp only [Instr.fill,hp];rw [if_neg (by simp;omega)];refine Oo pl l _ vs (λp hp=>hf p (by simp [hp])) ?_;rw [ZJ _ _ _ (by omega),hc.1];exact e
  ·simp at e
def Nm (n:Nat):∀ (l:List (Nat×Operand)),HY n l=l.map λp=>(p.1*n,n,p.2)
 | []=>rfl
 | (i,x)::l=>by simp [HY,Nm n l]
def plB (P:Program) (fs:List Field) (i:Nat):Nat×Nat:=match fs[i]? with | some f=>(f.offset,(mU P f.type).getD 0) | none=>(0,0)
def Nn {fs:List Field}:∀ {l:List (Nat×Operand)} {r:List (Nat×Nat×Operand)},HX P fs l=some r →
  r=(l.map λp=>((plB P fs p.1).1,(plB P fs p.1).2,p.2))∧∀ p∈l,∃ f n,fs[p.1]?=some f∧mU P f.type=some n∧plB P fs p.1=(f.offset,n)
 | [],r,e=>by simp only [HX,Option.some.injEq] at e;subst e;simp
 | (i,x)::l,r,e=>by
  simp only [HX] at e;split at e
  ·simp at e
  ·rename_i f hf;split at e
   ·rename_i n l' hn hl;injection e with e;obtain ⟨h1,h2⟩:=Nn hl;have hp:plB P fs i=(f.offset,n):=by simp [plB,hf,hn]
    subst h1;subst e;refine ⟨by simp [hp],λp hp'=>?_⟩;rcases gK.1 hp' with rfl | hp'
    ·exact ⟨f,n,hf,hn,hp⟩
    ·exact h2 p hp'
   ·simp at e
def Q1 (fs:List Field) (hs:∀ f∈fs,(mU P f.type).isSome=true) :
  (fs.mapM λf=>do pure (f.offset,←Go.sizeOf f.type):Sem (List (Nat×Nat))).run P w=.ok (fs.map λf=>(f.offset,(mU P f.type).getD 0)) w:=by
 induction fs with
 | nil=>simp
 | cons f fs ih =>
  obtain ⟨n,hn⟩:=Yc.1 (hs f (by simp));rw [List.mapM_cons];simp only [Sem.run_bind,oB hn,Result.andThen_ok,Sem.run_pure,ih λf hf=>hs f (by simp [hf]),cN,hn,KL]
def S5 {t:TypeId} {fs:Array Field} (ht:P.underlying t=some (.struct fs)) {i:TypeInfo} (hi:P.info? t=some i) {z:Value} (hz:i.zero=some z) {parts:Array (Nat×Operand)} {l:List (Nat×Nat×Operand)}
  (hl:HX P fs.toList parts.toList=some l) (hfs:fs.toList.all (λf=>(mU P f.type).isSome)=true) (hG:rD G h) (hS:rP h φ T.length s a) {x:AV} {T':aQ}
  (he:bK T (bX G s) (.bld z.cells.toList l)=some (x,T')) :
  T'=T∧∃ v,(Instr.build t (parts.map λ(i,x)=>(i,a.eval x))).run P w=.ok v w∧Rp h φ T.length x v:=by
 simp only [bK] at he;split at he
 ·rename_i cs hcs;injection he with he;injection he with e1 e2;subst e1;subst e2;obtain ⟨vs,h1,h2⟩:=S4 hG hS l (Ki h φ T.length z.cells.toList) hcs;obtain ⟨h3,h4⟩:=Nn hl;have hpl:=Q1 (P:=P) (w:=w) fs.toList (λf hf=>kY.1 hfs f hf);have hfill:=Oo (place:=λi=>(fs.toList.map λf=>(f.offset,(mU P f.type).getD 0)).toArray[i]?) (plB P fs.toList) (parts.toList.map λp=>(p.1,a.eval p.2)) z.cells vs
   (λp hp=>by
    obtain ⟨q,hq,rfl⟩:=dE.1 hp;obtain ⟨f,n,hf,hn,hb⟩:=h4 q hq
    simp [hf,hb,hn]) (by rw [←h1,h3];simp [Om,Ee,Function.comp_def])
  refine ⟨rfl,.agg vs.toArray,?_,by simp only [Rp];exact ⟨_,rfl,by simpa using h2⟩⟩;have hm:(fs.mapM λf=>do pure (f.offset,←Go.sizeOf f.type):Sem (Array (Nat×Nat))).run P w=.ok (fs.toList.map λf=>(f.offset,(mU P f.type).getD 0)).toArray w:=by
   rw [aDs];simp only [Sem.run_map,hpl,Result.andThen_ok]
  simp only [Instr.build,Sem.run_bind,zeroValue,typeInfo,run_program,Result.andThen_ok,hi,Sem.run_pure,hz,run_underlying ht,hm];simp only [Array.toList_map];rw [hfill];rfl
 ·simp at he
end
end
section
def Ig {k:Nat}:∀ (n:Nat) (cs:List AV),cs.length=n*k→(rX k n cs).flatten=cs∧(rX k n cs).length=n∧∀ e∈rX k n cs,e.length=k
 | 0,cs,hl=>by
  have:cs=[]:=CR (by simpa using hl);subst this;simp [rX]
 | n+1,cs,hl=>by
  rw [E3] at hl;obtain ⟨h1,h2,h3⟩:=Ig (k:=k) n (cs.drop k) (by rw [tT];omega);refine ⟨by simp [rX,h1],by simp [rX,h2],λe he=>?_⟩;simp only [rX,gK] at he;rcases he with rfl | he
  ·rw [hZ];omega
  ·exact h3 e he
def Wh {h:GH} {φ:Nat→Value} {n:Nat}:∀ {x:AV} {u:Value},Rp h φ n x u→bB x=true→mB h x u
 | .v _,u,e,_=>by simpa [Rp,mB] using e
 | .ls k es,u,e,_=>by simpa only [Rp] using e
 | .ag _,_,_,hc=>by simp [bB] at hc
 | .own _,_,_,hc=>by simp [bB] at hc
 | .ptr _ _,_,_,hc=>by simp [bB] at hc
 | .elt _ _ _ _,_,_,hc=>by simp [bB] at hc
 | .vw _ _ _ _,_,_,hc=>by simp [bB] at hc
 | .mp _,_,_,hc=>by simp [bB] at hc
 | .yl _,_,_,hc=>by simp [bB] at hc
 | .rp _,_,_,hc=>by simp [bB] at hc
 | .cl _ _,_,_,hc=>by simp [bB] at hc
 | .bm _ _ _,_,_,hc=>by simp [bB] at hc
 | .tup _,_,_,hc=>by simp [bB] at hc
 | .any,_,_,hc=>by simp [bB] at hc
def S6 {h:GH} {φ:Nat→Value} {n:Nat} {cs:List AV} {us:List Value} (e:bW h φ n cs us) (hc:∀ c∈cs,bB c=true):cB h cs us :=
 cB.mk e.length λi c u hi hu=>by
  obtain ⟨u',h1,h2⟩:=e.get hi;rw [hu] at h1;injection h1 with h1;subst h1;exact Wh h2 (hc c (IR hi))
def GS (z:List Value):∀ n,(GQ z n).length=n*z.length
 | 0=>by simp [GQ]
 | n+1=>by simp [GQ,GS z n,E3];omega
def Kj (z:List Value) (hz:0<z.length):∀ (n i:Nat),i<n*z.length→(GQ z n)[i]?=z[i%z.length]?
 | 0,i,hi=>by simp at hi
 | n+1,i,hi=>by
  simp only [GQ];by_cases hlt:i<z.length
  ·rw [Eb hlt,Ed hlt]
  ·rw [KG (by omega),Kj z hz n (i-z.length) (by rw [CW,GJ] at hi;omega)];congr 1;exact (Nat.mod_eq_sub_mod (by omega)).symm
def No (z:Array Value) (hz:0<z.size) (n:Nat):((Array.range (n*z.size)).map λi=>z[i%z.size]!).toList=GQ z.toList n:=by
 apply BV;intro i;rcases bY i (n*z.size) with hi | hi
 ·rw [Kj z.toList (by simpa using hz) n i (by simpa using hi)];have hm:i%z.size<z.size:=Aj _ hz;simp [hi,hm]
 ·rw [gV (by simp;omega),gV (by rw [GS];simpa using hi)]
def cB.app {h:GH} {cs ds:List AV} {us vs:List Value} (a:cB h cs us) (b:cB h ds vs):cB h (cs++ds) (us++vs):=by
 induction cs generalizing us with
 | nil=>simp only [cB] at a;subst a;simpa using b
 | cons c cs ih =>
  simp only [cB] at a;obtain ⟨u,us',rfl,h1,h2⟩:=a;simp only [Ag,cB];exact ⟨u,us'++vs,rfl,h1,ih h2⟩
def cB.take {h:GH} {cs:List AV} {us:List Value} (a:cB h cs us) (m:Nat):cB h (cs.take m) (us.take m):=by simpa using a.sub 0 m
def cB.drop {h:GH} {cs:List AV} {us:List Value} (a:cB h cs us) (m:Nat):cB h (cs.drop m) (us.drop m):=by
 have:=a.sub m cs.length;rwa [pY (by simp),pY (by rw [tT,a.length];omega)] at this
def Q2 {k:Nat}:∀ {es:List (List AV)},(∀ e∈es,e.length=k)→∀ {j:Nat} {e:List AV},es[j]?=some e→∀ {off n:Nat} {x:List AV},off+n≤k →
  (es.set j (e.take off++x++e.drop (off+n))).flatten=es.flatten.take (j*k+off)++x++es.flatten.drop (j*k+off+n)
 | [],_,j,e,hj,_,_,_,_=>by simp at hj
 | d::es,hl,j,e,hj,off,n,x,hle=>by
  have hd:=hl d (by simp)
  cases j with
  | zero =>
   simp only [KH,Option.some.injEq] at hj;subst hj;simp only [Yx,qP,Nat.zero_mul,rW];rw [QY (by omega),Ya (by omega)];simp [eE]
  | succ j =>
   simp only [I8] at hj;simp only [Yy,qP];rw [Q2 (λe he=>hl e (by simp [he])) hj hle];have e1:(j+1)*k+off=d.length+(j*k+off):=by rw [CW,GJ,hd];omega
   rw [e1,Nf d.length,Yb,Sw];simp [eE]
def Q3 {α:Type} (L vals:List α) (p n m:Nat) (h1:p+n≤m) (h2:m≤L.length) (hv:vals.length=n) :
  (L.take p++vals++L.drop (p+n)).take m=(L.take m).take p++vals++(L.take m).drop (p+n):=by
 rw [List.take_append,pY (by simp;omega),List.drop_take,Qp];congr 2
 ·congr 1;omega
 ·simp;omega
section
variable {P:Program} {G:Nat→Option (List AV)} {h:GH} {φ:Nat→Value} {T:aQ} {w:World} {s:List (Nat×AV)} {a:Act}
def D8 (hI:Inv h φ w T):h w.heap.size=none:=by
 cases e:h w.heap.size with
 | none=>rfl
 | some cs=>have:=xE hI e;omega
def BU.mono {h h':GH} {φ φ':Nat→Value} {n n':Nat} {b:Bool} {cs:List AV} {us:List Value} (g:Ad h h') (hn:n≤n') (hp:∀ i,i<n→φ' i=φ i) (a:BU h φ n b cs us):BU h' φ' n' b cs us:=by
 cases b with
 | true=>exact cB.mono g a
 | false=>exact bW.mono g hn hp a
def BU.app {h:GH} {φ:Nat→Value} {n:Nat} {b:Bool} {cs ds:List AV} {us vs:List Value} (x:BU h φ n b cs us) (y:BU h φ n b ds vs):BU h φ n b (cs++ds) (us++vs):=by
 cases b with
 | true=>exact cB.app x y
 | false=>exact bW.app x y
def BU.take {h:GH} {φ:Nat→Value} {n:Nat} {b:Bool} {cs:List AV} {us:List Value} (x:BU h φ n b cs us) (m:Nat):BU h φ n b (cs.take m) (us.take m):=by
 cases b with
 | true=>exact cB.take x m
 | false=>exact bW.take x m
def BU.drop {h:GH} {φ:Nat→Value} {n:Nat} {b:Bool} {cs:List AV} {us:List Value} (x:BU h φ n b cs us) (m:Nat):BU h φ n b (cs.drop m) (us.drop m):=by
 cases b with
 | true=>exact cB.drop x m
 | false=>exact bW.drop x m
def BU.length {h:GH} {φ:Nat→Value} {n:Nat} {b:Bool} {cs:List AV} {us:List Value} (x:BU h φ n b cs us):cs.length=us.length:=by
 cases b with
 | true=>exact cB.length x
 | false=>exact bW.length x
def BU.of {h:GH} {φ:Nat→Value} {n:Nat} {b:Bool} {cs:List AV} {us:List Value} (e:bW h φ n cs us) (hc:∀ c∈cs,Mv b c=true):BU h φ n b cs us:=by
 cases b with
 | true=>exact S6 e hc
 | false=>exact e
def BU.weaken {h:GH} {φ:Nat→Value} {n:Nat} {b c:Bool} {cs:List AV} {us:List Value} (x:BU h φ n b cs us) (hbc:c=true→b=true):BU h φ n c cs us:=by
 cases c with
 | true=>rw [hbc rfl] at x;exact x
 | false=>exact x.toL
def oD {b c:Bool} {x:AV} (hx:Mv b x=true) (hbc:c=true→b=true):Mv c x=true:=by
 cases c with
 | true=>rw [hbc rfl] at hx;exact hx
 | false=>exact Jg hx
def qB (hI:Inv h φ w T) {w1:World} (h1:w1.heap=w.heap) (hos:w1.os=w.os) (htp:w1.tape=w.tape) (hout:w1.output=w.output) {b:Bool} {k n c:Nat} {es:List (List AV)} (hes:∀ e∈es,e.length=k∧∀ c∈e,Mv b c=true) (hn:es.length=n) {cur:Array Value} (hc:n≤c) (hcm:c≤maxLen) (hcs:cur.size=c*k)
  (hr:BU h φ T.length b es.flatten (cur.toList.take (n*k))) (E:TypeId) (hdr:w.drawn≤w1.drawn:=by first | exact fW _ | exact Ni _ | assumption) :
  gY h φ T w (.ok (.slice (some ⟨w.heap.size,0,none⟩) n c) (w1.alloc (.cells cur E))) (.own T.length) (T++[some (iA b k es)]):=by
 subst hn;have hsz:w1.heap.size=w.heap.size:=by rw [h1]
 have hnew:(w1.alloc (.cells cur E)).heap[w.heap.size]?=some (.cells cur E (0,0)):=by rw [←hsz];exact heap_alloc_new w1 _
 have:=qL (w':=w1.alloc (.cells cur E)) (o:=iA b k es) (v:=.slice (some ⟨w.heap.size,0,none⟩) es.length c) hI hos htp hout (by simp [hsz]) (λb hb=>by rw [jN w1 _ b (by omega),h1])
  (λg hg=>by
   cases c with
   | zero=>simp [mC] at hg
   | succ c=>simp only [mC,Option.some.injEq] at hg;omega)
  (lC.2 (by
   cases c with
   | zero=>exact ⟨hes,.inl ⟨_,by rw [bE,Qu.1 hc],CR (Qu.1 hc)⟩⟩
   | succ c=>exact ⟨hes,.inr ⟨w.heap.size,c,cur,E,bE,hnew,hc,hcm,hcs,D8 hI,hr.mono (Ad.refl h) (by omega) λi hi=>fK hi⟩⟩))
 refine ⟨_,_,h,_,rfl,this.2,this.1,?_⟩;simp only [Rp];exact ⟨by simp,bE.symm,_,_,_,rfl⟩
def VS (hI:Inv h φ w T) {w1:World} (h1:w1.heap=w.heap) (hos:w1.os=w.os) (htp:w1.tape=w.tape) (hout:w1.output=w.output) {k n c:Nat} {es:List (List AV)} (hes:∀ e∈es,e.length=k∧∀ c∈e,bB c=true) (hn:es.length=n) {cur:Array Value} (hc:n≤c) (hcm:c≤maxLen) (hcs:cur.size=c*k)
  (hr:cB h es.flatten (cur.toList.take (n*k))) (E:TypeId) (hdr:w.drawn≤w1.drawn:=by first | exact fW _ | exact Ni _ | assumption) :
  gY h φ T w (.ok (.slice (some ⟨w.heap.size,0,none⟩) n c) (w1.alloc (.cells cur E))) (.own T.length) (T++[some (.arr k es)]):=qB (b:=true) hI h1 hos htp hout hes hn hc hcm hcs hr E hdr
def Wi {t e:TypeId} (ht:P.underlying t=some (.slice e)) {i:TypeInfo} (hi:P.info? e=some i) {z:Value} (hz:i.zero=some z) (hzs:z.cells.size=i.size) (h0:0<i.size) {len:Nat} (hlen:len*i.size≤2^20) (hpos:0<len) {parts:Array (Nat×Operand)}
  (hG:rD G h) (hI:Inv h φ w T) (hS:rP h φ T.length s a) {x:AV} {T':aQ}
  (he:bK T (bX G s) (.bsl i.size (GQ z.cells.toList len) (HY i.size parts.toList) len)=some (x,T')) :
  gY h φ T w ((Instr.buildSlice t len (parts.map λ(i,x)=>(i,a.eval x))).run P w) x T':=by
 simp only [bK] at he;split at he
 ·rename_i cs hcs;obtain ⟨b,hcl,hx⟩:∃ b:Bool,(∀ c∈cs,Mv b c=true)∧(some (AV.own T.length,T++[some (iA b i.size (rX i.size len cs))])=some (x,T')):=by
   split at he
   ·rename_i hcl;exact ⟨true,λc hc=>kY.1 hcl c hc,he⟩
   ·split at he
    ·rename_i hcl;exact ⟨false,λc hc=>kY.1 hcl c hc,he⟩
    ·simp at he
  clear he;have he:=hx
  ·injection he with he;injection he with e1 e2;subst e1;subst e2;obtain ⟨vs,h1,h2⟩:=S4 hG hS (HY i.size parts.toList) (Ki h φ T.length (GQ z.cells.toList len)) hcs;have hrange:=No z.cells (by omega) len;have hfill:=Oo (place:=λj=>some (j*i.size,i.size)) (λj=>(j*i.size,i.size)) (parts.toList.map λp=>(p.1,a.eval p.2)) ((Array.range (len*z.cells.size)).map λj=>z.cells[j%z.cells.size]!) vs (λp _=>rfl)
    (by rw [hrange,←h1,Nm];simp [Om,Ee,Function.comp_def])
   have hl:cs.length=len*i.size:=by
    have lay_len:∀ (l:List (Nat×Nat×AV)) (cells cs:List AV),HT cells l=some cs→cs.length=cells.length:=by
     intro l
     induction l with
     | nil=>intro cells cs e;simp only [HT,Option.some.injEq] at e;rw [e]
     | cons p l ih =>
      intro cells cs e;obtain ⟨off,n,y⟩:=p;simp only [HT] at e;split at e
      ·rename_i hc;rw [ih _ _ e];simp only [dU,hZ,tT];omega
      ·simp at e
    rw [lay_len _ _ _ hcs,aL,GS,FM,hzs]
   obtain ⟨g1,g2,g3⟩:=Ig len cs hl;have hvl:=h2.length;have hrun:(Instr.buildSlice t len (parts.map λ(i,x)=>(i,a.eval x))).run P w=.ok (.slice (some ⟨w.heap.size,0,none⟩) len len) (w.alloc (.cells vs.toArray e)):=by
    have hne:¬(len*i.size=0):=by
     have:=Nat.mul_pos hpos h0;omega
    have hsz:¬(16777216<len*i.size):=by omega
    rw [hzs] at hfill;simp only [Instr.buildSlice,Sem.run_bind,run_underlying ht,Result.andThen_ok,Go.sizeOf,typeInfo,run_program,hi,Sem.run_pure,zeroValue,hz];simp only [Sem.run_ite,hne,if_false,gt_iff_lt,Nat.reducePow,hsz,Sem.run_bind,run_program,Result.andThen_ok,hi,hz,Sem.run_pure,Array.toList_map,hzs];simp [hfill,newRow]
   rw [hrun];have hlm:len≤maxLen:=by
    have h':len≤len*i.size:=Nat.le_mul_of_pos_right _ h0;unfold maxLen;omega
   have hvs:vs.toArray.size=len*i.size:=by rw [IT];omega
   refine qB hI rfl rfl rfl rfl (λd hd=>⟨g3 d hd,λc hc=>hcl c (by rw [←g1];exact IU.2 ⟨d,hd,hc⟩)⟩) g2 (fW _) hlm hvs ?_ e;rw [g1];have:(vs.toArray.toList.take (len*i.size))=vs:=pY (by show vs.length≤_;rw [←hvl,hl];exact fW _);rw [this];exact BU.of h2 hcl
 ·simp at he
def Oq {i:Nat} {o o':AObj} (hI:Inv h φ w T) (hi:T[i]?=some (some o)) {g:Nat} {cur new:Array Value} {E:TypeId} (hw:w.heap[g]?=some (.cells cur E (0,0))) (hbl:mC (φ i)=some g)
  (ho:vW h φ T.length (w.setRow g new) i o'):Inv h φ (w.setRow g new) (T.set i (some o'))∧Evo h φ T w h φ (T.set i (some o')) (w.setRow g new) :=
 D7 (w':=w.setRow g new) hI rfl rfl rfl (by simp) hi (λb _ hne=>setRow_other w g b new λe=>hne (by rw [hbl,e])) ho
def ZK {t:TypeId} {n:Nat} (ht:mU P t=some n) (hG:rD G h) (hI:Inv h φ w T) (hS:rP h φ T.length s a) {p q:Operand} {x:AV} {T':aQ} (he:bK T (bX G s) (.st n p q)=some (x,T')) :
  ∃ w',(Instr.storeAt t (a.eval p) (a.eval q)).run P w=.ok () w'∧x=.v undef∧Evo h φ T w h φ T' w'∧Inv h φ w' T':=by
 have hp:=dA hG hS p;have run:∀ (g o:Nat) (cur:Array Value) (E:TypeId),w.heap[g]?=some (.cells cur E (0,0))→(∀ c∈dI (bX G s q),jU c=true)→(dI (bX G s q)).length=n→o+n≤cur.size →
   (Instr.storeAt t (.pointer (some ⟨g,o,none⟩)) (a.eval q)).run P w=.ok () (w.setRow g (cur.toList.take o++(a.eval q).cells.toList++cur.toList.drop (o+n)).toArray):=by
  intro g o cur E hw hone hlen hle;have hx:=An (dA hG hS q) hone;have hl:=hx.length;rw [hlen] at hl;have h1:∀ v∈(a.eval q).cells.toList,v.oneCell'=true:=by
   intro v hv;obtain ⟨j,hj⟩:=NV hv;have hjl:j<(dI (bX G s q)).length:=by
    rw [hx.length];rcases bY j (a.eval q).cells.toList.length with hh | hh
    ·exact hh
    ·rw [gV hh] at hj;simp at hj
   obtain ⟨u,h2,h3⟩:=hx.get (fV hjl);rw [hj] at h2;injection h2 with h2;subst h2;exact Jf h3 (hone _ (jY hjl))
  have:=run_storeCells_at P g o E (a.eval q).cells.toList 0 cur w hw (by omega) h1;have hsz:(a.eval q).cells.size=n:=by rw [←FM];exact hl.symm
  simp only [yN] at this;rw [←hl] at this;simp [Instr.storeAt,Instr.sureAddr,storeVar,oB ht,hsz,this]
 simp only [bK] at he;split at he
 ·rename_i i off hev;rw [hev] at hp;simp only [Rp] at hp;obtain ⟨_,g,hφ,hu⟩:=hp;split at he
  ·rename_i cs hg;split at he
   ·rename_i hc;obtain ⟨c1,c2,c3⟩:=hc;injection he with he;injection he with e1 e2;subst e1;subst e2;obtain ⟨g',us,E,hφ',hw,hgh,hr⟩:=Nj hI hg;rw [hφ] at hφ';injection hφ' with hφ';injection hφ' with hφ';injection hφ' with hφ';subst hφ';have hone:∀ c∈dI (bX G s q),jU c=true:=λc hc=>kY.1 c3 c hc;have hrl:=hr.length;rw [hu,run g off us E hw hone c1 (by simp only [FM] at hrl;omega)];have hx:=An (dA hG hS q) hone;have:=Oq (o':=.box (cs.take off++dI (bX G s q)++cs.drop (off+n))) hI (bD hg) hw (by rw [hφ];rfl)
     (new:=(us.toList.take off++(a.eval q).cells.toList++us.toList.drop (off+n)).toArray)
     ⟨g,_,E,hφ,setRow_heap w g us _ E _ hw,hgh,by simpa using ((hr.take off).app hx).app (hr.drop (off+n))⟩
    exact ⟨_,rfl,rfl,this.2,this.1⟩
   ·simp at he
  ·simp at he
 ·rename_i i k j off hev;rw [hev] at hp;simp only [Rp] at hp;obtain ⟨_,g,l,c,hφ,hu⟩:=hp;split at he
  ·rename_i k' es b hg;split at he
   ·rename_i hk;subst hk;split at he
    ·rename_i e hj;split at he
     ·rename_i hc;obtain ⟨c1,c2,c3⟩:=hc;injection he with he;injection he with e1 e2;subst e1;subst e2;have hclosed:∀ c∈dI (bX G s q),Mv b c=true:=λc hc=>kY.1 c3 c hc;have hone:∀ c∈dI (bX G s q),jU c=true:=λc hc=>Jg (hclosed c hc);obtain ⟨hl0,h1 | ⟨g',c',cur,E,hφ',hw,h2,h3,h4,h5,h6⟩⟩:=oV hI hg
      ·rw [h1.choose_spec.2] at hj;simp at hj
      ·rw [hφ] at hφ';injection hφ' with hφ' hl1 hc1;injection hφ' with hφ';injection hφ' with hφ';subst hφ';subst hc1;have hl:∀ e∈es,e.length=k:=λe he=>(hl0 e he).1;have hjl:j<es.length:=by
        rcases bY j es.length with hh | hh
        ·exact hh
        ·simp [gV hh] at hj
       have hel:e.length=k:=hl e (IR hj);have hjk:(j+1)*k≤es.length*k:=Mr k hjl;have hck:es.length*k≤(c'+1)*k:=Mr k h2;rw [E3] at hjk;rw [hu,run g _ cur E hw hone c1 (by omega)];have hx:=BU.of (b:=b) (An (dA hG hS q) hone) hclosed;have hflat:=Q2 (x:=dI (bX G s q)) hl hj (off:=off) (n:=n) (by omega);have hnl:∀ d∈es.set j (e.take off++dI (bX G s q)++e.drop (off+n)),d.length=k∧∀ c∈d,Mv b c=true:=by
        intro d hd;rcases aDt hd with hd | rfl
        ·exact hl0 d hd
        ·refine ⟨by simp only [dU,hZ,tT];omega,λc hc=>?_⟩;have he0:=(hl0 e (IR hj)).2;simp only [eO] at hc;rcases hc with (hc | hc) | hc
         ·exact he0 c (CS hc)
         ·exact hclosed c hc
         ·exact he0 c (IS hc)
       have hxl:=hx.length;have hcl:(a.eval q).cells.toList.length=n:=by omega
       have h6l:=h6.length;rw [xD hl] at h6l;have hcur:es.length*k≤cur.toList.length:=by rw [show cur.toList.length=cur.size from FM,h4];exact hck
       have hpm:j*k+off+n≤es.length*k:=by omega
       have hnew:(cur.toList.take (j*k+off)++(a.eval q).cells.toList++cur.toList.drop (j*k+off+n)).length=(c'+1)*k:=by
        have e1:cur.toList.length=(c'+1)*k:=by rw [show cur.toList.length=cur.size from FM,h4]
        simp only [dU,hZ,tT,hcl];omega
       have:=Oq (o':=iA b k (es.set j (e.take off++dI (bX G s q)++e.drop (off+n)))) hI (bD (Ba hg)) hw (by rw [hφ];rfl)
        (new:=(cur.toList.take (j*k+off)++(a.eval q).cells.toList++cur.toList.drop (j*k+off+n)).toArray)
        (lC.2 ⟨hnl,.inr ⟨g,c',_,E,by rw [hφ,mA,hl1],setRow_heap w g cur _ E _ hw,by rw [mA];omega,by omega,by
         rw [IT];exact hnew,h5,by
         rw [hflat,mA];have:=Q3 cur.toList (a.eval q).cells.toList (j*k+off) n (es.length*k) hpm hcur hcl;show BU h φ T.length b _ (List.take _ (cur.toList.take (j*k+off)++(a.eval q).cells.toList++cur.toList.drop (j*k+off+n)));rw [this]
         exact ((h6.take _).app hx).app (h6.drop _)⟩⟩)
       exact ⟨_,rfl,rfl,this.2,this.1⟩
     ·simp at he
    ·simp at he
   ·simp at he
  ·simp at he
 ·simp at he
end
end
section
def iY.vals {h:GH} {b k:Nat}:∀ {es:List (List AV)} {o:Nat},iY h b k es o →
  (∀ e∈es,e.length=k∧∀ c∈e,bB c=true)∧∃ us,cB h es.flatten us∧∀ j u,us[j]?=some u→nZ h b (o+j)=some u
 | [],o,_=>⟨by simp,[],by simp [cB],λj u hj=>by simp at hj⟩
 | e::es,o,hh=>by
  simp only [iY] at hh;obtain ⟨h1,h2,h3⟩:=hh;obtain ⟨us,h4,h5⟩:=h2.vals;obtain ⟨h6,vs,h7,h8⟩:=h3.vals;refine ⟨λd hd=>?_,us++vs,by rw [qP];exact h4.app h7,λj u hj=>?_⟩
  ·rcases gK.1 hd with rfl | hd
   ·refine ⟨h1,λc hc=>?_⟩;obtain ⟨i,hi⟩:=NV hc;exact (h2.get hi).choose_spec.1
   ·exact h6 d hd
  ·have hl:=h4.length;rcases bY j us.length with hlt | hge
   ·rw [Eb hlt] at hj;exact h5 j u hj
   ·rw [KG hge] at hj;have:=h8 _ _ hj;rw [←this];congr 1;omega
section
variable {P:Program} {G:Nat→Option (List AV)} {h:GH} {φ:Nat→Value} {T:aQ} {w:World} {s:List (Nat×AV)} {a:Act}
def HZ {α:Type} {k:Nat}:∀ {es:List (List α)},(∀ e∈es,e.length=k)→∀ (l:Nat),(es.drop l).flatten=es.flatten.drop (l*k)
 | [],_,l=>by simp
 | e::es,he,0=>by simp
 | e::es,he,l+1=>by
  have h1:e.length=k:=he e (by simp);rw [U2,HZ (λd hd=>he d (by simp [hd])) l,qP,E3,Nat.add_comm,←GF,←h1];simp
def Ha {α:Type} {k:Nat}:∀ {es:List (List α)},(∀ e∈es,e.length=k)→∀ (l:Nat),(es.take l).flatten=es.flatten.take (l*k)
 | [],_,l=>by simp
 | e::es,he,0=>by simp
 | e::es,he,l+1=>by
  have h1:e.length=k:=he e (by simp);rw [NW,qP,Ha (λd hd=>he d (by simp [hd])) l,qP,E3,List.take_append,←h1];congr 1
  ·rw [pY (by omega)]
  ·congr 1;omega
def ZL {α:Type} {k:Nat} {es:List (List α)} (he:∀ e∈es,e.length=k) (l m:Nat):((es.drop l).take m).flatten=(es.flatten.drop (l*k)).take (m*k):=by
 rw [Ha (λd hd=>he d (IS hd)),HZ he]
def Wj (T:aQ) (k:Nat):AV→Option (List (List AV)×Bool)
 | .ls k' es=>if k=k' then some (es,true) else none
 | .own a=>match pO (cR T a) with
  | some (k',es,b)=>if k=k' then some (es,b) else none
  | _=>none
 | .v (.slice none 0 0)=>some ([],true)
 | .vw a k' lo m=>match pO (cR T a) with
  | some (k'',es,b)=>if k=k'∧k=k''∧lo+m≤es.length then some ((es.drop lo).take m,b) else none
  | _=>none
 | _=>none
def ZM (hI:Inv h φ w T) {k:Nat} {x:AV} {u:Value} (hx:Rp h φ T.length x u) {new:List (List AV)} {b:Bool} (e:Wj T k x=some (new,b)) :
  (∀ e∈new,e.length=k∧∀ c∈e,Mv b c=true)∧∃ A c news,u=.slice A new.length c∧BU h φ T.length b new.flatten news ∧
   (new=[]∨∃ b o,A=some ⟨b,o,none⟩∧∀ j v,news[j]?=some v→w.cell? ⟨b,o+j,none⟩=some v):=by
 unfold Wj at e;split at e
 ·rename_i k' es;split at e
  ·rename_i hk;subst hk;injection e with e;injection e with e1 e2;subst e1;subst e2;simp only [Rp,mB] at hx;obtain ⟨A,c,hu,_,_,h3⟩:=hx;rcases h3 with rfl | ⟨b,o,rfl,hE⟩
   ·exact ⟨by simp,A,c,[],hu,by simp [BU,cB],.inl rfl⟩
   ·obtain ⟨h4,us,h5,h6⟩:=hE.vals;exact ⟨h4,_,c,us,hu,h5,.inr ⟨b,o,rfl,λj v hj=>Qz hI (h6 j v hj)⟩⟩
  ·simp at e
 ·rename_i i;split at e
  ·rename_i k' es b' hg;split at e
   ·rename_i hk;subst hk;injection e with e;injection e with e1 e2;subst e1;subst e2;simp only [Rp] at hx;obtain ⟨hl,h1 | ⟨g,c,cur,E,hφ,hw,h2,h3,h4,h5,h6⟩⟩:=oV hI hg
    ·obtain ⟨A,h1,h2⟩:=h1;rw [h2];exact ⟨by simp,A,0,[],by rw [hx.2.1,h1];rfl,by cases b'<;>simp [BU,cB,bW],.inl rfl⟩
    ·refine ⟨hl,_,c+1,_,by rw [hx.2.1,hφ],h6,.inr ⟨g,0,rfl,λj v hj=>?_⟩⟩;rw [BZ hw];rw [AI] at hj;split at hj
     ·rw [←hj];simp
     ·simp at hj
   ·simp at e
  ·simp at e
 ·injection e with e;injection e with e1 e2;subst e1;subst e2;simp only [Rp] at hx;exact ⟨by simp,none,0,[],hx,by simp [BU,cB],.inl rfl⟩
 ·rename_i i k' lo m;split at e
  ·rename_i k'' es b' hg;split at e
   ·rename_i hk;obtain ⟨rfl,rfl,hlen⟩:=hk;injection e with e;injection e with e1 e2;subst e1;subst e2;simp only [Rp] at hx;obtain ⟨_,A,c,hu,_,_,h0⟩:=hx;obtain ⟨hl,h1⟩:=oV hI hg;have hl':∀ d∈(es.drop lo).take m,d.length=k∧∀ c∈d,Mv b' c=true:=λd hd=>hl d (IS (CS hd));have hln:((es.drop lo).take m).length=m:=by rw [hZ,tT];omega
    refine ⟨hl',?_⟩;have hnil:BU h φ T.length b' [] []:=by cases b'<;>simp [BU,cB,bW]
    rcases h0 with rfl | ⟨g,l,c',hφ,rfl,hle⟩
    ·exact ⟨A,c,[],by simpa using hu,by simpa using hnil,.inl (by simp)⟩
    ·by_cases hm:m=0
     ·subst hm;exact ⟨_,c,[],by simpa using hu,by simpa using hnil,.inl (by simp)⟩
     ·rcases h1 with h1 | ⟨g',c2,cur,E,hφ',hw,h2,h3,h4,h5,h6⟩
      ·obtain ⟨A,h1,rfl⟩:=h1;simp at hlen;omega
      ·rw [hφ] at hφ';injection hφ' with e1 e2 e3;injection e1 with e1;injection e1 with e1;subst e1;refine ⟨_,c,((cur.toList.take (es.length*k)).drop (lo*k)).take (m*k),by rw [hu,hln],?_,.inr ⟨g,lo*k,rfl,λj v hj=>?_⟩⟩
       ·rw [ZL (λd hd=>(hl d hd).1)];exact (h6.drop _).take _
       ·rw [BZ hw];rw [AI] at hj;split at hj
        ·rw [FN,AI] at hj;split at hj
         ·rw [←hj];simp
         ·simp at hj
        ·simp at hj
   ·simp at e
  ·simp at e
 ·simp at e
def aBW {ev:Operand→AV} {x y:Operand} {k bytes:Nat} {r:AV} {T':aQ} (he:bK T ev (.app x y k bytes)=some (r,T')) :
    ∃ new b,Wj T k (ev y)=some (new,b) ∧
      ((ev x=.v (.slice none 0 0)∧new.length*bytes≤140737488355328∧new.length≤maxLen∧r=.own T.length∧T'=T++[some (iA b k new)]) ∨
       ∃ i es b',ev x=.own i∧pO (cR T i)=some (k,es,b')∧(es.length+new.length)*bytes≤140737488355328∧es.length+new.length≤maxLen∧r=.own T.length∧T'=T.set i none++[some (iA (b&&b') k (es++new))]):=by
  simp only [bK] at he;split at he
  · simp at he
  · rename_i new b hs
    refine ⟨new,b,?_,?_⟩
    · unfold Wj
      exact hs
    · split at he
      · rename_i hx
        split at he
        · rename_i hc
          injection he with he;injection he with e1 e2
          exact .inl ⟨hx,hc.1,hc.2,e1.symm,e2.symm⟩
        · simp at he
      · rename_i i hx
        split at he
        · rename_i k' es b' hg
          split at he
          · rename_i hc
            obtain ⟨rfl,hc1,hc2⟩:=hc
            injection he with he;injection he with e1 e2
            exact .inr ⟨i,es,b',hx,hg,hc1,hc2,e1.symm,e2.symm⟩
          · simp at he
        · simp at he
      · simp at he
def Wk {t e ty:TypeId} (ht:P.underlying t=some (.slice e)) {i:TypeInfo} (hi:P.info? e=some i) {z:Value} (hz:i.zero=some z) (hzs:z.cells.size=i.size) (h0:0<i.size)
  (hG:rD G h) (hI:Inv h φ w T) (hS:rP h φ T.length s a) {p q:Operand} {x:AV} {T':aQ} (he:bK T (bX G s) (.app p q i.size i.bytes)=some (x,T')) :
  gY h φ T w ((Builtin.append_ #[t,t] ty #[a.eval p,a.eval q]).run P w) x T':=by
 obtain ⟨new,fb,hsrc,hcase⟩:=aBW he;have hp:=dA hG hS p;have hq:=dA hG hS q;obtain ⟨hnew,A,c,news,hu,hnl,hcells⟩:=ZM hI hq hsrc;have hnlen:news.length=new.length*i.size:=by rw [←hnl.length,xD λd hd=>(hnew d hd).1]
 have hone:∀ v∈news,v.oneCell'=true:=by
  intro v hv;obtain ⟨j,hj⟩:=NV hv;have hjl:j<new.flatten.length:=by
   rw [hnl.length];rcases bY j news.length with hh | hh
   ·exact hh
   ·rw [gV hh] at hj;simp at hj
  obtain ⟨u,h1,h2⟩:=hnl.toL.get (fV hjl);rw [hj] at h1;injection h1 with h1;subst h1;obtain ⟨d,hd,hcd⟩:=IU.1 (jY hjl);exact Jf h2 (Jg ((hnew d hd).2 _ hcd))
 have cap_cells:∀ (m old:Nat) (xs:List Value),xs.length=m*i.size→m≤maxLen →
   (xs.toArray++Builtin.zeroCells z.cells (grownCap w m old e-m)).size=grownCap w m old e*i.size∧(xs.toArray++Builtin.zeroCells z.cells (grownCap w m old e-m)).toList.take (m*i.size)=xs∧m≤grownCap w m old e∧grownCap w m old e≤maxLen:=by
  intro m old xs hxs hm;have hge:=grownCap_ge w m old e;refine ⟨?_,?_,hge,grownCap_le_maxLen w m old e hm⟩
  ·simp only [Array.size_append,IT,size_zeroCells,hzs,hxs,←CW];congr 1;omega
  ·simp only [Qe];rw [←hxs];exact VI
 rcases hcase with ⟨hx,hb,hm,rfl,rfl⟩ | ⟨j,es,b',hx,hg,hb,hm,rfl,rfl⟩
 ·
  rw [lB hG hS hx,hu];rcases hcells with rfl | ⟨b,o,rfl,hcell⟩
  ·have:(Builtin.append_ #[t,t] ty #[.slice none 0 0,.slice A ([]:List (List AV)).length c]).run P w=.ok (.slice none 0 0) w:=by
    cases A<;>simp [Builtin.append_,run_underlying ht,Go.sizeOf,typeInfo,hi,Builtin.lenOf,Builtin.firstCells,loadCells,loadCellsFrom]
   rw [this];have:=qL (w':=w) (o:=iA fb i.size []) (v:=.slice none 0 0) hI rfl rfl rfl (fW _) (λ_ _=>rfl) (λg hg=>by simp [mC] at hg) (lC.2 ⟨by simp,.inl ⟨none,bE,rfl⟩⟩);refine ⟨_,w,h,_,rfl,this.2,this.1,?_⟩;simp only [Rp];exact ⟨by simp,bE.symm,_,_,_,rfl⟩
  ·by_cases hn0:new=[]
   ·subst hn0;have:(Builtin.append_ #[t,t] ty #[.slice none 0 0,.slice (some ⟨b,o,none⟩) ([]:List (List AV)).length c]).run P w=.ok (.slice none 0 0) w:=by
     simp [Builtin.append_,run_underlying ht,Go.sizeOf,typeInfo,hi,Builtin.lenOf,Builtin.firstCells,loadCells,loadCellsFrom]
    rw [this];have:=qL (w':=w) (o:=iA fb i.size []) (v:=.slice none 0 0) hI rfl rfl rfl (fW _) (λ_ _=>rfl) (λg hg=>by simp [mC] at hg) (lC.2 ⟨by simp,.inl ⟨none,bE,rfl⟩⟩);refine ⟨_,w,h,_,rfl,this.2,this.1,?_⟩;simp only [Rp];exact ⟨by simp,bE.symm,_,_,_,rfl⟩
   ·have hpos:0<new.length:=CT.2 hn0;have hr:=run_append_nil (P:=P) w t ty e i z ht hi hz ⟨b,o,none⟩ new.length c news hnlen (λj v hj=>by rw [gB];exact hcell j v hj) hpos (by unfold maxLen at hm;omega) (by omega);rw [hr];obtain ⟨c1,c2,c3,c4⟩:=cap_cells new.length 0 news hnlen hm;exact qB (w1:=w.drew) hI rfl rfl rfl rfl hnew rfl c3 c4 c1 (by rw [c2];exact hnl) e
 ·
  rw [hx] at hp;simp only [Rp] at hp;obtain ⟨hl,h1 | ⟨g,cap,cur,E,hφ,hw,h2,h3,h4,h5,h6⟩⟩:=oV hI hg
  ·
   obtain ⟨A0,hφ,rfl⟩:=h1;rw [hp.2.1,hφ,hu];simp only [FQ,kI,rW] at hb hm ⊢;obtain ⟨hI',hE'⟩:=uP hI j;have comb:∀ {r:Result Value},gY h φ (T.set j none) w r (.own (T.set j none).length) (T.set j none++[some (iA (fb&&b') i.size new)])→gY h φ T w r (.own T.length) (T.set j none++[some (iA (fb&&b') i.size new)]):=by
    rintro r ⟨v,w',h',φ',m1,m2,m3,m4⟩;rw [mA] at m4;exact ⟨v,w',h',φ',m1,hE'.trans m2,m3,m4⟩
   apply comb;by_cases hn0:new=[]
   ·subst hn0;have:(Builtin.append_ #[t,t] ty #[.slice A0 0 0,.slice A ([]:List (List AV)).length c]).run P w=.ok (.slice A0 0 0) w:=by
     cases A0<;>cases A<;>simp [Builtin.append_,run_underlying ht,Go.sizeOf,typeInfo,hi,Builtin.lenOf,Builtin.firstCells,loadCells,loadCellsFrom,storeCells]
    rw [this];have:=qL (w':=w) (o:=iA (fb&&b') i.size []) (v:=.slice A0 0 0) hI' rfl rfl rfl (fW _) (λ_ _=>rfl) (λg hg=>by simp [mC] at hg) (lC.2 ⟨by simp,.inl ⟨A0,bE,rfl⟩⟩);refine ⟨_,w,h,_,rfl,this.2,this.1,?_⟩;simp only [Rp];exact ⟨by simp,bE.symm,_,_,_,rfl⟩
   ·have hpos:0<new.length:=CT.2 hn0;rcases hcells with rfl | ⟨b,o,rfl,hcell⟩
    ·exact absurd rfl hn0
    ·cases A0 with
     | none =>
      have hr:=run_append_nil (P:=P) w t ty e i z ht hi hz ⟨b,o,none⟩ new.length c news hnlen (λj v hj=>by rw [gB];exact hcell j v hj) hpos (by unfold maxLen at hm;omega) (by omega);rw [hr];obtain ⟨c1,c2,c3,c4⟩:=cap_cells new.length 0 news hnlen hm;exact qB (w1:=w.drew) hI' rfl rfl rfl rfl (λd hd=>⟨(hnew d hd).1,λc hc=>oD ((hnew d hd).2 c hc) (λhh=>(eM _ _ ▸ hh:fb=true∧b'=true).1)⟩) rfl c3 c4 c1 (by rw [c2,mA];exact hnl.weaken (λhh=>(eM _ _ ▸ hh:fb=true∧b'=true).1)) e
     | some a0 =>
      have hr:=run_append_grow (P:=P) w t ty e i z ht hi hz a0 0 0 [] (by simp) (λj v hj=>by simp at hj) ⟨b,o,none⟩ new.length c news hnlen (λj v hj=>by rw [gB];exact hcell j v hj) (by omega) (by unfold maxLen at hm;omega) (growslice_fits (by omega) (by simpa using hb));rw [hr];obtain ⟨c1,c2,c3,c4⟩:=cap_cells new.length 0 news hnlen hm;simp only [rW,U6] at *
      exact qB (w1:=w.drew) hI' rfl rfl rfl rfl (λd hd=>⟨(hnew d hd).1,λc hc=>oD ((hnew d hd).2 c hc) (λhh=>(eM _ _ ▸ hh:fb=true∧b'=true).1)⟩) rfl c3 c4 c1 (by rw [c2,mA];exact hnl.weaken (λhh=>(eM _ _ ▸ hh:fb=true∧b'=true).1)) e
  ·rw [hp.2.1,hφ,hu];have holen:(cur.toList.take (es.length*i.size)).length=es.length*i.size:=by rw [←h6.length,xD λd hd=>(hl d hd).1]
   have hbb:(fb&&b')=true→fb=true∧b'=true:=λhh=>by simpa using hh
   have hboth:∀ d∈es++new,d.length=i.size∧∀ c∈d,Mv (fb&&b') c=true:=by
    intro d hd;rcases eO.1 hd with hd | hd
    ·exact ⟨(hl d hd).1,λc hc=>oD ((hl d hd).2 c hc) λhh=>(hbb hh).2⟩
    ·exact ⟨(hnew d hd).1,λc hc=>oD ((hnew d hd).2 c hc) λhh=>(hbb hh).1⟩
   have hbothL:BU h φ T.length (fb&&b') (es++new).flatten (cur.toList.take (es.length*i.size)++news):=by rw [NX];exact (h6.weaken λhh=>(hbb hh).2).app (hnl.weaken λhh=>(hbb hh).1)
   by_cases hroom:es.length+new.length≤cap+1
   ·
    have hf:(Builtin.firstCells i.size new.length (.slice A new.length c)).run P w=.ok news.toArray w:=by
     rcases hcells with rfl | ⟨b,o,rfl,hcell⟩
     ·have:news=[]:=CR (by simpa using hnlen);subst this;cases A<;>simp [Builtin.firstCells,loadCells,loadCellsFrom]
     ·exact run_firstCells_some w i.size new.length ⟨b,o,none⟩ _ _ news hnlen λj v hj=>by rw [gB];exact hcell j v hj
    have hfit:es.length*i.size+news.length≤cur.size:=by rw [hnlen,h4,←CW];exact Mr _ hroom
    have rT:=run_storeCells_at P g (es.length*i.size) E news 0 cur w hw (by simpa using hfit) hone;simp only [yN] at rT;have hrun:(Builtin.append_ #[t,t] ty #[.slice (some ⟨g,0,none⟩) es.length (cap+1),.slice A new.length c]).run P w =
      .ok (.slice (some ⟨g,0,none⟩) (es.length+new.length) (cap+1)) (w.setRow g (cur.toList.take (es.length*i.size)++news++cur.toList.drop (es.length*i.size+news.length)).toArray):=by
     simp [Builtin.append_,run_underlying ht,Go.sizeOf,typeInfo,hi,Builtin.lenOf,hroom,hf,gB,rT]
    rw [hrun];have hI1:=uP hI j;have hgt:=bD (Ba hg);refine ⟨_,_,h,We φ T.length (.slice (some ⟨g,0,none⟩) (es.length+new.length) (cap+1)),rfl,?_,?_,?_⟩
    ·refine ⟨rfl,rfl,rfl,by simp,λb hb hne=>setRow_other w g b _ λe=>hne j _ hgt (by rw [hφ,e];rfl),Ad.refl h,λ_ _ e=>.inl e,λm hm=>fK hm,λm o b em hbl=>?_,by simp,fW _⟩;rcases iZ em with ⟨hm',em'⟩ | ⟨rfl,em'⟩
     ·rw [mA] at hm';rw [fK hm'] at hbl;rcases kF em' with ⟨_,e'⟩ | ⟨_,e'⟩
      ·simp at e'
      ·exact .inr ⟨m,o,e',hbl⟩
     ·rw [mA,bE] at hbl;simp only [mC,Option.some.injEq] at hbl;exact .inr ⟨j,_,hgt,by rw [hφ];simp [mC,hbl]⟩
    ·refine ⟨λb cs eb=>?_,λm o em=>?_,λm m' o o' b em em' hbm hbm'=>?_⟩
     ·obtain ⟨E',fr,hb'⟩:=hI.gh b cs eb;refine ⟨E',fr,?_⟩;rw [setRow_other w g b _ λe=>by subst e;rw [h5] at eb;simp at eb];exact hb'
     ·rcases iZ em with ⟨hm',em'⟩ | ⟨rfl,em'⟩
      ·rw [mA] at hm';rcases kF em' with ⟨_,e'⟩ | ⟨hne,e'⟩
       ·simp at e'
       ·rw [dU,mA];have h7:=hI.obj m o e';refine oC h7 (Ad.refl h) (by simp) (λj hj=>fK hj) hm' λb hb'=>?_;obtain ⟨h8,h9⟩:=gM h7 hb';refine ⟨setRow_other w g b _ λe=>hne (hI.dis m j o _ b e' hgt hb' (by rw [hφ,e];rfl)),h9⟩
      ·injection em' with em';subst em';rw [mA,dU,mA];refine lC.2 ⟨hboth,.inr ⟨g,cap,_,E,by rw [bE,dU],setRow_heap w g cur _ E _ hw,by rw [dU];exact hroom,h3,?_,h5,?_⟩⟩
       ·rw [IT];simp only [dU,tT,holen];rw [show cur.toList.length=cur.size from FM,←h4];omega
       ·have hlen2:(cur.toList.take (es.length*i.size)++news).length=(es++new).length*i.size:=by rw [dU,holen,hnlen,dU,CW]
        show BU h _ _ (fb&&b') _ (List.take _ (cur.toList.take (es.length*i.size)++news++cur.toList.drop (es.length*i.size+news.length)));rw [←hlen2,VI];exact hbothL.mono (Ad.refl h) (by simp) λi hi=>fK hi
     ·rcases iZ em with ⟨hm1,em1⟩ | ⟨rfl,em1⟩<;>rcases iZ em' with ⟨hm2,em2⟩ | ⟨rfl,em2⟩
      ·rw [mA] at hm1 hm2;rw [fK hm1] at hbm;rw [fK hm2] at hbm';exact hI1.1.dis m m' o o' b em1 em2 hbm hbm'
      ·rw [mA] at hm1 hbm';rw [fK hm1] at hbm;rw [bE] at hbm';simp only [mC,Option.some.injEq] at hbm';rcases kF em1 with ⟨_,e'⟩ | ⟨hne,e'⟩
       ·simp at e'
       ·exact absurd (hI.dis m j o _ b e' hgt hbm (by rw [hφ,←hbm'];rfl)) hne
      ·rw [mA] at hm2 hbm;rw [fK hm2] at hbm';rw [bE] at hbm;simp only [mC,Option.some.injEq] at hbm;rcases kF em2 with ⟨_,e'⟩ | ⟨hne,e'⟩
       ·simp at e'
       ·exact absurd (hI.dis m' j o' _ b e' hgt hbm' (by rw [hφ,←hbm];rfl)) hne
      ·rfl
    ·simp only [Rp];rw [dU,mA];exact ⟨by simp,by rw [bE],_,_,_,rfl⟩
   ·
    have hne:new≠[]:=by rintro rfl;simp at hroom;omega
    rcases hcells with rfl | ⟨b,o,rfl,hcell⟩
    ·exact absurd rfl hne
    ·have holds:∀ j v,(cur.toList.take (es.length*i.size))[j]?=some v→w.cell? ((⟨g,0,none⟩:Addr).add j)=some v:=by
      intro j v hj;rw [gB,BZ hw];rw [AI] at hj;split at hj
      ·rw [←hj];simp
      ·simp at hj
     have hr:=run_append_grow (P:=P) w t ty e i z ht hi hz ⟨g,0,none⟩ es.length (cap+1) _ holen holds ⟨b,o,none⟩ new.length c news hnlen (λj v hj=>by rw [gB];exact hcell j v hj) (by omega) (by unfold maxLen at hm;omega) (growslice_fits (by omega) hb);rw [hr];obtain ⟨hI',hE'⟩:=uP hI j;have comb:∀ {r:Result Value},gY h φ (T.set j none) w r (.own (T.set j none).length) (T.set j none++[some (iA (fb&&b') i.size (es++new))])→gY h φ T w r (.own T.length) (T.set j none++[some (iA (fb&&b') i.size (es++new))]):=by
      rintro r ⟨v,w',h',φ',m1,m2,m3,m4⟩;rw [mA] at m4;exact ⟨v,w',h',φ',m1,hE'.trans m2,m3,m4⟩
     apply comb;have hxs:(cur.toList.take (es.length*i.size)++news).length=(es.length+new.length)*i.size:=by rw [dU,holen,hnlen,CW]
     obtain ⟨c1,c2,c3,c4⟩:=cap_cells (es.length+new.length) (cap+1) (cur.toList.take (es.length*i.size)++news) hxs hm;have heq:(cur.toList.take (es.length*i.size)).toArray++news.toArray=(cur.toList.take (es.length*i.size)++news).toArray:=by simp
     rw [heq];exact qB (w1:=w.drew) hI' rfl rfl rfl rfl hboth (by simp) c3 c4 c1 (by rw [c2,mA];exact hbothL) e
end
end
end Hud
