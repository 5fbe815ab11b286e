import Derived.Test.YtdichbeaekjibaaGreatDoorLib01
set_option linter.all false
namespace Hud
open Go
section
def iC.drop {h:GH} {b k:Nat}:∀ {es:List (List AV)} {o:Nat},iC h b k es o→∀ l,iC h b k (es.drop l) (o+l*k)
 | [],_,_,l=>by simp [iC]
 | e::es,o,hh,0=>by simpa using hh
 | e::es,o,hh,l+1=>by
  simp only [iC] at hh;have:=iC.drop hh.2.2 l;rw [Xi,EF,Nat.add_comm (l*k) k,←D0];exact this
def iC.take {h:GH} {b k:Nat}:∀ {es:List (List AV)} {o:Nat},iC h b k es o→∀ l,iC h b k (es.take l) o
 | [],_,_,l=>by simp [iC]
 | e::es,o,hh,0=>by simp [iC]
 | e::es,o,hh,l+1=>by
  simp only [iC] at hh;rw [Mf];simp only [iC];exact ⟨hh.1,hh.2.1,iC.take hh.2.2 l⟩
mutual
def Jn {h h':GH} {φ:Nat→Value} {n:Nat}:∀ {x:AV} {u:Value},fF x→Rp h φ n x u→Rp h' φ n x u
 | .v _,_,_,e=>by simpa [Rp] using e
 | .ls k es,u,hf,e=>by
  simp only [fF] at hf;subst hf;simp only [Rp,kY] at e ⊢;obtain ⟨A,c,h1,h2,h3,_⟩:=e;exact ⟨A,c,h1,h2,h3,.inl trivial⟩
 | .ag cs,_,hf,e=>by simp only [Rp,fF] at *;obtain ⟨us,h1,h2⟩:=e;exact ⟨us,h1,tF hf h2⟩
 | .own _,_,_,e=>by simpa [Rp] using e
 | .ptr _ _,_,_,e=>by simpa [Rp] using e
 | .elt _ _ _ _,_,_,e=>by simpa [Rp] using e
 | .vw _ _ _ _,_,_,e=>by simpa [Rp] using e
 | .mp _,_,_,e=>by simpa [Rp] using e
 | .yl _,_,_,e=>by simpa [Rp] using e
 | .rp cs,u,hf,e=>by
  simp only [fF] at hf;subst hf;simp only [Rp] at e ⊢;obtain ⟨b,o,h1,_⟩:=e;exact ⟨b,o,h1,by simp [kD]⟩
 | .cl f cs,_,hf,e=>by simp only [Rp,fF] at *;obtain ⟨us,h1,h2⟩:=e;exact ⟨us,h1,tF hf h2⟩
 | .bm f kk cs,_,hf,e=>by simp only [Rp,fF] at *;obtain ⟨us,h1,h2⟩:=e;exact ⟨us,h1,tF hf h2⟩
 | .tup cs,_,hf,e=>by simp only [Rp,fF] at *;obtain ⟨us,h1,h2⟩:=e;exact ⟨us,h1,tF hf h2⟩
 | .any,_,_,_=>by simp [Rp]
def tF {h h':GH} {φ:Nat→Value} {n:Nat}:∀ {cs:List AV} {us:List Value},oY cs→bK h φ n cs us→bK h' φ n cs us
 | [],_,_,e=>by simpa [bK] using e
 | c::cs,us,hf,e=>by
  simp only [bK,oY] at *
  obtain ⟨u,us',h1,h2,h3⟩:=e;exact ⟨u,us',h1,Jn hf.1 h2,tF hf.2 h3⟩
end
def P3 {h h':GH}:∀ {cs:List AV} {us:List Value},(∀ c∈cs,∃ x,c=.v x)→bQ h cs us→bQ h' cs us
 | [],_,_,e=>by simpa [bQ] using e
 | c::cs,us,hf,e=>by
  simp only [bQ] at *
  obtain ⟨u,us',h1,h2,h3⟩:=e;obtain ⟨x,rfl⟩:=hf c (by simp);refine ⟨u,us',h1,?_,P3 (λd hd=>hf d (by simp [hd])) h3⟩;simpa only [kY] using h2
def X9 {h h':GH} {φ:Nat→Value} {n:Nat} {w:World} {i:Nat} {o:AObj} (hf:uX (some o)) (hg:∀ g,iE (φ i)=some g→h' g=none) (e:qI h φ n w i o):qI h' φ n w i o:=by
 cases o with
 | box cs =>
  obtain ⟨g,us,E,h1,h2,_,h4⟩:=e;exact ⟨g,us,E,h1,h2,hg g (by rw [h1];rfl),tF hf h4⟩
 | arr k es =>
  obtain ⟨h0,h1 | ⟨g,c,cur,E,h1,h2,h3,h4,h5,_,h7⟩⟩:=e
  ·exact ⟨h0,.inl h1⟩
  ·refine ⟨h0,.inr ⟨g,c,cur,E,h1,h2,h3,h4,h5,hg g (by rw [h1];rfl),P3 (λc hc=>?_) h7⟩⟩;obtain ⟨d,hd,hcd⟩:=Hg.1 hc;exact hf d hd c hcd
 | arf k es =>
  obtain ⟨h0,h1 | ⟨g,c,cur,E,h1,h2,h3,h4,h5,_,h7⟩⟩:=e
  ·exact ⟨h0,.inl h1⟩
  ·refine ⟨h0,.inr ⟨g,c,cur,E,h1,h2,h3,h4,h5,hg g (by rw [h1];rfl),tF ?_ h7⟩⟩;have app:∀ {a b:List AV},oY a→oY b→oY (a++b):=by
    intro a b ha hb
    induction a with
    | nil=>exact hb
    | cons c a ih=>simp only [oY,fX] at ha ⊢;exact ⟨ha.1,ih ha.2⟩
   have key:∀ l:List (List AV),(∀ e∈l,oY e)→oY l.flatten:=by
    intro l
    induction l with
    | nil=>intro _;simp [oY]
    | cons e l ih=>intro hl;rw [qW];exact app (hl e (by simp)) (ih λd hd=>hl d (by simp [hd]))
   exact key es hf
 | lp r s =>
  obtain ⟨g,h1,h2,h3,h4,h5⟩:=e;exact ⟨g,h1,h2,hg g (by rw [h1];rfl),h4,λp hp=>Jn (hf p hp) (h5 p hp)⟩
 | mit m since seen st =>
  obtain ⟨g,mo,h1,h2,h3,h4⟩:=e;exact ⟨g,mo,h1,h2,hg g (by rw [h1];rfl),h4⟩
 | map ag ks vs bs cl =>
  obtain ⟨g,ens,h1,h2,h3,h4,h5,h6⟩:=e;exact ⟨g,ens,h1,h2,hg g (by rw [h1];rfl),h4,h5,tF hf h6⟩
def kD.of_list {h:GH} {b:Nat}:∀ {cs:List AV} {us:List Value} {o:Nat},bQ h cs us→(∀ c∈cs,aO c=true)→(∀ j u,us[j]?=some u→lS h b (o+j)=some u)→kD h b cs o
 | cs,us,o,e,hc,hu=>kD.mk λi c hi=>by
  obtain ⟨u,h1,h2⟩:=e.get hi;exact ⟨u,hc c (Ru hi),hu i u h1,h2⟩
def iC.of_list {h:GH} {b k:Nat}:∀ {es:List (List AV)} {us:List Value} {o:Nat},bQ h es.flatten us→(∀ e∈es,e.length=k∧∀ c∈e,aO c=true)→(∀ j u,us[j]?=some u→lS h b (o+j)=some u)→iC h b k es o
 | es,us,o,e,hc,hu=>iC.mk λj d hj=>by
  have hd:=hc d (Ru hj);refine ⟨hd.1,?_⟩;have hs:=e.sub (j*k) k;rw [Je (λe he=>(hc e he).1) hj] at hs;refine kD.of_list hs hd.2 λi u hi=>?_;rw [zD] at hi;split at hi
  ·rw [FV] at hi;rw [←hu _ _ hi];congr 1;omega
  ·simp at hi
open Classical in
noncomputable def lentG (h:GH) (φ:Nat→Value) (T:aH) (w:World):GH:=λb =>
 if ∃ i o,T[i]?=some (some o)∧iE (φ i)=some b then (match w.heap[b]? with | some (.cells cs _ _)=>some cs | _=>none) else h b
open Classical in
noncomputable def unlentG (h:GH) (φ:Nat→Value) (T:aH):GH:=λb=>if ∃ i o,T[i]?=some (some o)∧iE (φ i)=some b then none else h b
section
variable {h:GH} {φ:Nat→Value} {T:aH} {w:World}
def M0 (hI:Inv h φ w T) {i:Nat} {k:Nat} {es:List (List AV)} (hi:T[i]?=some (some (.arr k es))) {b:Nat} (hb:iE (φ i)=some b):∃ cs E,w.heap[b]?=some (.cells cs E (0,0))∧lentG h φ T w b=some cs:=by
 have:∃ cs E,w.heap[b]?=some (.cells cs E (0,0)):=by
  obtain ⟨_,⟨A,h1⟩ | ⟨g,c,cur,E,h1,h2,_⟩⟩:=hI.obj i _ hi
  ·rw [h1.1] at hb;simp [iE] at hb
  ·rw [h1] at hb;simp only [iE,Option.some.injEq] at hb;subst hb;exact ⟨cur,E,h2⟩
 obtain ⟨cs,E,hw⟩:=this;refine ⟨cs,E,hw,?_⟩;unfold lentG;rw [if_pos ⟨i,_,hi,hb⟩,hw]
def tG (hI:Inv h φ w T):zG h (lentG h φ T w):=by
 intro b cs e;unfold lentG;rw [if_neg]
 ·exact e
 ·rintro ⟨i,o,hi,hb⟩;have:=(fO (hI.obj i o hi) hb).2;rw [e] at this;simp at this
def YA (hI:Inv h φ w T) (φ':Nat→Value):Inv (lentG h φ T w) φ' w []:=by
 refine ⟨λb cs e=>?_,λi o e=>by simp at e,λi j oi oj b e=>by simp at e⟩;by_cases hx:∃ i o,T[i]?=some (some o)∧iE (φ i)=some b
 ·unfold lentG at e;rw [if_pos hx] at e;split at e
  ·rename_i cs' E fr hw;injection e with e;subst e;exact ⟨E,_,hw⟩
  ·simp at e
 ·unfold lentG at e;rw [if_neg hx] at e;exact hI.gh b cs e
mutual
def YB (hI:Inv h φ w T) {φ':Nat→Value}:∀ {x:AV} {u:Value},dZ (qY T x)=[]→Rp h φ T.length x u→Rp (lentG h φ T w) φ' 0 (qY T x) u
 | .v _,_,_,e=>by simpa [Rp,qY] using e
 | .ls _ _,_,_,e=>by simp only [Rp,qY] at *;exact e.mono (tG hI)
 | .ag cs,_,hd,e=>by simp only [Rp,qY,dZ] at *;obtain ⟨us,h1,h2⟩:=e;exact ⟨us,h1,Jo hI hd h2⟩
 | .own i,u,_,e=>by
  simp only [Rp,qY] at *
  split
  ·rename_i k es hg;simp only [Rp,kY];obtain ⟨hl,⟨A0,h1⟩ | ⟨g,c,cur,E,hφ,hw,h2,h3,h4,h5,h6⟩⟩:=wA hI hg
   ·exact ⟨A0,0,by rw [e.2.1,h1.1,h1.2];rfl,by rw [h1.2];simp,by simp,.inl h1.2⟩
   ·refine ⟨_,c+1,by rw [e.2.1,hφ],h2,h3,.inr ⟨g,0,rfl,?_⟩⟩;obtain ⟨cs',E',hw',hlent⟩:=M0 hI (aZ hg) (b:=g) (by rw [hφ];rfl);rw [hw] at hw';injection hw' with hw';injection hw' with hw';subst hw';refine iC.of_list (h6.mono (tG hI)) hl λj v hj=>?_;unfold lS;rw [hlent];rw [zD] at hj;split at hj
    ·simpa using hj
    ·simp at hj
  ·simp [Rp]
 | .ptr _ _,_,hd,_=>by simp [dZ,qY] at hd
 | .elt _ _ _ _,_,hd,_=>by simp [dZ,qY] at hd
 | .mp _,_,hd,_=>by simp [dZ,qY] at hd
 | .yl _,_,hd,_=>by simp [dZ,qY] at hd
 | .vw i k lo m,u,_,e=>by
  simp only [Rp,qY] at *
  split
  ·rename_i k' es hg;split
   ·rename_i hk;obtain ⟨rfl,hlen⟩:=hk;obtain ⟨_,A,c,hu,hmc,hcm,h0⟩:=e;have hln:((es.drop lo).take m).length=m:=by rw [kM,xS];omega
    simp only [Rp,kY];refine ⟨A,c,by rw [hln];exact hu,by rw [hln];exact hmc,hcm,?_⟩;rcases h0 with rfl | ⟨g,l,c',hφ,rfl,hle⟩
    ·exact .inl (by simp)
    ·obtain ⟨hl,h1 | ⟨g',c2,cur,E,hφ',hw,h2,h3,h4,h5,h6⟩⟩:=wA hI hg
     ·obtain ⟨A0,_,rfl⟩:=h1;exact .inl (by simp)
     ·rw [hφ] at hφ';injection hφ' with e1 e2 e3;injection e1 with e1;injection e1 with e1;subst e1;subst e3;refine .inr ⟨g,lo*k,rfl,?_⟩;obtain ⟨cs',E',hw',hlent⟩:=M0 hI (aZ hg) (b:=g) (by rw [hφ];rfl);rw [hw] at hw';injection hw' with hw';injection hw' with hw';subst hw';have hfull:iC (lentG h φ T w) g k es 0:=iC.of_list (h6.mono (tG hI)) hl λj v hj=>by
       unfold lS;rw [hlent];rw [zD] at hj;split at hj
       ·simpa using hj
       ·simp at hj
      simpa using (hfull.drop lo).take m
   ·simp [Rp]
  ·simp [Rp]
 | .rp cs,u,_,e=>by
  simp only [Rp,qY] at *
  obtain ⟨b,o,h1,h2⟩:=e;exact ⟨b,o,h1,h2.mono (tG hI)⟩
 | .cl f cs,_,hd,e=>by
  simp only [Rp,qY,dZ] at *
  obtain ⟨us,h1,h2⟩:=e;exact ⟨us,h1,tH hI hd h2⟩
 | .bm f kk cs,_,hd,e=>by
  simp only [Rp,qY,dZ] at *
  obtain ⟨us,h1,h2⟩:=e;exact ⟨us,h1,tH hI hd h2⟩
 | .tup cs,_,hd,e=>by
  simp only [Rp,qY,dZ] at *
  obtain ⟨us,h1,h2⟩:=e;exact ⟨us,h1,tH hI hd h2⟩
 | .any,_,_,_=>by simp [Rp,qY]
def Jo (hI:Inv h φ w T) {φ':Nat→Value}:∀ {cs:List AV} {us:List Value},fU (AJ T cs)=[]→bK h φ T.length cs us→bK (lentG h φ T w) φ' 0 (AJ T cs) us
 | [],_,_,e=>by simpa [bK,AJ] using e
 | c::cs,us,hd,e=>by
  simp only [bK,AJ,fU,Tv] at *
  obtain ⟨u,us',h1,h2,h3⟩:=e;exact ⟨u,us',h1,YB hI hd.1 h2,Jo hI hd.2 h3⟩
def aAu (hI:Inv h φ w T) {φ':Nat→Value}:∀ {x:AV} {u:Value},dZ x=[]→Rp h φ T.length x u→Rp (lentG h φ T w) φ' 0 x u
 | .v _,_,_,e=>by simpa [Rp] using e
 | .ls _ _,_,_,e=>by simp only [Rp] at *;exact e.mono (tG hI)
 | .ag cs,_,hd,e=>by simp only [Rp,dZ] at *;obtain ⟨us,h1,h2⟩:=e;exact ⟨us,h1,tH hI hd h2⟩
 | .own _,_,hd,_=>by simp [dZ] at hd
 | .ptr _ _,_,hd,_=>by simp [dZ] at hd
 | .elt _ _ _ _,_,hd,_=>by simp [dZ] at hd
 | .vw _ _ _ _,_,hd,_=>by simp [dZ] at hd
 | .mp _,_,hd,_=>by simp [dZ] at hd
 | .yl _,_,hd,_=>by simp [dZ] at hd
 | .rp cs,u,_,e=>by
  simp only [Rp] at *
  obtain ⟨b,o,h1,h2⟩:=e;exact ⟨b,o,h1,h2.mono (tG hI)⟩
 | .cl f cs,_,hd,e=>by simp only [Rp,dZ] at *;obtain ⟨us,h1,h2⟩:=e;exact ⟨us,h1,tH hI hd h2⟩
 | .bm f kk cs,_,hd,e=>by simp only [Rp,dZ] at *;obtain ⟨us,h1,h2⟩:=e;exact ⟨us,h1,tH hI hd h2⟩
 | .tup cs,_,hd,e=>by simp only [Rp,dZ] at *;obtain ⟨us,h1,h2⟩:=e;exact ⟨us,h1,tH hI hd h2⟩
 | .any,_,_,_=>by simp [Rp]
def tH (hI:Inv h φ w T) {φ':Nat→Value}:∀ {cs:List AV} {us:List Value},fU cs=[]→bK h φ T.length cs us→bK (lentG h φ T w) φ' 0 cs us
 | [],_,_,e=>by simpa [bK] using e
 | c::cs,us,hd,e=>by
  simp only [bK,fU,Tv] at *
  obtain ⟨u,us',h1,h2,h3⟩:=e;exact ⟨u,us',h1,aAu hI hd.1 h2,tH hI hd.2 h3⟩
end
def YC (hI:Inv h φ w T) {φc:Nat→Value} {T':aH} {h1:GH} {φc':Nat→Value} {w':World} (hE:Evo (lentG h φ T w) φc [] w h1 φc' T' w') (hI':Inv h1 φc' w' T') {r:AV} {v:Value} (hr:Rp h1 φc' T'.length r v)
  (hfr:fF r) (hfT:∀ o∈T',uX o) :
  ∃ h' φ',Evo h φ T w h' φ' (T++T'.map (CI [] T.length)) w'∧Inv h' φ' w' (T++T'.map (CI [] T.length))∧Rp h' φ' (T++T'.map (CI [] T.length)).length (vG [] T.length r) v:=by
 have hframe:∀ b,b<w.heap.size→w'.heap[b]?=w.heap[b]?:=λb hb=>hE.frame b hb λi o e=>by simp at e
 let h':GH:=unlentG h1 φ T;have hle:zG h h':=by
  intro b cs e;have h2:=hE.le b cs (tG hI b cs e);show unlentG h1 φ T b=some cs;unfold unlentG;rw [if_neg]
  ·exact h2
  ·rintro ⟨i,o,hi,hb⟩;have:=(fO (hI.obj i o hi) hb).2;rw [e] at this;simp at this
 have hun:∀ b cs,h' b=some cs→h1 b=some cs∧¬∃ i o,T[i]?=some (some o)∧iE (φ i)=some b:=by
  intro b cs e;change unlentG h1 φ T b=some cs at e;unfold unlentG at e;split at e
  ·simp at e
  ·rename_i hx;exact ⟨e,hx⟩
 have hI2:Inv h' φc' w' T':=by
  refine ⟨λb cs e=>hI'.gh b cs (hun b cs e).1,λi o e=>?_,hI'.dis⟩;have ho:=hI'.obj i o e;refine X9 (hfT _ (Ru e)) (λg hg=>?_) ho;have hn:=(fO ho hg).2
  cases hh:h' g with
  | none=>rfl
  | some cs=>rw [(hun g cs hh).1] at hn;simp at hn
 have hE2:Evo h φc [] w h' φc' T' w':=by
  refine ⟨hE.os,hE.tape,hE.output,hE.size,hE.frame,hle,λb cs e=>?_,λi hi=>by simp at hi,hE.org,by simp,hE.drawn⟩;obtain ⟨e1,hx⟩:=hun b cs e;rcases hE.gfr b cs e1 with h2 | h2 | ⟨i,o,h3,_⟩
  ·unfold lentG at h2;rw [if_neg hx] at h2;exact .inl h2
  ·exact .inr (.inl h2)
  ·simp at h3
 have hnil:CP ([]:List Nat) T=[]:=rfl;have:=X8 (L:=[]) (φc:=φc) (by simp) (λi hi=>by simp at hi) hI (λj i e=>by simp at e) (by rw [hnil];exact hE2) hI2 (Jn (h':=h') hfr hr);have hbk:Fd [] T.length T [] T'=T++T'.map (CI [] T.length):=by
  cases T' with
  | nil=>simp [Fd]
  | cons x T'=>rfl
 rw [hbk] at this;exact ⟨h',this⟩
end
section
variable {P:Program} {G:Nat→Option (List AV)} {h:GH} {φ:Nat→Value} {T:aH} {w:World}
mutual
def aAv {h:GH} {φ:Nat→Value} {n:Nat}:∀ {x y:AV} {u:Value},pT x y→Rp h φ n x u→Rp h φ n y u
 | .ag cs,y,u,hs,e=>by
  simp only [pT] at hs;rcases hs with rfl | ⟨ds,rfl,hs⟩
  ·exact e
  ·simp only [Rp] at e ⊢;obtain ⟨us,h1,h2⟩:=e;exact ⟨us,h1,N9 hs h2⟩
 | .v x,y,u,hs,e=>by
  simp only [pT] at hs;rcases hs with rfl | ⟨rfl,k,rfl⟩ | ⟨us,rfl,rfl⟩
  ·exact e
  ·simp only [Rp] at e;subst e;simp only [Rp,kY];exact ⟨none,0,rfl,cT _,B8 _,by simp⟩
  ·simp only [Rp] at e;subst e;simp only [Rp];refine ⟨us,rfl,?_⟩;have:∀ l:List Value,bK h φ n (l.map .v) l:=by
    intro l
    induction l with
    | nil=>simp [bK]
    | cons c l ih=>simp only [fE,bK];exact ⟨c,l,rfl,by simp [Rp],ih⟩
   exact this _
 | .ls _ _,y,u,hs,e=>by simp only [pT] at hs;subst hs;exact e
 | .own _,y,u,hs,e=>by simp only [pT] at hs;subst hs;exact e
 | .ptr _ _,y,u,hs,e=>by simp only [pT] at hs;subst hs;exact e
 | .elt _ _ _ _,y,u,hs,e=>by simp only [pT] at hs;subst hs;exact e
 | .vw _ _ _ _,y,u,hs,e=>by simp only [pT] at hs;subst hs;exact e
 | .mp _,y,u,hs,e=>by simp only [pT] at hs;subst hs;exact e
 | .yl _,y,u,hs,e=>by simp only [pT] at hs;subst hs;exact e
 | .rp _,y,u,hs,e=>by simp only [pT] at hs;subst hs;exact e
 | .cl _ _,y,u,hs,e=>by simp only [pT] at hs;subst hs;exact e
 | .bm _ _ _,y,u,hs,e=>by simp only [pT] at hs;subst hs;exact e
 | .tup _,y,u,hs,e=>by simp only [pT] at hs;subst hs;exact e
 | .any,y,u,hs,e=>by simp only [pT] at hs;subst hs;exact e
def N9 {h:GH} {φ:Nat→Value} {n:Nat}:∀ {cs ds:List AV} {us:List Value},Ar cs ds→bK h φ n cs us→bK h φ n ds us
 | [],ds,us,hs,e=>by simp only [Ar] at hs;subst hs;exact e
 | c::cs,ds,us,hs,e=>by
  simp only [Ar] at hs;obtain ⟨d,ds',rfl,h1,h2⟩:=hs;simp only [bK] at e ⊢;obtain ⟨u,us',h3,h4,h5⟩:=e;exact ⟨u,us',h3,aAv h1 h4,N9 h2 h5⟩
end
def Vm {f:FuncId} {args:List AV} {K:AV→aH→Prop} (hc:Xy P G f args T K) (hG:pS G h) (hI:Inv h φ w T) {vals:Array Value} (ha:bK h φ T.length args vals.toList) :
  ((callFunc f vals).run P w=.ok (.enter f vals) w∧Calls P f vals w (λe w'=>∃ v,e=.returned v∧Bv h φ T w K v w')) ∨
  (∃ v w',(callFunc f vals).run P w=.ok (.value v) w'∧Bv h φ T w K v w'):=by
 rcases hc with ⟨L,hL,hlt,hc⟩ | ⟨hids,hc⟩ | hc
 ·have hφ:Hq L φ (λj=>φ (L.getD j 0)):=by
   intro j i e;simp [uW,e]
  have hlen:(CP L T).length=L.length:=by simp [CP]
  have back:∀ v w',Bv h (λj=>φ (L.getD j 0)) (CP L T) w (λr T'=>K (vG L T.length r) (Fd L T.length T L T')) v w'→Bv h φ T w K v w':=by
   rintro v w' ⟨r,T',h',φ',e1,e2,e3,e4⟩;obtain ⟨φ2,e5,e6,e7⟩:=X8 hL hlt hI hφ e2 e3 e4;exact ⟨_,_,h',φ2,e1,e5,e6,e7⟩
  exact (hc h _ w vals hG (X6 hL hI hφ) (by rw [hlen];exact Aw hφ ha)).imp
   (λ⟨e,c⟩=>⟨e,c.mono λ_ w' ⟨v,e1,e2⟩=>⟨v,e1,back v w' e2⟩⟩) (λ⟨v,w',e,c⟩=>⟨v,w',e,back v w' c⟩)
 ·have back:∀ v w',Bv (lentG h φ T w) φ [] w (λr T'=>fF r∧(∀ o∈T',uX o)∧K (vG [] T.length r) (T++T'.map (CI [] T.length))) v w'→Bv h φ T w K v w':=by
   rintro v w' ⟨r,T',h',φ',⟨f1,f2,e1⟩,e2,e3,e4⟩;obtain ⟨h2,φ2,e5,e6,e7⟩:=YC hI e2 e3 e4 f1 f2;exact ⟨_,_,h2,φ2,e1,e5,e6,e7⟩
  exact (hc (lentG h φ T w) φ w vals (hG.mono (tG hI)) (YA hI φ) (Jo hI hids ha)).imp
   (λ⟨e,c⟩=>⟨e,c.mono λ_ w' ⟨v,e1,e2⟩=>⟨v,e1,back v w' e2⟩⟩) (λ⟨v,w',e,c⟩=>⟨v,w',e,back v w' c⟩)
 ·exact hc h φ w vals hG hI ha
def CT {f:FuncId} {args:List AV} {K:AV→aH→Prop} (hc:EI P G f args T K) (hG:pS G h) (hI:Inv h φ w T) {vals:Array Value} (ha:bK h φ T.length args vals.toList) :
  ((callFunc f vals).run P w=.ok (.enter f vals) w∧Calls P f vals w (λe w'=>∃ v,e=.returned v∧Bv h φ T w K v w')) ∨
  (∃ v w',(callFunc f vals).run P w=.ok (.value v) w'∧Bv h φ T w K v w'):=by
 obtain ⟨args',hs,hc⟩:=hc;exact Vm hc hG hI (N9 hs ha)
end
end
end Hud
