import Derived.Test.YtlhonkjgkfdnmaaGreatDoorLib32
set_option linter.all false
set_option maxHeartbeats 40000000
namespace Hud
open Go
variable{G:L_}
def dS{T:aK}{i:Nat}{o o':Option AObj}(h:T[i]?=some o'):(T.set i o)[i]?=some o:=List.getElem?_set_self (sV.1 h).1
def aY{T:aK}{i j:Nat}{o:Option AObj}(h:i≠j):(T.set i o)[j]?=T[j]?:=List.getElem?_set_ne h
def dB{T:aK}{i:Nat}{o:Option AObj}(h:T[i]?=some o):i<T.length:=(sV.1 h).1
theorem C2{α a:Type}(f:α->a):∀(l:List α)(k:Nat),(l.map f).eraseIdx k=(l.eraseIdx k).map f|[],_=>by simp|_::_,0=>by simp|_::l,k+1=>by simp[C2 f l k]
def MemAt.mono{T T':aK}{V V':List VM}{p:Nat×Nat×Nat}{m:MM}(h:MemAt T V p m)(f:∀i∈G1 p m,T'[i]?=T[i]?)(j:m.Is=true->∀v:VM,v.Of=m.ID->(v∈V'↔v∈V)):MemAt T' V' p m where
 mem:=by rw[f _ (by unfold G1;split<;>simp)];exact h.mem
 grd:=λe=>by rw[f _ (by simp[G1,e])];exact h.grd e
 vch:=λe=>by obtain⟨l,bs,g,a,b,c,d⟩:=h.vch e;refine⟨l,bs,g,by rw[f _ (by simp[G1,e])];exact a,b,λv=>?_,d⟩;simp_all
structure Wr(T:aK)(s:RP)(r:RM)(T':aK)(s':RP)(r':RM):Prop where
 at':RollAt T' s' r'
 root:s'.root=s.root
 len:T.length<=T'.length
 same:∀i,i<T.length->¬aB7 s r i->T'[i]?=T[i]?
 fp:∀i,aB7 s' r' i->aB7 s r i\/T.length<=i
def Wr.refl{T:aK}{s:RP}{r:RM}(h:RollAt T s r):Wr T s r T s r:=⟨h,rfl,cN _,λ_ _ _=>rfl,λ_ h=>.inl h⟩
def Wr.trans{T k T2:aK}{s e d:RP}{r g f:RM}(a:Wr T s r k e g)(b:Wr k e g T2 d f):Wr T s r T2 d f where
 at':=b.at'
 root:=b.root.trans a.root
 len:=uR a.len b.len
 same:=λi c j=>(b.same i (CV c a.len) λh=>(a.fp i h).elim j λh=>absurd c o_).trans (a.same i c j)
 fp:=λi h=>(b.fp i h).elim (a.fp i) λh=>.inr (uR a.len h)
def Wr.app{T d X:aK}{s b:RP}{r c:RM}(a:Wr T s r d b c):Wr T s r (d++X) b c where
 at':=a.at'.app
 root:=a.root
 len:=by rw[dZ];have:=a.len;omega
 same:=λi f e=>by rw[mY (by have:=a.len;omega)];exact a.same i f e
 fp:=a.fp
def Wr.ofApp{T d X:aK}{s b:RP}{r c:RM}(h:RollAt T s r)(a:Wr (T++X) s r d b c):Wr T s r d b c where
 at':=a.at'
 root:=a.root
 len:=by have:=a.len;rw[dZ]at this;omega
 same:=λi f e=>by rw[a.same i k6 e,mY f]
 fp:=λi h=>(a.fp i h).elim .inl λh=>.inr (by rw[dZ]at h;omega)
def FPr.ne{s:RP}{r:RM}(h:FPr s r):s.root≠s.c/\s.root≠s.i/\s.root≠s.w/\s.root≠s.m/\s.c≠s.i/\s.c≠s.w/\s.c≠s.m/\s.i≠s.w/\s.i≠s.m/\s.w≠s.m:=by have:=h.five;simp_all[RP.five,BU,cS,pP,Mm]
theorem Oz{s:RP}{x:Nat}:x∈s.five↔x=s.root\/x=s.c\/x=s.i\/x=s.w\/x=s.m:=dm
section
variable{T T':aK}{s:RP}{r:RM}
def D4{k:Nat}(h:k<r.L.length)(h2:k<s.ms.length):MT s r k=G1 s.ms[k] r.L[k]:=by grind[MT]
def aIq{k x:Nat}(h:x∈MT s r k):∃(h:k<r.L.length)(h2:k<s.ms.length),x∈G1 s.ms[k] r.L[k]:=by grind[MT]
def MemAt.lt{V:List VM}{p:Nat×Nat×Nat}{m:MM}(h:MemAt T V p m){x:Nat}(b:x∈G1 p m):x<T.length:=by unfold G1 at b;split at b;rename_i e;obtain⟨l,bs,c,a,_⟩:=h.vch e;simp only[cS,pP,or_false]at b;rcases b with rfl|rfl|rfl;exact dB h.mem;exact dB (h.grd e);exact dB a;rw[cA]at b;subst b;exact dB h.mem
def RollAt.lt(h:RollAt T s r){x:Nat}(c:aB7 s r x):x<T.length:=by
 rcases c with c|⟨k,c⟩
 obtain⟨_,_,f,_⟩:=h.inn;obtain⟨_,_,_,d,_⟩:=h.was;obtain⟨_,_,e,_⟩:=h.mems;rcases Oz.1 c with rfl|rfl|rfl|rfl|rfl;exact dB h.root;exact dB h.cards;exact dB f;exact dB d;exact dB e;obtain⟨a,b,c⟩:=aIq c;exact(h.each k a b).lt c
def RollAt.fiveLt(h:RollAt T s r):s.root<T.length/\s.c<T.length/\s.i<T.length/\s.w<T.length/\s.m<T.length :=
 ⟨h.lt (.inl dm),h.lt (.inl dm),h.lt (.inl dm),h.lt (.inl dm),h.lt (.inl dm)⟩
def KQ(h:FPr s r){k:Nat}(h1:k<r.L.length)(h2:k<s.ms.length){x:Nat}(a:x∈G1 s.ms[k] r.L[k]):x≠s.root/\x≠s.c/\x≠s.i/\x≠s.w/\x≠s.m:=by have:=h.off k x (by rw[D4 h1 h2];exact a);grind[Oz]
def RollAt.setIW(h:RollAt T s r){f c:B_}(C:T.length<=T'.length)(m:∀j,j<T.length->j≠s.i->j≠s.w->T'[j]?=T[j]?)
 (E:∃bs g,T'[s.i]?=some (some (tK f bs g))/\Bs f.length bs g)
 (B:∃l bs g,T'[s.w]?=some (some (tK l bs g))/\Bs l.length bs g/\(∀d,d∈l↔d∈f\/d∈c)/\(l=[]↔f=[]/\c=[])/\l.Nodup):Wr T s r T' s {r with In:=f,Gone:=c}:=by
 obtain⟨J,v,u,I,t,q,H,G,F,y⟩:=h.nd.ne;obtain⟨A,z,M,L,K⟩:=h.fiveLt;refine⟨⟨?_,?_,E,B,?_,h.mslen,λk h1 h2=>?_,⟨h.nd.five,h.nd.off,h.nd.own,h.nd.inj⟩⟩,rfl,C,λj D o=>m j D (λe=>o (.inl ay)) (λe=>o (.inl ay)),λ_ h=>.inl h⟩;rw[m _ A v u];exact h.root;rw[m _ z t q];exact h.cards;obtain⟨bs,g,a,b⟩:=h.mems;grind;have p:=h.each k h1 h2;exact p.mono (λx n=>m x (p.lt n) (KQ h.nd h1 h2 n).2.2.1 (KQ h.nd h1 h2 n).2.2.2.1) λ_ _ _=>Iff.rfl
def RollAt.setBack(h:RollAt T s r){b:Int}(v:T.length<=T'.length)(d:∀j,j<T.length->j≠s.root->T'[j]?=T[j]?)(t:T'[s.root]?=some (some (.box [.mp s.c,.mp s.i,.mp s.w,.mp s.m,iv b]))):Wr T s r T' s {r with Back:=b}:=by obtain⟨p,G,F,E,D,C,B,A,z,o⟩:=h.nd.ne;obtain⟨K,q,J,I,H⟩:=h.fiveLt;refine⟨⟨t,?_,?_,?_,?_,h.mslen,λk h1 h2=>?_,⟨h.nd.five,h.nd.off,h.nd.own,h.nd.inj⟩⟩,rfl,v,λj y u=>d j y (λe=>u (.inl ay)),λ_ h=>.inl h⟩;rw[d _ q (Ne.symm p)];exact h.cards;obtain⟨bs,n,a,b⟩:=h.inn;grind;obtain⟨l,bs,n,a,b⟩:=h.was;grind;obtain⟨bs,n,a,b⟩:=h.mems;grind;have g:=h.each k h1 h2;exact g.mono (λx f=>d x (g.lt f) (KQ h.nd h1 h2 f).1) λ_ _ _=>Iff.rfl
def RollAt.addM(h:RollAt T s r){p:Nat}{m:MM}(hI:m.Is=false)(S:T.length<=p)(u:T'[p]?=some (some (.box [iv m.Role,.v (.pointer none)])))(G:T.length<=T'.length)(g:∀j,j<T.length->j≠s.m->T'[j]?=T[j]?)
 (o:∃bs f,T'[s.m]?=some (some (.map false (r.L.map (λm=>iK m.N)++[iK m.N]) (s.ms.map (λp=>.ptr p.1 0)++[.ptr p 0]) bs f))/\Bs (r.L.length+1) bs f):Wr T s r T' {s with ms:=s.ms++[(p,0,0)]} {r with L:=r.L++[m]}:=by
 obtain⟨Q,P,O,z,M,K,y,J,w,t⟩:=h.nd.ne;obtain⟨D,C,B,A,R⟩:=h.fiveLt;have i:=h.mslen;have q:∀k,MT {s with ms:=s.ms++[(p,0,0)]} {r with L:=r.L++[m]} k=if k=r.L.length then [p] else MT s r k:=by intro k;unfold MT;grind[List.getElem?_concat_length,G1]
 have n:∀k x,x∈MT s r k->x<T.length:=λk x c=>h.lt (.inr ⟨k,c⟩);refine⟨⟨?_,?_,?_,?_,?_,?_,λk h1 h2=>?_,⟨h.nd.five,λk x c=>?_,λk=>?_,λk E x c d=>?_⟩⟩,rfl,G,λj H F=>g j H (λe=>F (.inl ay)),λx c=>?_⟩;rw[g _ D z];exact h.root;rw[g _ C y];exact h.cards;obtain⟨bs,f,a,b⟩:=h.inn;exact⟨bs,f,by rw[g _ B w];exact a,b⟩;obtain⟨l,bs,f,a,b⟩:=h.was;exact⟨l,bs,f,by rw[g _ A t];exact a,b⟩;obtain⟨bs,f,a,b⟩:=o;exact⟨bs,f,ov,T_⟩;simpa using i;simp only[dZ,GT]at h1 h2;rcases eD k r.L.length with h3|h3;have o:=h.each k h3 o_;simp only[List.getElem_append_left h3,List.getElem_append_left (o_:k<s.ms.length)];exact o.mono (λx c=>g x (o.lt c) (KQ h.nd h3 o_ c).2.2.2.2) λ_ _ _=>Iff.rfl;obtain rfl:k=r.L.length:=o_;simp only[List.getElem_concat_length,<-i];exact⟨by rw[u,hI];rfl,λe=>absurd e (by rw[hI];decide),λe=>absurd e (by rw[hI];decide)⟩;rw[q]at c;show x∉s.five;split at c;rw[cA]at c;subst c;exact λI=>absurd (h.lt (.inl I)) o_;exact h.nd.off k x c;rw[q];split;simp;exact h.nd.own k;rw[q]at c d;split at c<;>split at d;omega;rw[cA]at c;subst c;exact absurd (n _ _ d) o_;rw[cA]at d;subst d;exact absurd (n _ _ c) o_;exact h.nd.inj k E x c d;rcases c with c|⟨k,c⟩
 exact .inl (.inl c);rw[q]at c;split at c;rw[cA]at c;exact .inr o_;exact .inl (.inr ⟨k,c⟩)
def RollAt.delM(h:RollAt T s r){k:Nat}(E:k<r.L.length){V':List VM}(D:T.length<=T'.length)(i:∀j,j<T.length->j≠s.m->T'[j]?=T[j]?)
 (f:∃bs o,T'[s.m]?=some (some (.map false ((r.L.map λm=>iK m.N).eraseIdx k) ((s.ms.map λp=>.ptr p.1 0).eraseIdx k) bs o))/\Bs (r.L.length-1) bs o)
 (t:∀j(q:j<r.L.length),j≠k->r.L[j].Is=true->∀v:VM,v.Of=r.L[j].ID->(v∈V'↔v∈r.V)):Wr T s r T' {s with ms:=s.ms.eraseIdx k} {r with L:=r.L.eraseIdx k,V:=V'}:=by
 obtain⟨M,K,J,w,I,H,u,G,F,y⟩:=h.nd.ne;obtain⟨A,z,Q,P,O⟩:=h.fiveLt;have B:=h.mslen;have n:∀j,MT {s with ms:=s.ms.eraseIdx k} {r with L:=r.L.eraseIdx k,V:=V'} j=MT s r (if j<k then j else j+1):=by grind[MT]
 refine⟨⟨?_,?_,?_,?_,?_,?_,λj h1 h2=>?_,⟨h.nd.five,λj x c=>?_,λj=>?_,λj R x c g=>?_⟩⟩,rfl,D,λj q C=>i j q (λe=>C (.inl ay)),λx c=>?_⟩;rw[i _ A w];exact h.root;rw[i _ z u];exact h.cards;obtain⟨bs,o,a,b⟩:=h.inn;grind;obtain⟨l,bs,o,a,b⟩:=h.was;grind;grind[C2];grind;replace h1:j<(r.L.eraseIdx k).length:=h1;replace h2:j<(s.ms.eraseIdx k).length:=h2;show MemAt T' V' (s.ms.eraseIdx k)[j] (r.L.eraseIdx k)[j];rw[Rg E]at h1;rcases eD j k with d|d;rw[List.getElem_eraseIdx_of_lt _ d,List.getElem_eraseIdx_of_lt _ d];have f:=h.each j o_ o_;exact f.mono (λx c=>i x (f.lt c) (KQ h.nd o_ o_ c).2.2.2.2) (t j _ o_);rw[List.getElem_eraseIdx_of_ge _ d,List.getElem_eraseIdx_of_ge _ d];have f:=h.each (j+1) o_ o_;exact f.mono (λx c=>i x (f.lt c) (KQ h.nd o_ o_ c).2.2.2.2) (t (j+1) _ o_);rw[n]at c;exact h.nd.off _ x c;rw[n];exact h.nd.own _;rw[n]at c g;have:=h.nd.inj _ _ x c g;split at this<;>split at this<;>omega;rcases c with c|⟨j,c⟩
 exact .inl (.inl c);rw[n]at c;exact .inl (.inr ⟨_,c⟩)
def RollAt.setM (h:RollAt T s r) {k:Nat} (q:k<r.L.length) (g:k<s.ms.length) {V':List VM} {p':Nat×Nat×Nat} {m':MM} (O:T.length<=T'.length) (o:∀j,j<T.length->j∉G1 s.ms[k] r.L[k]->T'[j]?=T[j]?)
 (R:m'.N=r.L[k].N) (K:p'.1=s.ms[k].1) (Q:MemAt T' V' p' m') (C:(G1 p' m').Nodup) (i:∀x∈G1 p' m',x∈G1 s.ms[k] r.L[k]\/T.length<=x)
 (P:∀j(n:j<r.L.length),j≠k->r.L[j].Is=true->∀v:VM,v.Of=r.L[j].ID->(v∈V'↔v∈r.V)):Wr T s r T' {s with ms:=s.ms.set k p'} {r with L:=r.L.set k m',V:=V'}:=by
 obtain⟨J,I,H,G,F⟩:=h.fiveLt;have B:=h.mslen;have f:∀{x},x∈s.five->x∉G1 s.ms[k] r.L[k]:=λ{x} w c=>h.nd.off k x (by rw[D4 q g];exact c) w;have y:∀j,MT {s with ms:=s.ms.set k p'} {r with L:=r.L.set k m',V:=V'} j=if j=k then G1 p' m' else MT s r j:=by grind[MT]
 have u:∀j x,x∈MT s r j->x<T.length:=λj x c=>h.lt (.inr ⟨j,c⟩);refine⟨⟨?_,?_,?_,?_,?_,?_,λj h1 h2=>?_,⟨h.nd.five,λj x c=>?_,λj=>?_,λj D x c d=>?_⟩⟩,rfl,O,λj n M=>o j n λc=>M (.inr ⟨k,by rw[D4 q g];exact c⟩),λx c=>?_⟩;rw[o _ J (f dm)];exact h.root;rw[o _ I (f dm)];exact h.cards;obtain⟨bs,t,a,b⟩:=h.inn;exact⟨bs,t,by rw[o _ H (f dm)];exact a,b⟩;obtain⟨l,bs,t,a,b⟩:=h.was;exact⟨l,bs,t,by rw[o _ G (f dm)];exact a,b⟩;obtain⟨bs,t,a,b⟩:=h.mems;refine⟨bs,t,?_,T_⟩;have A:((r.L.set k m').map λm=>iK m.N)=r.L.map λm=>iK m.N:=by refine Ki s_ λj h1 h2=>?_;grind
 have z:((s.ms.set k p').map λp=>AV.ptr p.1 0)=s.ms.map λp=>AV.ptr p.1 0:=by refine Ki s_ λj h1 h2=>?_;rw[zL,zL,List.getElem_set];split;rename_i e;subst e;rw[K];rfl
 show T'[s.m]?=some (some (.map false ((r.L.set k m').map λm=>iK m.N) ((s.ms.set k p').map λp=>AV.ptr p.1 0) bs t));rw[A,z,o _ F (f dm)];exact a;simpa using B;simp only[cL]at h1 h2;by_cases n:j=k;subst n;simp only[YC];exact Q;simp only[List.getElem_set_ne (Ne.symm n)];have E:=h.each j h1 h2;exact E.mono (λx c=>o x (E.lt c) λd=>n (h.nd.inj j k x (by rw[D4 h1 h2];exact c) (by rw[D4 q g];exact d))) (P j h1 n);rw[y]at c;show x∉s.five;split at c;rcases i x c with h1|h1;exact λw=>f w h1;exact λw=>absurd (h.lt (.inl w)) o_;exact h.nd.off j x c;rw[y];split;exact C;exact h.nd.own j;rw[y]at c d;split at c<;>split at d;omega;rename_i A z;rcases i x c with h1|h1;exact absurd (h.nd.inj D k x d (by rw[D4 q g];exact h1)) z;exact absurd (u _ _ d) o_;rename_i A z;rcases i x d with h1|h1;exact absurd (h.nd.inj j k x c (by rw[D4 q g];exact h1)) A;exact absurd (u _ _ c) o_;exact h.nd.inj j D x c d;rcases c with c|⟨j,c⟩
 exact .inl (.inl c);rw[y]at c;split at c;rcases i x c with h1|h1;exact .inl (.inr ⟨k,by rw[D4 q g];exact h1⟩);exact .inr h1;exact .inl (.inr ⟨j,c⟩)
end
def O0{r:RM}{m:MM}(h:m∈r.L)(hI:m.Is=true){v:VM}(e:v.Of=m.ID):v∈Fh r↔v∈r.V:=by
 have:0<=pZ r v.Of:=by have a:=mN (λm:MM=>m.Is&&decide (m.ID=v.Of)) r.L;have b:(r.L.any λm:MM=>m.Is&&decide (m.ID=v.Of))=true:=CX.2 ⟨m,h,by simp[hI,e]⟩;rw[b]at a;exact of_decide_eq_true a
 simp[Fh,this]
section
variable{T T':aK}{s:RP}{r:RM}
def RollAt.setV(h:RollAt T s r){V':List VM}(a:∀j(b:j<r.L.length),r.L[j].Is=true->∀v:VM,v.Of=r.L[j].ID->(v∈V'↔v∈r.V)):Wr T s r T s {r with V:=V'}:=
 ⟨⟨h.root,h.cards,h.inn,h.was,h.mems,h.mslen,λk h1 h2=>(h.each k h1 h2).mono (λ_ _=>rfl) (a k h1),⟨h.nd.five,h.nd.off,h.nd.own,h.nd.inj⟩⟩,rfl,cN _,λ_ _ _=>rfl,λ_ h=>.inl h⟩
end
def MV{bs:V_}{cl:Nat}(h:∀b∈bs,b<cl):(bs++[cl]).findIdx? (λb:Nat=>(b:Int)==(cl:Int))=some bs.length:=m_
def JM{α:Type}{l:List α}{n:Nat}{x y:α}(h:l.length=n):(l++[x]).set n y=l++[y]:=by subst h;simp
def Bs.suc{n cl:Nat}{bs:V_}(h:Bs n bs cl):Bs (n+1) (bs++[cl]) (cl+1) where
 len:=by rw[dZ,h.len];rfl
 nd:=vQ.2 ⟨h.nd,s_,λx c y a e=>by have:=h.lt x c;rw[cA]at a;omega⟩
 lt:=λb d=>(cG.1 d).elim (λh1=>by have:=h.lt b h1;omega) λh1=>by rw[cA]at h1;omega
def VH(l:B_)(d:Int)(bs:V_)(cl:Nat):AObj.map false (l.map iK++[[.int .i64 d]]) (l.map (λ_=>AV.v (.bool true))++[.v (.bool true)]) (bs++[cl]) (cl+1)=tK (l++[d]) (bs++[cl]) (cl+1):=by simp[tK,iK]
section
variable{T:aK}{s:RP}{r:RM}
def C3{d:Int}(h:lZ r d=true):d∉r.In/\d∉r.Gone/\0<eI r d:=by simp_all[lZ,aB6,zJ]
def rX(h:RollAt T s r)(d role:Int):aA PQ G mK [.ptr s.root 0,iv d,iv role] T λy T'=>∃s',Wr T s r T' s' (mU r d role):=by
 apply fT Fj;obtain⟨bi,E,D,n⟩:=h.inn;obtain⟨t,bw,cw,u,l,P,ad,M⟩:=h.was;simp only[go_sem];apply jA (rW h d);rintro y T' ⟨rfl,e⟩;obtain rfl:=e.symm;cases b1:lZ r d;simp only[go_sem];exact⟨s,by rw[mU,b1];exact Wr.refl h⟩;obtain⟨A,O,h0⟩:=C3 b1;have z:d∉t:=λe=>((P d).1 e).elim A O;have g:=iW d r.In 0;rw[MU A]at g;have f:=iW d t 0;rw[MU z]at f;simp only[xD]at g f;have hr:=h.root;unfold tK at D u;obtain⟨n1,n2,n3,n4,n5,n6,n7,K,n9,ac⟩:=h.nd.ne;obtain⟨bm,cm,C,af⟩:=h.mems;have V:=MV n.lt;have U:=MV l.lt;have H:=λy:AV=>JM (x:=AV.v (.bool false)) (y:=y) (show(r.In.map λ_=>AV.v (.bool true)).length=bi.length by rw[aP,n.len]);have F:=λy:AV=>JM (x:=AV.v (.bool false)) (y:=y) (show(t.map λ_=>AV.v (.bool true)).length=bw.length by rw[aP,l.len]);have gi:=λo=>dS (T:=T) (o:=o) D;have gw:=λo=>dS (T:=T) (o:=o) u;have q:=λo=>aY (T:=T) (o:=o) K;have S:=λo=>aY (T:=T) (o:=o) (Ne.symm K);have ai:=λo=>aY (T:=T) (o:=o) (Ne.symm n2);have ah:=λo=>aY (T:=T) (o:=o) (Ne.symm n3);have R:=λo J=>(dS (o:=J) ((q o).trans u))
 have aj:=λo J=>(dS (o:=J) ((S o).trans D))
 simp only[go_sem,hr,D,u,g,f,gi,q,R,V,U,H,F,List.set_set];rw[VH,VH];have c:Wr T s r ((T.set s.i (some (tK (r.In++[d]) (bi++[E]) (E+1)))).set s.w (some (tK (t++[d]) (bw++[cw]) (cw+1)))) s {r with In:=r.In++[d],Gone:=r.Gone}:=by refine h.setIW s_ (λj _ h1 h2=>by rw[aY (Ne.symm h2),aY (Ne.symm h1)]) ⟨_,_,(by rw[aY (Ne.symm K),gi]),?_⟩ ⟨t++[d],_,_,dS ((q _).trans u),?_,λx=>?_,?_,?_⟩;rw[dZ];exact n.suc;rw[dZ];exact l.suc;grind;simp;rw[vQ];exact⟨M,s_,λa ha b hb=>by rw[cA.1 hb];rintro rfl;exact z ha⟩
 generalize(T.set s.i (some (tK (r.In++[d]) (bi++[E]) (E+1)))).set s.w (some (tK (t++[d]) (bw++[cw]) (cw+1)))=T1 at c;have ec:mU r d role={r with In:=r.In++[d],L:=if jL r (eI r d)<0 then r.L++[⟨eI r d,role,false,⟨0,0,0⟩,[],0,0,false,0⟩] else r.L}:=by rw[mU,b1];rfl
 apply jA (kE c.at' d);rintro y T' ⟨rfl,e⟩;obtain rfl:=e.symm;have I:=c.at'.root;rcases yX c.at' (eI r d) with⟨ab,Z,j,h2,k,C,hj,ae,gv,hM,_⟩|⟨ab,Z,h2,k,C⟩
 have W:eI {r with In:=r.In++[d],Gone:=r.Gone} d=eI r d:=rfl;have Y:jL {r with In:=r.In++[d],Gone:=r.Gone} (eI r d)=jL r (eI r d):=rfl;rw[Y]at C;simp only[go_sem,W,I,h2,k,gv];rw[ec,if_neg o_];exact⟨s,c⟩;have W:eI {r with In:=r.In++[d],Gone:=r.Gone} d=eI r d:=rfl;have Y:jL {r with In:=r.In++[d],Gone:=r.Gone} (eI r d)=jL r (eI r d):=rfl;rw[Y]at C;have a2:=λX:aK=>aF (X:=X) h2;have a1:=λX:aK=>aF (X:=X) I;simp only[go_sem,W,I,h2,k,a2];obtain⟨aa,B,h3,Q⟩:=c.at'.mems;have e3:=h3.symm.trans h2;simp only[E_,AObj.map.injEq,true_and]at e3;obtain⟨rfl,rfl⟩:=e3;have l5:=c.at'.fiveLt.2.2.2.2;rw[ec,if_pos o_];refine⟨_,c.trans (c.at'.addM (p:=T1.length) (m:=⟨eI r d,role,false,⟨0,0,0⟩,[],0,0,false,0⟩) rfl (cN _) ?_ s_ (λj hj N=>?_) ⟨aa++[B],B+1,?_,Q.suc⟩)⟩;rw[aY o_,Mc o_];simp;rw[aY (Ne.symm N),mY hj];rw[dS (aF h3)]
end
def Bs.erase{n cl:Nat}{bs:V_}(h:Bs n bs cl){j:Nat}(a:j<n):Bs (n-1) (bs.eraseIdx j) cl where
 len:=by rw[Rg (by rw[h.len];exact a),h.len]
 nd:=h.nd.sublist (List.eraseIdx_sublist _ _)
 lt:=λb c=>h.lt b ((List.eraseIdx_sublist _ _).subset c)
def D5{d:Int}:∀{l:B_}{j:Nat},l.Nodup->(l.findIdx? λy=>d==y)=some j->l.eraseIdx j=l.filter (λx=>x !=d)
 |[],_,_,h=>by simp at h
 | x::l,j,b,h=>by
  rw[BU]at b;rw[List.findIdx?_cons]at h;by_cases a:d=x;subst a;simp only[beq_self_eq_true,if_true,E_]at h;subst h;rw[List.filter_cons];simp only[bne_self_eq_false,jJ,if_false,List.eraseIdx_cons_zero];refine(Gm.2 λy f=>?_).symm;grind;have e:(d==x)=false:=ov;simp only[e,jJ,if_false,X9]at h;obtain⟨k,c,rfl⟩:=h;rw[X7,D5 b.2 c,List.filter_cons];simp_all;omega
def G2{n:Int}:∀{l:List MM}{j:Nat}(_:j<l.length),(∀(i j:Nat)(b:i<l.length)(c:j<l.length),l[i].N=l[j].N->i=j)->l[j].N=n->l.filter (λm=>m.N !=n)=l.eraseIdx j
 |[],_,h,_,_=>by simp at h|x::l,0,_,a,h=>by
  rw[List.getElem_cons_zero]at h;rw[List.filter_cons,h];simp only[bne_self_eq_false,jJ,if_false,List.eraseIdx_cons_zero];refine Gm.2 λy d=>?_;obtain⟨i,b,rfl⟩:=List.mem_iff_getElem.1 d;simp only[bne_iff_ne];intro e;have:=a 0 (i+1) s_ T_ (by simp[h,e]);omega
 | x::l,j+1,c,a,h=>by
  rw[List.getElem_cons_succ]at h;rw[List.filter_cons,X7,G2 (l:=l) ox (λi k b f e=>by have:=a (i+1) (k+1) T_ kj X_;omega) h];have:x.N≠n:=λe=>by have:=a 0 (j+1) s_ c (by simp[h,e]);omega
  simp[this]
def aBc{n:Int}{l:List MM}(h:qX (λm:MM=>m.N==n) l=-1):l.filter (λm=>m.N !=n)=l:=by refine Gm.2 λy a=>?_;have b:=mN (λm:MM=>m.N==n) l;simp_all
section
variable{T:aK}{s:RP}{r:RM}
def uK (h:RollAt T s r) (hn:r.In.Nodup) (hu:∀(i j:Nat)(l:i<r.L.length)(w:j<r.L.length),r.L[i].N=r.L[j].N->i=j) (d:Int):aA PQ G nK [.ptr s.root 0,iv d] T λy T'=>∃s',Wr T s r T' s' (lN r d):=by
 apply fT Gh;obtain⟨bi,t,l,aj⟩:=h.inn;have hr:=h.root;have c:=iW d r.In 0;obtain⟨n1,n2,n3,n4,n5,n6,n7,n8,n9,aq⟩:=h.nd.ne;unfold tK at l;rcases K4 r.In d with⟨j,e,w,O⟩|⟨e,O⟩
 rotate_left;rw[e]at c;simp only[xD]at c;simp only[go_sem,hr,l,c];exact⟨s,by rw[lN,decide_eq_false O];exact Wr.refl h⟩;rw[e]at c;simp only[iX,mG]at c;have S:(r.In.map λ_=>AV.v (.bool true))[j]?=some (.v (.bool true)):=h_;simp only[go_sem,hr,l,c,S];rw[C2,C2];have Q:=aj.erase w;have I:AObj.map false ((r.In.eraseIdx j).map iK) ((r.In.eraseIdx j).map λ_=>.v (.bool true)) (bi.eraseIdx j) t=tK (r.In.filter λx=>x !=d) (bi.eraseIdx j) t:=by rw[D5 hn e];rfl
 have P:(r.In.filter λx=>x !=d).length=r.In.length-1:=by rw[<-D5 hn e,Rg w]
 rw[I];generalize bi.eraseIdx j=g at *
 have q:Wr T s r (T.set s.i (some (tK (r.In.filter λx=>x !=d) g t))) s {r with In:=r.In.filter (λx=>x !=d),Gone:=r.Gone++[d]}:=by obtain⟨lw,bw,cw,hw,ai,au,av,aa⟩:=h.was;refine h.setIW s_ (λj _ h1 h2=>by rw[aY (Ne.symm h1)]) ⟨_,_,dS l,by rw[P];exact Q⟩ ⟨lw,bw,cw,by rw[aY n8];exact hw,ai,λx=>?_,?_,aa⟩;grind;grind
 have al:(T.set s.i (some (tK (r.In.filter λx=>x !=d) g t))).length=T.length:=s_;have z:=dS (o:=some (tK (r.In.filter λx=>x !=d) g t)) l;generalize T.set s.i (some (tK (r.In.filter λx=>x !=d) g t))=W at q al z;apply jA (kE q.at' d);rintro y T' ⟨rfl,e⟩;obtain rfl:=e.symm;have eo:∀x,eI {r with In:=r.In.filter (λx=>x !=d),Gone:=r.Gone++[d]} x=eI r x:=λ_=>rfl;have em:∀x,jL {r with In:=r.In.filter (λx=>x !=d),Gone:=r.Gone++[d]} x=jL r x:=λ_=>rfl;have a1:=λX:aK=>aF (X:=X) q.at'.root;unfold tK at z;have a2:=λX:aK=>aF (X:=X) z;have r1:=q.at'.root;simp only[go_sem,eo,r1,z];have a:Bs (r.In.filter λx=>x !=d).length g t:=by rw[P];exact Q
 have A:lN r d=if((r.In.filter λx=>x !=d).any λx=>eI r x==eI r d)=true then {r with In:=r.In.filter (λx=>x !=d),Gone:=r.Gone++[d]} else
   {r with In:=r.In.filter (λx=>x !=d),Gone:=r.Gone++[d],L:=r.L.filter (λm=>m.N !=eI r d),V:=Fh {r with L:=r.L.filter λm=>m.N !=eI r d} }:=by
  rw[lN,decide_eq_true O];rfl
 generalize r.In.filter (λx=>x !=d)=f at *
 generalize ar:eI r d=n at *
 clear I l c S
 refine kL (λk st=>∃aAD:V_,aAD.Nodup/\(∀b∈aAD,b∈g)/\k=g.length-aAD.length/\(∀i(l:i<f.length),g.getD i 0∈aAD->(eI r f[i]==n)=false) /\
  st=⟨T.length,[(25,.ptr W.length 0),(4,iv n),(0,.ptr s.root 0)],W++[some (.mit (some s.i) t aAD t)]⟩) g.length ⟨[],s_,s_,rfl,s_,rfl⟩ ?_
 rintro k st ⟨aAD,ad,H,hk,hJ,rfl⟩;have b2:=λX:aK=>kU (a2 X);simp only[go_sem];refine VD (i:=W.length) (j:=s.i) (kU aD) (b2 _) (cN _) a.lt (by simp[a.len]) (by simp[a.len]) (λR=>?_) λe he ab=>?_;have ac:(f.any λx=>eI r x==n)=false:=by rw[List.any_eq_false];intro x Y;obtain⟨i,l,rfl⟩:=List.mem_iff_getElem.1 Y;have:=hJ i l (R _ (by rw[rH,jN (by rw[a.len];exact l)];exact eQ _));simpa using this
 rw[ac,if_neg d_]at A;rcases yX q.at' n with⟨ap,an,E,h2,C,M,u,aw,S,hM,hN⟩|⟨ap,an,h2,C,M⟩
 have c2:=λX:aK=>aF (X:=X) h2;simp only[go_sem,a1,c2,C];rw[A];obtain⟨ao,am,h3,ak⟩:=q.at'.mems;have e3:=h3.symm.trans h2;simp only[E_,AObj.map.injEq,true_and]at e3;obtain⟨rfl,rfl⟩:=e3;have ah:=G2 u hu hN;refine⟨{s with ms:=s.ms.eraseIdx E},q.trans ?_⟩;have:=q.at'.delM (T':=(W++[some (AObj.mit (some s.i) t aAD t)]).set s.m (some (AObj.map false ((r.L.map λm=>iK m.N).eraseIdx E) ((s.ms.map λp=>AV.ptr p.1 0).eraseIdx E) (ao.eraseIdx E) am))) u
  (V':=Fh {r with L:=r.L.filter λm=>m.N !=n}) s_ (λj w B=>by rw[aY (Ne.symm B),mY w]) ⟨_,_,dS (aF h3),ak.erase u⟩ (λj w B hI v Z=>?_)
 rw[ah]at this⊢;exact this;refine O0 (r:={r with L:=r.L.filter λm=>m.N !=n}) (m:=r.L[j]) (gR.2 ⟨eQ _,?_⟩) hI Z;simp only[bne_iff_ne];exact λe=>B (hu j E w u (e.trans hN.symm));have c2:=λX:aK=>aF (X:=X) h2;simp only[go_sem,a1,c2,C];rw[A,aBc M];exact⟨_,(q.trans (q.at'.setV λj w hI v Z=>O0 (r:=r) (eQ w) hI Z)).app⟩;have D:e<f.length:=by rw[<-a.len];exact he
 have c:=VE a.nd he;have gk:(f.map iK)[e]?=some (iK f[e]):=by rw[gE,jN D];rfl
 have S:(f.map λ_=>AV.v (.bool true))[e]?=some (.v (.bool true)):=by rw[gE,jN D];rfl
 simp only[go_sem,cU,aD,a2,Ke,c,gk,S,iY];apply cI (kE q.at'.app _);cases U:(eI r f[e]==n);have K:(aAD++[g[e]]).Nodup:=vQ.2 ⟨ad,s_,λx Y y hy e'=>ab (by rw[cA]at hy;rw[<-hy,<-e'];exact Y)⟩;have J:∀b∈aAD++[g[e]],b∈g:=λb hb=>(cG.1 hb).elim (H b) λh=>by rw[cA.1 h];exact eQ he
 have ae:=List.Nodup.length_le_of_subset K J;rw[dZ,GT]at ae;simp only[go_sem,eo,U];refine⟨g.length-(aAD++[g[e]]).length,by rw[dZ,GT];omega,_,K,J,rfl,λi l O=>?_,rfl⟩;rcases cG.1 O with h1|h1;exact hJ i l h1;have af:i<g.length:=by rw[a.len];exact l
 have h2:=cA.1 h1;rw[rH,jN af]at h2;have:=(C9 a.nd).1 (show g[i]=g[e] from h2);subst this;exact U;simp only[go_sem,eo,U];have F:(f.any λx=>eI r x==n)=true:=CX.2 ⟨_,eQ D,U⟩;rw[A,F,if_pos rfl];exact⟨s,q.app⟩
end
def fF{T X:aK}:(T++X)[T.length]?=X[0]?:=aZ (k:=0)
def iR{T X:aK}{c:Option AObj}:(T++X).set T.length c=T++X.set 0 c:=cP (k:=0)
section
variable{T:aK}{s:RP}{r:RM}
def aND(T:aK)(cs:List CardM)(y:AV)(T':aK):Prop:=∃s:RP,y=.ptr s.root 0/\RollAt T' s (RM.new cs)/\(∃X,T'=T++X)/\∀x,aB7 s (RM.new cs) x->T.length<=x
def nY:=And.intro @aZ (And.intro @cP (And.intro @fF (And.intro @iR (And.intro @oX.{0} (And.intro @sW.{0} (And.intro @yG.{0} (And.intro @aD (And.intro @cU (And.intro @aR (And.intro @eJ (And.intro @Id.A_def (And.intro @eB.{0} (And.intro @jC.{0} (And.intro @dM.{0} @sY))))))))))))))
def O1(cs:List CardM)(q:cs.length<=1000)(t:(cs.map (·.Device)).Nodup):aA PQ G HL [.ls 5 (cs.map CardM.A)] T (aND T cs):=by
 apply fT P8;simp only[go_sem,aP]
 refine kL (λn p=>∃i,i<=cs.length/\n=cs.length-i/\∃X:aK,X[0]?=some (some (.map false ((cs.take i).map λc=>iK c.Device) ((cs.take i).map λc=>.ag c.A) (List.range i) i))/\X[1]?=some (some (.map false [] [] [] 0))/\X[2]?=some (some (.map false [] [] [] 0))/\X[3]?=some (some (.map false [] [] [] 0)) /\
  X[4]?=some (some (.box [.mp (T.length+0),.mp (T.length+1),.mp (T.length+2),.mp (T.length+3),iv 0]))/\p=⟨T.length,[(14,iv i),(13,iv cs.length),(12,.ls 5 (cs.map CardM.A)),(3,.ptr (T.length+4) 0)],T++X⟩) cs.length ⟨0,pR _,rfl,[some (.map false [] [] [] 0),some (.map false [] [] [] 0),some (.map false [] [] [] 0),some (.map false [] [] [] 0),some (.box [.mp (T.length+0),.mp (T.length+1),.mp (T.length+2),.mp (T.length+3),iv 0])],rfl,rfl,rfl,rfl,rfl,by simp only[eB,jC,dM,mG];rfl⟩ ?_
 rintro n p ⟨i,E,D,X,g,o,m,l,d,rfl⟩;rcases eD i cs.length with a|y;have s:=fQ i o_;have z:(cs.map CardM.A)[i]?=some cs[i].A:=aO _ cs i a;have f:=iW cs[i].Device ((cs.take i).map (·.Device)) 0
 rw[MU (by
  intro u;obtain⟨c,q,e⟩:=dF.1 u;obtain⟨j,v,rfl⟩:=List.mem_iff_getElem.1 q;rw[eC]at v;rw[List.getElem_take]at e;have w:j=i:=(C9 (h₀:=M_) (h₁:=by rw[aP];exact a) t).1 X_
  omega),rI]at f
 replace f:eR [.int .i64] (iK cs[i].Device) ((cs.take i).map λc=>iK c.Device) 0=some none:=f;have B:=dB d;have h:=λY:aK=>aF (X:=Y) g;have r:=λY:aK=>aF (X:=Y) d;simp only[go_sem,aT a,z,aZ,cP,CardM.A_def,eB,h,r,f,s,dZ,fF,iR];refine⟨cs.length-(i+1),o_,i+1,o_,rfl,_,?_,?_,?_,?_,?_,rfl⟩;rw[dS (h _),lB a,QH,bZ,bZ];rfl;rw[aY d_];exact aF o;rw[aY d_];exact aF m;rw[aY d_];exact aF l;rw[aY d_];exact aF d;obtain rfl:i=cs.length:=o_;rw[dE]at g;simp only[go_sem,aS (bP _)];refine⟨⟨T.length+4,T.length+0,T.length+1,T.length+2,T.length+3,[]⟩,rfl,⟨?_,?_,⟨[],0,?_,⟨rfl,s_,s_⟩⟩,⟨[],[],0,?_,⟨rfl,s_,s_⟩,by simp[RM.new],by simp[RM.new],Mm⟩,⟨[],0,?_,⟨rfl,s_,s_⟩⟩,rfl,λk h1=>absurd h1 (by simp[RM.new]),⟨?_,?_,?_,?_⟩⟩,⟨X,rfl⟩,?_⟩;rw[aZ,d];rfl;rw[aZ,g];rfl;rw[aZ,o];rfl;rw[aZ,m];rfl;rw[aZ,l];rfl;simp[RP.five];intro k x b;simp[MT]at b;intro k;simp[MT];intro k C x b;simp[MT]at b;rintro x (b|⟨k,b⟩);rcases Oz.1 b with rfl|rfl|rfl|rfl|rfl<;>simp;simp[MT]at b
end
def RollAt.gone{T:aK}{s:RP}{r:RM}(h:RollAt T s r){g:B_}(f:∀d,d∈g↔d∈r.Gone):Wr T s r T s {r with Gone:=g}:=by refine⟨⟨h.root,h.cards,h.inn,?_,h.mems,h.mslen,λk h1 h2=>(h.each k h1 h2).mono (λ_ _=>rfl) λ_ _ _=>Iff.rfl,⟨h.nd.five,h.nd.off,h.nd.own,h.nd.inj⟩⟩,rfl,cN _,λ_ _ _=>rfl,λ_ h=>.inl h⟩;obtain⟨l,bs,i,a,b,c,d,e⟩:=h.was;refine⟨l,bs,i,a,b,λx=>by rw[c,f],?_,e⟩;simp_all[TS]
def Ln(r:RM)(n:Int)(ds:B_):RM :=
 if ds=[] then r else
 if((r.In.filter λx=>!decide (x∈ds)).any λx=>eI r x==n)=true then {r with In:=r.In.filter (λx=>!decide (x∈ds)),Gone:=r.Gone++ds} else
  {r with In:=r.In.filter (λx=>!decide (x∈ds)),Gone:=r.Gone++ds,L:=r.L.filter (λm=>m.N !=n),V:=Fh {r with L:=r.L.filter λm=>m.N !=n} }
def Fm{r:RM}{d:Int}(a:d∈r.In):lN r d=if((r.In.filter λx=>x !=d).any λx=>eI r x==eI r d)=true then {r with In:=r.In.filter (λx=>x !=d),Gone:=r.Gone++[d]} else
   {r with In:=r.In.filter (λx=>x !=d),Gone:=r.Gone++[d],L:=r.L.filter (λm=>m.N !=eI r d),V:=Fh {r with L:=r.L.filter λm=>m.N !=eI r d} }:=by
 rw[lN,decide_eq_true a];rfl
def foldGoes {n:Int}:∀(ds:B_)(r:RM),ds.Nodup->(∀d∈ds,d∈r.In/\eI r d=n)->ds.foldl lN r=Ln r n ds
 |[],_,_,_=>by simp[Ln]
 | a::ds,r,f,g=>by
  rw[BU]at f;obtain⟨l,i⟩:=g a EV;have j:(r.In.filter λx=>x !=a)=r.In.filter λx=>!decide (x∈[a]):=by refine List.filter_congr λx _=>?_;rw[CT];simp
  have o:((r.In.filter λx=>x !=a).filter λx=>!decide (x∈ds))=r.In.filter λx=>!decide (x∈a::ds):=by rw[List.filter_filter];refine List.filter_congr λx _=>?_;rw[CT];simp[and_comm]
  rw[CW,Fm l,i];cases c:((r.In.filter λx=>x !=a).any λx=>eI r x==n);rw[if_neg d_];have:ds=[]:=by
   cases ds with
   |nil=>rfl
   |cons b ds=>
    obtain⟨k,h⟩:=g b s_;rw[List.any_eq_false]at c;refine absurd (c b (gR.2 ⟨k,?_⟩)) (by simp[h]);simp only[bne_iff_ne];rintro rfl;exact f.1 s_
  subst this;rw[Kk,Ln,if_neg s_,<-j,c,if_neg d_]
  rw[if_pos rfl,foldGoes (n:=n) ds {r with In:=r.In.filter (λx=>x !=a),Gone:=r.Gone++[a]} f.2 (λd e=>⟨gR.2 ⟨(g d az).1,by
   simp only[bne_iff_ne];rintro rfl
   exact f.1 e⟩,(g d az).2⟩)]
  unfold Ln;by_cases h0:ds=[]
  subst h0;rw[if_pos rfl,if_neg s_,<-j,c,if_pos rfl];rw[if_neg h0,if_neg (List.cons_ne_nil a ds)];dsimp only;rw[o];have m:r.Gone++[a]++ds=r.Gone++a::ds:=s_;rw[m];rfl
def RH{T:aK}{s:RP}{r:RM}{n:Int}{ds a:B_}(c:ds.Perm a)(h:RollAt T s (Ln r n ds)):Wr T s (Ln r n ds) T s (Ln r n a):=by
 have f:∀x,x∈ds↔x∈a:=λx=>c.mem_iff;have g:(λx:Int=>!decide (x∈a))=λx=>!decide (x∈ds):=h_;by_cases h0:ds=[]
 subst h0;have:=c.symm.eq_nil;subst this;exact Wr.refl h;have h1:a≠[]:=λe=>h0 (by subst e;exact c.eq_nil);have b:Ln r n a={Ln r n ds with Gone:=r.Gone++a}:=by grind[Ln]
 rw[b];refine h.gone λd=>?_;grind[Ln]
def D6{r:RM}(h:r.In.Nodup)(d role:Int):(mU r d role).In.Nodup:=by unfold mU;cases b:lZ r d;simpa using h;obtain⟨a,_,_⟩:=C3 b;grind
def RM.nn(r:RM):Prop:=∀(i j:Nat)(b:i<r.L.length)(a:j<r.L.length),r.L[i].N=r.L[j].N->i=j
theorem KR{r:RM}:r.nn↔(r.L.map (·.N)).Nodup:=by grind[RM.nn,List.pairwise_iff_getElem,List.length_map]
def KS{r:RM}(h:r.nn)(d role:Int):(mU r d role).nn:=by rw[KR]at h⊢;unfold mU;cases b:lZ r d;simpa using h;simp only[lI,jJ,if_false];split;rename_i g;rw[bZ];refine vQ.2 ⟨h,s_,λx c y a e=>?_⟩;simp only[fG,uP,cA]at a;subst a;obtain⟨m,f,j⟩:=dF.1 c;have i:=mN (λm:MM=>m.N==eI r d) r.L;grind[jL];exact h
def VI{r:RM}(h:r.In.Nodup)(d:Int):(lN r d).In.Nodup:=by grind[lN]
def aEj{r:RM}(h:r.nn)(d:Int):(lN r d).nn:=by grind[KR,lN]
theorem VJ(r:RM)(d:Int):(lN r d).Cards=r.Cards:=by grind[lN]
def KU{r a:RM}(h:a.Cards=r.Cards)(d:Int):eI a d=eI r d:=by unfold eI;rw[h]
def D7:∀(l:B_)(r:RM),r.In.Nodup->r.nn->(l.foldl lN r).In.Nodup/\(l.foldl lN r).nn/\(l.foldl lN r).Cards=r.Cards|[],_,h1,h2=>⟨h1,h2,rfl⟩|a::l,r,h1,h2=>by have:=D7 l _ (VI h1 a) (aEj h2 a);grind[VJ]
def aG7(a b c d:Int):rJ [.int .i64,.int .i64] [.int .i64 a,.int .i64 b] [.int .i64 c,.int .i64 d]=some (a==c&&b==d):=by simp[rJ]
def S3(a b:Int):∀(l:List VM)(i:Nat),eR [.int .i64,.int .i64] [.int .i64 a,.int .i64 b] (l.map λv=>[.int .i64 v.By,.int .i64 v.Device]) i=some ((l.findIdx? λv=>a==v.By&&b==v.Device).map (· + i))
 |[],_=>rfl
 | v::l,i=>by
  simp only[fG,eR,aG7,List.findIdx?_cons];have:=S3 a b l (i+1);cases(a==v.By&&b==v.Device);simp only[this,jJ,if_false]
  cases l.findIdx? (λv=>a==v.By&&b==v.Device) with
  |none=>rfl
  |some j=>simp;omega
  simp
def O2{α c:Type}[DecidableEq c](f:α->c){x:α}:∀{V:List α},(V.map f).Nodup->x∈V->V.filter (λv=>decide (f v=f x))=[x]|y::V,b,a=>by rw[fG,BU]at b;rcases cS.1 a with rfl|a;simp_all;have:f y≠f x:=λe=>b.1 (e ▸ List.mem_map_of_mem a);rw[List.filter_cons];simp only[decide_eq_true_eq,this,if_false];exact O2 f b.2 a
def aDy(o:OpM)(v:VM):Bool:=decide (v.Of=o.Of)&&(v.By==o.By&&v.Device==o.Device)
def qA(o:OpM)(V:List VM):VM:=⟨o.Of,o.By,o.Device,(V.filter (aDy o)).foldl (λa v=>min a v.At) o.At⟩
def O3{V l:List VM}{o:OpM}(e:∀v,v∈l↔v∈V/\v.Of=o.Of)(d:(l.map λv=>(v.By,v.Device)).Nodup)(h:(l.findIdx? λv=>o.By==v.By&&o.Device==v.Device)=none):
 qA o V=⟨o.Of,o.By,o.Device,o.At⟩/\(∀v,v∈l++[qA o V]↔v∈V.filter (λv=>!aDy o v)++[qA o V]/\v.Of=o.Of)/\((l++[qA o V]).map λv=>(v.By,v.Device)).Nodup:=by
 have a:∀v∈V,aDy o v=false:=λv b=>by cases c:aDy o v;rfl;simp only[aDy,zJ,decide_eq_true_eq,beq_iff_eq]at c;grind
 have f:V.filter (aDy o)=[]:=List.filter_eq_nil_iff.2 λv b=>by rw[a v b];decide
 grind[qA,List.mem_singleton,Prod.mk.injEq]
def O4 {V l:List VM} {o:OpM} (p:(V.map λv=>(v.Of,v.By,v.Device)).Nodup) (e:∀v,v∈l↔v∈V/\v.Of=o.Of) (d:(l.map λv=>(v.By,v.Device)).Nodup) {n:Nat} (c:n<l.length) (m:o.By=l[n].By) (k:o.Device=l[n].Device):
 qA o V=⟨o.Of,o.By,o.Device,min o.At l[n].At⟩/\(∀v,v∈l.set n (qA o V)↔v∈V.filter (λv=>!aDy o v)++[qA o V]/\v.Of=o.Of)/\((l.set n (qA o V)).map λv=>(v.By,v.Device))=l.map λv=>(v.By,v.Device):=by
 obtain⟨j,s⟩:=(e l[n]).1 (eQ c);have g:aDy o=λv=>decide ((λv:VM=>(v.Of,v.By,v.Device)) v=(λv:VM=>(v.Of,v.By,v.Device)) l[n]):=by funext v;rw[CT];simp_all[aDy,zJ,Prod.mk.injEq]
 have r:V.filter (aDy o)=[l[n]]:=by rw[g];exact O2 _ p j
 have q:qA o V=⟨o.Of,o.By,o.Device,min o.At l[n].At⟩:=by rw[qA,r];rfl
 refine⟨q,λv=>?_,?_⟩;have f:∀i(b:i<l.length),i≠n->aDy o l[i]=false:=λi b a=>by cases h:aDy o l[i];rfl;simp only[aDy,zJ,decide_eq_true_eq,beq_iff_eq]at h;have:i=n:=(C9 (h₀:=T_) (h₁:=ox) d).1 (by simp[h.2.1,h.2.2,m,k]);omega
 rw[cG,cA];constructor;intro h;obtain⟨i,b,rfl⟩:=List.mem_iff_getElem.1 h;grind;rintro⟨h1|rfl,h2⟩;obtain⟨h1,h3⟩:=gR.1 h1;obtain⟨i,b,rfl⟩:=List.mem_iff_getElem.1 ((e v).2 ⟨h1,h2⟩);have a:n≠i:=m_;exact List.mem_iff_getElem.2 ⟨i,T_,by rw[List.getElem_set_ne a]⟩;exact List.mem_iff_getElem.2 ⟨n,ox,by rw[YC]⟩;refine Ki s_ λi h1 h3=>?_;grind
def O5{V:List VM}{o:OpM}{x:Id}(h:x≠o.Of){v:VM}(e:v.Of=x):v∈V.filter (λv=>!aDy o v)++[qA o V]↔v∈V:=by
 have h1:v.Of≠o.Of:=e ▸ h;have h2:aDy o v=false:=by simp[aDy,h1]
 rw[cG,cA,gR];constructor;rintro(h3|h3);exact h3.1;exact absurd (by rw[h3];rfl) h1;simp_all
structure OpGood(o:OpM):Prop where
 at0:0<=o.At
 at1:o.At<=2147483647
 gl:o.Guards.length<=6
 need:o.Kind=9->1<=o.Need/\o.Need<=o.Guards.length
 wait:o.Kind=9->0<=o.Wait/\o.Wait<=2147483647
def aIr{o:OpM}(h:vF o=0):OpGood o:=by
 rw[Aq]at h;unfold jB at h;by_cases h0:o.Kind<1\/13<o.Kind;omega;rw[if_neg h0]at h;by_cases h1:Qk o=false;rw[if_pos h1]at h;simp at h;rw[if_neg h1]at h;by_cases h2:(fP o&&uA o)=false;rw[if_pos h2]at h;simp at h;rw[if_neg h2]at h;by_cases h3:ED o=true;rw[if_pos h3]at h;simp at h;have d:fP o=true:=by cases f:fP o;rw[f]at h2;simp at h2;rfl
 unfold fP at d;rw[zJ,zJ,zJ]at d;obtain⟨⟨⟨_,_⟩,a⟩,c⟩:=d;simp only[oI,zJ,decide_eq_true_eq]at a;have b:o.Kind=9->oI o.Need 1 o.Guards.length=true/\oI o.Wait 0 2147483647=true:=by intro e;rw[e]at c;simp only[(d_:¬(9:Int)=1),(d_:¬(9:Int)=2),(d_:¬(9:Int)=3),(d_:¬(9:Int)=5),(d_:¬(9:Int)=6),if_true,if_false,zJ]at c;exact⟨c.1.1,c.1.2⟩
 refine⟨a.1,a.2,?_,λe=>?_,λe=>?_⟩;by_cases g:o.Guards.length<=6;exact g;exfalso;apply h3;unfold ED;have:decide ((o.Guards.length:Int)>6)=true:=decide_eq_true o_;rw[this,Ed,EI];have:=(b e).1;simpa only[oI,zJ,decide_eq_true_eq]using this;have:=(b e).2;simpa only[oI,zJ,decide_eq_true_eq]using this
structure CardsG(cs:List CardM):Prop where
 len:cs.length<=12
 nd:(cs.map (·.Device)).Nodup
 mem:∀c∈cs,0<c.Member
 dev:∀c∈cs,0<=c.Device
structure RGood(D:List Id)(cs:List CardM)(r:RM):Prop where
 cards:r.Cards=cs
 inn:r.In.Nodup
 sub:∀d∈r.In,0<eI r d
 nn:r.nn
 pos:∀m∈r.L,0<m.N
 gid:∀m∈r.L,m.Is=true->m.ID∈D
 uniq:r.uniq
 mg:∀m∈r.L,m.Guards.length<=6
 need:r.need
 vnd:(r.V.map λv=>(v.Of,v.By,v.Device)).Nodup
 vat:∀v∈r.V,0<=v.At
 vof:∀v∈r.V,∃m∈r.L,m.Is=true/\m.ID=v.Of/\v.By∈m.Guards
def aG8{r:RM}{d:Int}(h:0<eI r d):d∈r.Cards.map (·.Device):=by grind[eI]
def aEk{r:RM}(a:CardsG r.Cards)(d:Int):0<=eI r d:=by unfold eI;split;rename_i c e;have:=a.mem c (Mg e);omega;omega
def Fn{r:RM}(h:r.uniq){m m':MM}(b:m∈r.L)(a:m'∈r.L)(h1:m.Is=true)(h2:m'.Is=true)(e:m.ID=m'.ID):m=m':=by obtain⟨i,d,rfl⟩:=List.mem_iff_getElem.1 b;obtain⟨j,c,rfl⟩:=List.mem_iff_getElem.1 a;have:=h i j d c h1 h2 e;subst this;rfl
section
variable{D:D_}{cs:List CardM}{r:RM}
def RGood.nodup12(h:RGood D cs r)(g:CardsG cs):r.In.length<=12/\∀d∈r.In,0<=d:=by
 have e:∀d∈r.In,d∈cs.map (·.Device):=λd a=>by have:=aG8 (h.sub d a);rwa[h.cards]at this
 have f:=List.Nodup.length_le_of_subset h.inn e;rw[aP]at f;refine⟨uR f g.len,λd a=>?_⟩;obtain⟨c,b,rfl⟩:=dF.1 (e d a);exact g.dev c b
def RGood.wf(h:RGood D cs r):r.wf:=⟨h.uniq,h.nn,λm a=>by have:=h.pos m a;omega,λm a=>by have:=h.mg m a;omega,h.need⟩
def RGood.wv(h:RGood D cs r):r.wv:=by
 refine⟨h.vnd,h.vat,λx d=>?_⟩;by_cases h0:(r.V.filter λv=>decide (v.Of=x)&&(v.Device==d))=[]
 rw[h0];simp;obtain⟨v0,j⟩:=List.exists_mem_of_ne_nil _ h0;obtain⟨i,c⟩:=gR.1 j;simp only[zJ,decide_eq_true_eq,beq_iff_eq]at c;obtain⟨m,p,hI,n,_⟩:=h.vof v0 i;have e:∀b∈(r.V.filter λv=>decide (v.Of=x)&&(v.Device==d)).map (·.By),b∈m.Guards:=by intro b s;obtain⟨v,q,rfl⟩:=dF.1 s;obtain⟨g,a⟩:=gR.1 q;simp only[zJ,decide_eq_true_eq,beq_iff_eq]at a;obtain⟨u,l,o,f,t⟩:=h.vof v g;have:=Fn h.uniq p l hI o (n.trans (c.1.trans (a.1.symm.trans f.symm)));subst this;exact t
 have k:((r.V.filter λv=>decide (v.Of=x)&&(v.Device==d)).map (·.By)).Nodup:=by have h1:((r.V.filter λv=>decide (v.Of=x)&&(v.Device==d)).map λv=>(v.Of,v.By,v.Device)).Nodup:=h.vnd.sublist (List.filter_sublist.map _);grind
 have:=List.Nodup.length_le_of_subset k e;rw[aP]at this;have:=h.mg m p;omega
def RGood.mono{D':D_}(h:RGood D cs r)(b:∀x∈D,x∈D'):RGood D' cs r:=⟨h.cards,h.inn,h.sub,h.nn,h.pos,λm a hI=>b _ (h.gid m a hI),h.uniq,h.mg,h.need,h.vnd,h.vat,h.vof⟩
def RGood.new(a:CardsG cs):RGood D cs (RM.new cs):=by
 refine⟨rfl,by simp[RM.new],?_,?_,?_,?_,?_,?_,?_,?_,?_,?_⟩
 all_goals simp[RM.new,RM.nn,RM.uniq,RM.need]
def RGood.sub'(h:RGood D cs r){b:RM}(t:b.Cards=r.Cards)(o:b.In.Nodup)(w:∀d∈b.In,0<eI r d)(q:b.L.Sublist r.L)(p:b.V.Sublist r.V)(y:∀v∈b.V,0<=pZ b v.Of):RGood D cs b:=by
 have c:=q.subset;refine⟨t.trans h.cards,o,λd x=>by rw[KU t];exact w d x,?_,λm a=>h.pos m (c a),λm a=>h.gid m (c a),?_,λm a=>h.mg m (c a),λm a=>h.need m (c a),h.vnd.sublist (p.map _),λv f=>h.vat v (p.subset f),λv f=>?_⟩;rw[KR];exact(KR.1 h.nn).sublist (q.map _);intro i j g s h1 h2 e;have u:=Fn h.uniq (c (eQ g)) (c (eQ s)) h1 h2 e;have l:b.nn:=by rw[KR];exact(KR.1 h.nn).sublist (q.map _)
 exact l i j g s (by rw[u]);obtain⟨m,n,h1,h2,h3⟩:=h.vof v (p.subset f);obtain⟨i,_,g,k⟩:=Hm (y v f);rw[zJ,decide_eq_true_eq]at k;have:=Fn h.uniq n (c (eQ g)) h1 k.1 (h2.trans k.2.symm);grind
def RGood.goes(h:RGood D cs r)(d:Int):RGood D cs (lN r d):=by by_cases f:d∈r.In;rw[Fm f];have b:(r.In.filter λx=>x !=d).Nodup:=h.inn.filter _;have a:∀x∈r.In.filter (λx=>x !=d),0<eI r x:=λx c=>h.sub x (gR.1 c).1;split;exact⟨h.cards,b,a,h.nn,h.pos,h.gid,h.uniq,h.mg,h.need,h.vnd,h.vat,h.vof⟩;refine h.sub' rfl b a List.filter_sublist List.filter_sublist λv e=>?_;have:=of_decide_eq_true (gR.1 e).2;exact this;grind[lN]
def RGood.foldGoes(ds:B_):∀{r:RM},RGood D cs r->RGood D cs (ds.foldl lN r):=by
 induction ds with
 |nil=>exact id|cons d ds ih=>exact λh=>ih (h.goes d)
def RGood.comes (h:RGood D cs r) (d role:Int):RGood D cs (mU r d role):=by
 cases b:lZ r d;grind[mU];obtain⟨_,_,h0⟩:=C3 b;have k:=D6 h.inn d role;have g:=KS h.nn d role;have e:mU r d role={r with In:=r.In++[d],L:=if jL r (eI r d)<0 then r.L++[⟨eI r d,role,false,⟨0,0,0⟩,[],0,0,false,0⟩] else r.L}:=by rw[mU,b];rfl
 have p:∀x∈r.In++[d],0<eI r x:=λx l=>by rcases cG.1 l with l|l;exact h.sub x l;simp_all
 rw[e]at k g⊢;by_cases f:jL r (eI r d)<0;rw[if_pos f]at k g⊢;have c:∀m∈r.L++[(⟨eI r d,role,false,⟨0,0,0⟩,[],0,0,false,0⟩:MM)],m∈r.L\/m=⟨eI r d,role,false,⟨0,0,0⟩,[],0,0,false,0⟩:=λm f=>h_;refine⟨h.cards,k,p,g,λm f=>?_,λm f hI=>?_,λi j s q h1 h2 e=>?_,λm f=>?_,λm f hI=>?_,h.vnd,h.vat,λv t=>?_⟩;rcases c m f with f|rfl;exact h.pos m f;exact h0;rcases c m f with f|rfl;exact h.gid m f hI;simp at hI;have o:=c _ (eQ s);have n:=c _ (eQ q);rcases o with o|o;rcases n with n|n;have u:=Fn h.uniq o n h1 h2 e;exact g i j s q (congrArg MM.N u);simp_all;simp_all;rcases c m f with f|rfl;exact h.mg m f;simp;rcases c m f with f|rfl;exact h.need m f hI;simp at hI;obtain⟨m,f,a⟩:=h.vof v t;grind;rw[if_neg f]at k g⊢;exact⟨h.cards,k,p,g,h.pos,h.gid,h.uniq,h.mg,h.need,h.vnd,h.vat,h.vof⟩
def RGood.setM(h:RGood D cs r){k:Nat}(q:k<r.L.length){m':MM}(x:m'.N=r.L[k].N)(w:m'.Is=r.L[k].Is)(u:m'.ID=r.L[k].ID)(t:m'.Guards=r.L[k].Guards)(s:m'.Need=r.L[k].Need):RGood D cs {r with L:=r.L.set k m'}:=by
 have d:∀m∈r.L.set k m',∃f∈r.L,m.N=f.N/\m.Is=f.Is/\m.ID=f.ID/\m.Guards=f.Guards/\m.Need=f.Need:=λm g=>m_;have o:∀i(l:i<(r.L.set k m').length),(r.L.set k m')[i].N=(r.L[i]'Z_).N/\(r.L.set k m')[i].Is=(r.L[i]'Z_).Is/\(r.L.set k m')[i].ID=(r.L[i]'Z_).ID:=λi l=>m_;refine⟨h.cards,h.inn,h.sub,λi j l n e=>?_,λm g=>?_,λm g hI=>?_,λi j l n h1 h2 e=>?_,λm g=>?_,λm g hI=>?_,h.vnd,h.vat,λv p=>?_⟩;apply h.nn i j Z_ (by simpa using n);grind;obtain⟨f,h0,a,_⟩:=d m g;rw[a];exact h.pos f h0;obtain⟨f,h0,_,a,b,_⟩:=d m g;rw[b];exact h.gid f h0 (a ▸ hI);refine h.uniq i j Z_ (by simpa using n) ?_ ?_ ?_;grind;grind;grind;obtain⟨f,h0,_,_,_,a,_⟩:=d m g;rw[a];exact h.mg f h0;obtain⟨f,h0,_,a,_,_,b⟩:=d m g;rw[b];exact h.need f h0 (a ▸ hI);obtain⟨m,g,a,b,c⟩:=h.vof v p;obtain⟨i,l,rfl⟩:=List.mem_iff_getElem.1 g;grind
def RGood.guarded(h:RGood D cs r){o:OpM}(F:OpGood o)(G:o.Kind=9){x:Id}(A:x∉D):RGood (x::D) cs (BN r o x):=by
 unfold BN;by_cases h0:jL r (eI r o.By)<0;simp only[if_pos h0];exact h.mono λy M=>GU _ M;obtain⟨k,e,O,_⟩:=Ox (o_:0<=jL r (eI r o.By));simp only[if_neg h0];simp only[e,nI,nH O];have P:=F.need G;obtain⟨l,I⟩:∃l,l=r.L.set k ⟨r.L[k].N,r.L[k].Role,true,x,o.Guards,o.Need,o.Wait,false,0⟩:=⟨_,rfl⟩
 rw[<-I];have u:l.length=r.L.length:=h_;have f:∀i(d:i<l.length)(s:i<r.L.length),(i=k/\l[i]=⟨r.L[k].N,r.L[k].Role,true,x,o.Guards,o.Need,o.Wait,false,0⟩)\/(i≠k/\l[i]=r.L[i]):=λi d s=>m_;have H:∀i(d:i<l.length)(s:i<r.L.length),l[i].N=r.L[i].N:=λi d s=>m_;have g:∀{i},i<l.length->i<r.L.length:=λh=>by rw[<-u];exact h
 clear I;refine⟨h.cards,h.inn,h.sub,λi j d t e=>?_,λm q=>?_,λm q hI=>?_,λi j d t h1 h2 e=>?_,λm q=>?_,λm q hI=>?_,h.vnd.sublist (List.filter_sublist.map _),λv E=>h.vat v (gR.1 E).1,λv E=>?_⟩;apply h.nn i j (g d) (g t);grind;obtain⟨i,d,rfl⟩:=List.mem_iff_getElem.1 q;rw[H i d (g d)];exact h.pos _ (eQ (g d));obtain⟨i,d,rfl⟩:=List.mem_iff_getElem.1 q;rcases f i d (g d) with⟨_,n⟩|⟨_,n⟩
 simp_all;rw[n]at hI⊢;exact GU _ (h.gid _ (eQ (g d)) hI);replace h1:l[i].Is=true:=h1;replace h2:l[j].Is=true:=h2;replace e:l[i].ID=l[j].ID:=e;rcases f i d (g d) with⟨K,z⟩|⟨K,z⟩<;>rcases f j t (g t) with⟨J,w⟩|⟨J,w⟩
 rw[K,J];rw[z,w]at e;rw[w]at h2;exact absurd (h.gid _ (eQ (g t)) h2) (by rw[<-e];exact A);rw[z,w]at e;rw[z]at h1;exact absurd (h.gid _ (eQ (g d)) h1) (by rw[e];exact A);rw[z]at h1 e;rw[w]at h2 e;exact h.uniq i j (g d) (g t) h1 h2 e;obtain⟨i,d,rfl⟩:=List.mem_iff_getElem.1 q;rcases f i d (g d) with⟨_,n⟩|⟨_,n⟩
 rw[n];exact F.gl;rw[n];exact h.mg _ (eQ (g d));obtain⟨i,d,rfl⟩:=List.mem_iff_getElem.1 q;rcases f i d (g d) with⟨_,n⟩|⟨_,n⟩
 rw[n];have:=F.gl;show 1<=o.Need/\o.Need<=1000;omega;rw[n]at hI⊢;exact h.need _ (eQ (g d)) hI;obtain⟨C,B⟩:=gR.1 E;obtain⟨m,q,a,b,c⟩:=h.vof v C;obtain⟨i,_,d,p⟩:=Hm (of_decide_eq_true B);rw[zJ,decide_eq_true_eq]at p;replace d:i<l.length:=d;replace p:l[i].Is=true/\l[i].ID=v.Of:=p;refine⟨l[i],eQ d,p.1,p.2,?_⟩;rcases f i d (g d) with⟨_,n⟩|⟨_,n⟩
 rw[n]at p;exact absurd (h.gid m q a) (by rw[b,<-p.2];exact A);rw[n]at p⊢;have:=Fn h.uniq q (eQ (g d)) a p.1 (b.trans p.2.symm);simp_all
def RGood.vouches (h:RGood D cs r) {o:OpM} (m:OpGood o):RGood D cs (iQ r o):=by
 by_cases h0:(kD r o).2≠0;grind[iQ];have n:iQ r o={r with V:=r.V.filter (λv=>!aDy o v)++[qA o r.V]}:=by rw[iQ,if_neg h0];rfl
 rw[n];have f:(qA o r.V).Of=o.Of/\(qA o r.V).By=o.By/\(qA o r.V).Device=o.Device:=⟨rfl,rfl,rfl⟩
 refine⟨h.cards,h.inn,h.sub,h.nn,h.pos,h.gid,h.uniq,h.mg,h.need,?_,λv c=>?_,λv c=>?_⟩;rw[bZ];refine vQ.2 ⟨h.vnd.sublist (List.filter_sublist.map _),s_,λa q b p e=>?_⟩;grind[List.mem_singleton,Prod.mk.injEq,aDy];rcases cG.1 c with c|c;exact h.vat v (gR.1 c).1;rw[cA]at c;subst c;have:∀(l:List VM)(a:Int),0<=a->(∀v∈l,0<=v.At)->0<=l.foldl (λa v=>min a v.At) a:=by
  intro l
  induction l with
  |nil=>exact λa h _=>h|cons v l ih=>exact λa h g=>ih _ (by have:=g v s_;show 0<=min a v.At;omega) λw k=>g w (by simp[k])
 exact this _ _ m.at0 λv c=>h.vat v (gR.1 c).1;rcases cG.1 c with c|c;exact h.vof v (gR.1 c).1;rw[cA]at c;subst c;rcases Hr r o.Of with⟨d,_⟩|⟨i,j,d,q2,_⟩
 grind[kD];rw[Vt,zJ,decide_eq_true_eq]at q2;refine⟨_,eQ j,q2.1,q2.2,?_⟩;rw[lO j d]at h0;grind
def RGood.do'(h:RGood D cs r)(i:CardsG cs){o:OpM}(c:OpGood o){x:Id}(f:x∉D):RGood (x::D) cs (BS r o x):=by have a:=h.mono (D':=x::D) λy d=>GU _ d;unfold BS;split;split;exact a;exact⟨(a.comes o.By 3).cards,(a.comes o.By 3).inn,(a.comes o.By 3).sub,(a.comes o.By 3).nn,(a.comes o.By 3).pos,(a.comes o.By 3).gid,(a.comes o.By 3).uniq,(a.comes o.By 3).mg,(a.comes o.By 3).need,(a.comes o.By 3).vnd,(a.comes o.By 3).vat,(a.comes o.By 3).vof⟩;split;exact a.comes _ _;split;exact a.foldGoes _;split;split;exact a;rename_i h0;obtain⟨k,e,b,_⟩:=Ox (o_:0<=jL r o.Member);rw[e,nI,nH b];exact a.setM b rfl rfl rfl rfl rfl;split;rename_i g;exact h.guarded c kv f;split;exact a.vouches c;split;by_cases h0:jL r (eI r o.By)<0;simp only[if_pos h0];exact a;obtain⟨k,e,b,_⟩:=Ox (o_:0<=jL r (eI r o.By));simp only[if_neg h0];simp only[e,nI,nH b];split;exact a.setM b rfl rfl rfl rfl rfl;exact a;split;by_cases h0:pZ r o.Of<0;simp only[if_pos h0];exact a;simp only[if_neg h0];split;exact(a.comes _ _).goes _;exact a;exact a
end
def Hv(f:Nat):AV:=.v (.func (.func f) #[] #[])
def lP:O_:=[.v .nilFunc,.v .nilFunc,Hv wS,Hv wT,.v .nilFunc,Hv wU,Hv wV,.v .nilFunc,Hv wW,Hv wX,Hv mB,Hv wY,Hv mB,Hv wZ]
def AK(G:L_):Prop:=G NY=some lP
def aKt{r:RM}{o:OpM}(h:(kD r o).2=0):Lm r o.Of=(r.L.getD (kD r o).1.toNat default).N:=by
 rcases Hr r o.Of with⟨a,_⟩|⟨i,b,a,_,c⟩
 grind[kD];rw[lO b a]at h⊢;grind
def aIv{r:RM}{o:OpM}(b:o.Kind=11):C1 r o=a7P r o:=by unfold C1 a7P gP;by_cases a:(kD r o).2=0;have c:=aKt a;simp_all;simp_all
def aIw{r:RM}{o:OpM}(b:o.Kind=13):C1 r o=a8P r o:=by unfold C1 a8P gP;by_cases a:(kD r o).2=0;have c:=aKt a;grind;simp_all
section
variable{T:aK}{s:RP}{r:RM}{D:D_}{cs:List CardM}
def O8(z:AK G)(h:RollAt T s r)(l:RGood D cs r)(S:CardsG cs)(o:OpM)(x:Id)(K:o.Guards.length<=1000):aA PQ G tM [.ptr s.root 0,.ag o.A,.ag x.A] T λy P=>y=iv (mT r o)/\P=T:=by
 apply eH Hn;have t:=λX:aK=>aF (X:=X) h.root;have b:G 1=some lP:=z;have N:G NY=some lP:=z;have g:=λX d=>kE (G:=G) (h.app (X:=X)) d;simp only[go_sem,aD,eB,jC,dM];cases C:(o.Kind==1);rotate_left;have f:mT r o=if(eI r o.By==0)=true then 17 else if 0<r.In.length\/0<r.Gone.length then 5 else 0:=by grind[mT]
 rw[f];simp only[go_sem,aD];apply cI (g _ _);cases u:(eI r o.By==0);obtain⟨Q,bw,cw,E,M,H,I,F⟩:=h.was;have B:=λX:aK=>aF (X:=X) E;unfold tK at B;simp only[go_sem,u,t,B,aP];refine aL (λk=>?_) (λk=>?_);have k:=of_decide_eq_true k;simp only[go_sem,aH];rw[if_pos];grind;have k:=of_decide_eq_false k;simp only[go_sem,aH];simp_all;simp only[go_sem,u,aH];simp only[go_sem];obtain⟨bs,U,hI,_⟩:=h.inn;have q:=λX:aK=>aF (X:=X) hI;unfold tK at q;have i:=iW o.By r.In 0;rcases K4 r.In o.By with⟨j,e,R,m⟩|⟨e,m⟩
 rotate_left;rw[e]at i;simp only[xD]at i;simp only[go_sem,t,q,i,aD,aH];grind[mT];rw[e]at i;simp only[iX,mG]at i;have O:(r.In.map λ_=>AV.v (.bool true))[j]?=some (.v (.bool true)):=h_;simp only[go_sem,t,q,i,O,aD];have J:o.Kind≠1:=by simpa using C
 have p:o.Kind<0\/14<=o.Kind\/o.Kind=0\/o.Kind=4\/o.Kind=7\/o.Kind=2\/o.Kind=3\/o.Kind=5\/o.Kind=6\/o.Kind=8\/o.Kind=9\/o.Kind=10\/o.Kind=11\/o.Kind=12\/o.Kind=13:=o_;rcases p with c|c|c|c|c|c|c|c|c|c|c|c|c|c|c;have f:mT r o=0:=by grind[mT]
 rw[f];simp only[go_sem,decide_eq_true c,undef,aH];have f:mT r o=0:=by grind[mT]
 rw[f];have L:decide (o.Kind<0)=false:=decide_eq_false o_;have n:decide (o.Kind>=14)=true:=decide_eq_true c;simp only[go_sem,aD,L,ge_iff_le,n,undef,aH];have f:mT r o=0:=by grind[mT]
 rw[f];have w:lP[0]?=some (.v .nilFunc):=rfl;simp only[go_sem,aD,c,b,lP,ge_iff_le,aH];have f:mT r o=0:=by grind[mT]
 rw[f];have w:lP[4]?=some (.v .nilFunc):=rfl;simp only[go_sem,aD,c,b,lP,ge_iff_le,aH];have f:mT r o=0:=by grind[mT]
 rw[f];have w:lP[7]?=some (.v .nilFunc):=rfl;simp only[go_sem,aD,c,b,lP,ge_iff_le,aH];have f:mT r o=a1P r o (eI r o.By):=by grind[mT,a1P]
 have a:=λX:aK=>aIj (G:=G) (h.app (X:=X)) o (eI r o.By);rw[f];simp only[go_sem,aD,c,b,lP,Hv,ge_iff_le];apply cI (g _ _);simp only[go_sem,aD,c,b,lP,Hv];apply cI (a _);simp only[go_sem,aH];have f:mT r o=JI r o (eI r o.By) (sD r (eI r o.By)==3):=by grind[mT]
 have a:=λX:aK=>aIk (G:=G) (h.app (X:=X)) o (eI r o.By);rw[f];simp only[go_sem,aD,c,b,lP,Hv,ge_iff_le];apply cI (g _ _);simp only[go_sem,aD,c,b,lP,Hv];apply cI (a _);simp only[go_sem,aH];have f:mT r o=a3P r o (eI r o.By):=by grind[mT,a3P]
 have a:=λX:aK=>aIl (G:=G) (h.app (X:=X)) o (eI r o.By);rw[f];simp only[go_sem,aD,c,b,lP,Hv,ge_iff_le];apply cI (g _ _);simp only[go_sem,aD,c,b,lP,Hv];apply cI (a _);simp only[go_sem,aH];have f:mT r o=a4P r (eI r o.By):=by grind[mT,a4P]
 have a:=λX:aK=>aIm (G:=G) (h.app (X:=X)) o (eI r o.By);rw[f];simp only[go_sem,aD,c,b,lP,Hv,ge_iff_le];apply cI (g _ _);simp only[go_sem,aD,c,b,lP,Hv];apply cI (a _);simp only[go_sem,aH];have f:mT r o=a5P r o (eI r o.By):=by grind[mT,a5P]
 have a:=λX:aK=>aIn (G:=G) (h.app (X:=X)) o (eI r o.By);rw[f];simp only[go_sem,aD,c,b,lP,Hv,ge_iff_le];apply cI (g _ _);simp only[go_sem,aD,c,b,lP,Hv];apply cI (a _);simp only[go_sem,aH];have f:mT r o=a6P r o:=by grind[mT,a6P]
 have a:=λX:aK=>aIt (G:=G) (h.app (X:=X)) o (eI r o.By) K;rw[f];simp only[go_sem,aD,c,b,lP,Hv,ge_iff_le];apply cI (g _ _);simp only[go_sem,aD,c,b,lP,Hv];apply cI (a _);simp only[go_sem,aH];have f:mT r o=aBa r o (eI r o.By):=by grind[mT,aBa]
 have a:=λX:aK=>Oy (G:=G) (h.app (X:=X)) o (eI r o.By);rw[f];simp only[go_sem,aD,c,b,lP,Hv,ge_iff_le];apply cI (g _ _);simp only[go_sem,aD,c,b,lP,Hv];apply cI (a _);simp only[go_sem,aH];have f:mT r o=a7P r o:=by unfold mT;simp only[c,decide_eq_true m];exact aIv c
 have a:=λX:aK=>aIo (G:=G) (h.app (X:=X)) l.wf o (eI r o.By);rw[f];simp only[go_sem,aD,c,b,lP,Hv,ge_iff_le];apply cI (g _ _);simp only[go_sem,aD,c,b,lP,Hv];apply cI (a _);simp only[go_sem,aH];have f:mT r o=aBa r o (eI r o.By):=by grind[mT,aBa]
 have a:=λX:aK=>Oy (G:=G) (h.app (X:=X)) o (eI r o.By);rw[f];simp only[go_sem,aD,c,b,lP,Hv,ge_iff_le];apply cI (g _ _);simp only[go_sem,aD,c,b,lP,Hv];apply cI (a _);simp only[go_sem,aH];have f:mT r o=a8P r o:=by unfold mT;simp only[c,decide_eq_true m];exact aIw c
 have a:=λX:aK=>aIu (G:=G) (h.app (X:=X)) l.wf l.wv o (eI r o.By);rw[f];simp only[go_sem,aD,c,b,lP,Hv,ge_iff_le];apply cI (g _ _);simp only[go_sem,aD,c,b,lP,Hv];apply cI (a _);simp only[go_sem,aH]
end
def D8 {α:Type} {aAD:V_}:∀{L:List (α×Nat)}{p:α×Nat},(L.map (·.2)).Nodup->p∈L->p.2∉aAD ->
 (L.filter λq=>decide (q.2∈aAD++[p.2])).Perm (p::L.filter λq=>decide (q.2∈aAD))
 | q::L,p,c,a,d=>by
  rw[fG,BU]at c;rcases cS.1 a with rfl|a;have e:(L.filter λq=>decide (q.2∈aAD++[p.2]))=L.filter λq=>decide (q.2∈aAD):=by refine List.filter_congr λq g=>?_;grind
  simp_all;have b:q.2≠p.2:=λh=>c.1 (by rw[h];exact List.mem_map_of_mem (f:=(·.2)) a);have ih:=D8 c.2 a d;rw[List.filter_cons,List.filter_cons];have e:decide (q.2∈aAD++[p.2])=decide (q.2∈aAD):=by simp[b]
  rw[e];cases decide (q.2∈aAD);simpa using ih;simp only[if_true];exact(ih.cons q).trans (List.Perm.swap _ _ _)
section
variable{T:aK}{s:RP}{r:RM}
def aHb(T:aK)(l:B_)(r:AV)(T':aK):Prop:=T'.take T.length=T/\∃(k:Nat)(out:B_),out.Perm l/\r=.own k/\T.length<=k/\T'[k]?=some (some (.arr 1 (out.map λn=>[iv n])))
def VK {i b:Nat} {l:B_} {bs:V_} {cl:Nat} (hi:T[i]?=some (some (tK l bs cl))) (M:T[b]?=some (some (.box [.mp i]))) (c:Bs l.length bs cl) (hl:l.length<=1000):
 aA PQ G kP [.v (.slice none 0 0),.cl bT [.ptr b 0]] T (aHb T l):=by
 apply fT vT;unfold tK at hi;simp only[go_sem,aD,cU,eB,jC,dM];refine NX rfl (vZ jV) λr k1 k2 E D=>?_;simp only[go_sem,eB,jC,dM];refine F4 (post:=λ_ T'=>∃(X:aK)(k:Nat)(out:B_),T'=T++X/\out.Perm l/\X[0]?=some (some (.box [.own (T.length+k)]))/\X[k]?=some (some (.arr 1 (out.map λn=>[iv n])))/\X[2]?=some (some (.lp r [(2,.ptr T.length 0)]))) (aB _) (fT jV ?_) ?_;have O:=λX:aK=>aF (X:=X) hi;have a2:=λX:aK=>aF (X:=X) M;simp only[go_sem,O,a2,eB,jC,dM]
 refine kL (λn U=>∃(aAD:V_)(out:B_),aAD.Nodup/\(∀b∈aAD,b∈bs)/\n=bs.length-aAD.length/\out.Perm (((l.zip bs).filter λq=>decide (q.2∈aAD)).map (·.1)) /\
  ∃(X:aK)(k:Nat),X[0]?=some (some (.box [.own (T.length+k)]))/\X[k]?=some (some (.arr 1 (out.map λn=>[iv n])))/\X[2]?=some (some (.lp r [(2,.ptr T.length 0)]))/\X[3]?=some (some (.mit (some i) cl aAD cl)) /\
   U=⟨T.length+3,[(5,.ptr (T.length+3) 0),(0,.yl (T.length+2))],T++X⟩) bs.length ⟨[],[],s_,s_,rfl,s_,_,1,rfl,rfl,rfl,rfl,rfl⟩ ?_
 rintro n U ⟨aAD,out,H,f,hn,hJ,X,k,S,Q,s,R,rfl⟩;simp only[go_sem];refine VD (i:=T.length+3) (j:=i) (kU (by rw[aZ];exact R)) (kU (O _)) (cN _) c.lt (by simp[c.len]) (by simp[c.len]) (λm=>?_) λe he g=>?_;simp only[go_sem];refine⟨X,k,out,rfl,hJ.trans (.of_eq ?_),S,Q,s⟩;have e1:(l.zip bs).map (·.1)=l:=by rw[List.map_fst_zip];have:=c.len;omega
 conv=>rhs;rw[<-e1]
 refine congrArg _ (Gm.2 λq hq=>?_);have:q.2∈aAD:=m _ (List.of_mem_zip (show(q.1,q.2)∈l.zip bs from hq)).2;simp[this];have ad:e<l.length:=by have:=c.len;omega
 have L:=VE c.nd he;have gk:(l.map iK)[e]?=some (iK l[e]):=s_;have gv:(l.map λ_=>AV.v (.bool true))[e]?=some (.v (.bool true)):=h_;have ac:3≠k:=m_;have J:2≠k:=m_;have K:0≠k:=m_;have P:(X.set 3 (some (.mit (some i) cl (aAD++[bs[e]]) cl)))[3]?=some (some (.mit (some i) cl (aAD++[bs[e]]) cl)):=dS R;have p:(X.set 3 (some (.mit (some i) cl (aAD++[bs[e]]) cl)))[2]?=some (some (.lp r [(2,.ptr T.length 0)])):=h_;have y0:(X.set 3 (some (.mit (some i) cl (aAD++[bs[e]]) cl)))[0]?=some (some (.box [.own (T.length+k)])):=h_;have yk:(X.set 3 (some (.mit (some i) cl (aAD++[bs[e]]) cl)))[k]?=some (some (.arr 1 (out.map λn=>[iv n]))):=h_;generalize hY:X.set 3 (some (.mit (some i) cl (aAD++[bs[e]]) cl))=Y at y0 p P yk;simp only[go_sem,aZ,cP,hY,P,O,Ke,L,gk,gv,iY];apply D _ _ _ _ _ (kU (by rw[aZ];exact p)) rfl;have w0:(Y.set 2 none)[0]?=some (some (.box [.own (T.length+k)])):=h_;have u:(Y.set 2 none)[k]?=some (some (.arr 1 (out.map λn=>[iv n]))):=h_;have V:out.length+1<=maxLen/\(out.length+1)*8<=140737488355328:=by have h1:=hJ.length_eq;rw[aP]at h1;have h2:=List.length_filter_le (λq:Int×Nat=>decide (q.2∈aAD)) (l.zip bs);rw[List.length_zip]at h2;unfold maxLen;omega
 have a:(aAD++[bs[e]]).Nodup/\(∀b∈aAD++[bs[e]],b∈bs)/\bs.length-(aAD++[bs[e]]).length<n:=by
  have I:(aAD++[bs[e]]).Nodup:=vQ.2 ⟨H,s_,λx hx y E e'=>g (by rw[cA]at E;rw[<-E,<-e'];exact hx)⟩;have a:∀b∈aAD++[bs[e]],b∈bs:=λb c=>(cG.1 c).elim (f b) λh=>by rw[cA.1 h];exact eQ he
  have aa:=List.Nodup.length_le_of_subset I a;simp_all;omega
 have F:(out++[l[e]]).Perm (((l.zip bs).filter λq=>decide (q.2∈aAD++[bs[e]])).map (·.1)):=by
  have B:(l[e],bs[e])∈l.zip bs:=by grind[List.mem_iff_getElem,List.length_zip]
  have C:(l.zip bs).map (·.2)=bs:=by rw[List.map_snd_zip];have:=c.len;omega
  have:=(D8 (by rw[C];exact c.nd) B g).map (·.1);grind
 have z2:(Y.set 2 none)[3]?=some (some (.mit (some i) cl (aAD++[bs[e]]) cl)):=h_;have d:(Y.set 2 none).length=Y.length:=cL;have N:=dB p;have s2:(Y.set 2 none)[2]?=some none:=dS p;generalize hZ:Y.set 2 none=Z at w0 u z2 d s2;rw[<-d]at N;have t:=λW:aK=>aF (X:=W) u;have A:=λW:aK=>aF (X:=W) w0;have ab:=dB u;have z:=λW:aK=>(aY (T:=Z++W) (o:=none) (Ne.symm K)).trans (A W);have w:=λW W':aK=>aF (X:=W') (z W);simp only[go_sem,aZ,cP,fF,iR,hZ,w,w0,aP,<-d,eB,t,V.1,V.2];refine⟨_,a.2.2,_,out++[l[e]],a.1,a.2.1,rfl,F,_,Z.length+1,?_,?_,?_,?_,rfl⟩;simp;grind;grind;grind;rintro y T' ⟨X,k,out,rfl,hp,S,Q,s⟩;have z0:(X.set 2 none)[0]?=some (some (.box [.own (T.length+k)])):=h_;have J:2≠k:=m_;have zk:(X.set 2 none)[k]?=some (some (.arr 1 (out.map λn=>[iv n]))):=h_;simp only[go_sem,aZ,cP,fF,s,k1,k2,aFa,z0];exact⟨aH,_,out,hp,rfl,o_,by rw[aZ];exact zk⟩
def aBd{i b:Nat}{l:B_}{bs:V_}{cl:Nat}(e:T[i]?=some (some (tK l bs cl)))(a:T[b]?=some (some (.box [.mp i])))(f:Bs l.length bs cl)(d:l.length<=1000):
 aA PQ G qU [.cl bT [.ptr b 0]] T (aHb T l):=by
 apply fT Ck;simp only[go_sem];apply jA (VK e a f d);rintro r g c;simp only[go_sem];exact c
def aEn{i b:Nat}{l:B_}{bs:V_}{cl:Nat}(u:T[i]?=some (some (tK l bs cl)))(h:T[b]?=some (some (.box [.mp i])))(v:Bs l.length bs cl)(z:l.length<=12)(w:∀d∈l,0<=d):
 aA PQ G sI [.cl bT [.ptr b 0]] T λr o=>(∃k m,(k=1/\m=(C0 l).map λn=>[iv n])/\r=.ls k m)/\o=T:=by
 refine aA.keepLs (fT Di ?_);simp only[go_sem];apply jA (aBd u h v o_);rintro r o ⟨q,k,out,c,rfl,j,e⟩;obtain⟨a,rfl⟩:∃a:V_,out=a.map λn:Nat=>(n:Int):=by refine⟨out.map Int.toNat,?_⟩;rw[rI];refine(List.map_id' _).symm.trans (LD λx e=>?_);grind
 have g:a.length<=12:=by have:=c.length_eq;rw[aP]at this;omega
 have t:=dB e;simp only[go_sem];refine aG (args2:=[.own 0]) (T2:=[some (.arr 1 (nl a))]) [k] (aB _) s_ c_ ?_ ?_ (aEi a g) ?_;simp only[go_sem];simp only[go_sem,e];rfl;rintro y T2 ⟨p,⟨f,s⟩,rfl⟩;simp only[go_sem];refine⟨?_,k,1,_,rfl,j,dS e,rfl,?_⟩;rw[List.take_set_of_le j];exact q;rw[VG ((f.map _).trans c) s,rI];rfl
def Fp(h:RollAt T s r)(g:r.In.length<=12)(f:∀d∈r.In,0<=d):aA PQ G sH [.ptr s.root 0] T λy a=>y=rG (C0 r.In)/\a=T:=by refine aMf D3 (λe=>by simpa only[Rp,rG]using e) ?_;obtain⟨bs,o,j,l⟩:=h.inn;have h1:=h.root;simp only[go_sem,h1];refine F4 (post:=λy a=>∃b X,y=.cl bT [.ptr b 0]/\a=T++X/\a[b]?=some (some (.box [.mp s.i]))) (aB _) (fT sS ?_) ?_;simp only[go_sem];simp;rintro y a ⟨b,X,rfl,rfl,c⟩;simp only[go_sem];apply jA (aEn (aF j) c l g f);rintro y a ⟨⟨k,n,⟨rfl,rfl⟩,rfl⟩,m⟩;obtain rfl:=m.symm;simp only[go_sem,aH]
end
end Hud
