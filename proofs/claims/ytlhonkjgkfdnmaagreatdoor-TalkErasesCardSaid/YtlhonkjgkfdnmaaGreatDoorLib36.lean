import Derived.Test.YtlhonkjgkfdnmaaGreatDoorLib33
import Derived.Test.YtlhonkjgkfdnmaaGreatDoorLib34
import Derived.Test.YtlhonkjgkfdnmaaGreatDoorLib35
set_option linter.all false
set_option maxHeartbeats 40000000
namespace Hud
open Go
variable{G:L_}
def Wr.keep{T X T':aK}{s s':RP}{r b:RM}{i:Nat}{o:Option AObj}(W:Wr (T++X) s r T' s' b)(h:RollAt T s r)(a:(T++X)[T.length+i]?=some o):T'[T.length+i]?=some o:=by rw[W.same _ (dB a) λc=>absurd (h.lt c) o_];exact a
def Wr.keep0{T X T':aK}{s s':RP}{r a:RM}{o:Option AObj}(W:Wr (T++X) s r T' s' a)(h:RollAt T s r)(b:(T++X)[T.length]?=some o):T'[T.length]?=some o:=W.keep (i:=0) h b
section
variable{T T':aK}{s:RP}{r:RM}
def Xe(h:RollAt T s r){k:Nat}(b:k<r.L.length)(a:k<s.ms.length):(G1 s.ms[k] r.L[k]).Nodup:=by have:=h.nd.own k;rwa[D4 b a]at this
def RollAt.setRole(h:RollAt T s r){k:Nat}(m:k<r.L.length)(f:k<s.ms.length){role:Int}(t:T.length<=T'.length)(o:∀j,j<T.length->j≠s.ms[k].1->T'[j]?=T[j]?)
 (w:T'[s.ms[k].1]?=some (some (.box [iv role,if r.L[k].Is then .ptr s.ms[k].2.1 0 else .v (.pointer none)]))):∃p,Wr T s r T' p {r with L:=r.L.set k {r.L[k]with Role:=role} }:=by
 have n:=h.each k m f;have i:=Xe h m f;have z:G1 s.ms[k] {r.L[k]with Role:=role}=G1 s.ms[k] r.L[k]:=rfl;have y:r.L[k].Is=true->s.ms[k].2.1≠s.ms[k].1/\s.ms[k].2.2≠s.ms[k].1:=by grind[G1,List.nodup_cons]
 refine⟨_,h.setM m f (p':=s.ms[k]) (m':={r.L[k]with Role:=role}) (V':=r.V) t (λj u g=>o j u λe=>g (by rw[e];unfold G1;split<;>simp)) rfl rfl ⟨w,λe=>?_,λe=>?_⟩ (by rw[z];exact i) (λx q=>.inl q) λ_ _ _ _ _ _=>Iff.rfl⟩;replace e:r.L[k].Is=true:=e;rw[o _ (dB (n.grd e)) (y e).1];exact n.grd e;replace e:r.L[k].Is=true:=e;obtain⟨l,bs,A,a,b,c,d⟩:=n.vch e;grind
def RollAt.setGuard(h:RollAt T s r){k g v:Nat}(m:k<r.L.length)(d:k<s.ms.length){x:Id}{gs:B_}{need wait:Int}{V':List VM}(p:T.length<=T'.length)(z:∀j,j<T.length->j≠s.ms[k].1->T'[j]?=T[j]?)(E:T.length<=g)(D:T.length<=v)(q:g≠v)
 (t:T'[s.ms[k].1]?=some (some (.box [iv r.L[k].Role,.ptr g 0]))) (l:T'[g]?=some (some (.box [iv x.a,iv x.b,.v (.int .u64 x.c),rG gs,iv need,iv wait,.mp v,.v (.bool false),iv 0]))) (f:T'[v]?=some (some (.map true [] [] [] 0)))
 (u:∀j(n:j<r.L.length),j≠k->r.L[j].Is=true->∀v:VM,v.Of=r.L[j].ID->(v∈V'↔v∈r.V)) (C:∀v∈V',v.Of≠x):∃o,Wr T s r T' o {r with L:=r.L.set k ⟨r.L[k].N,r.L[k].Role,true,x,gs,need,wait,false,0⟩,V:=V'}:=by
 have A:=dB (h.each k m d).mem;refine⟨_,h.setM m d (p':=(s.ms[k].1,g,v)) (m':=⟨r.L[k].N,r.L[k].Role,true,x,gs,need,wait,false,0⟩) (V':=V') p (λj n i=>z j n λe=>i (by rw[e];unfold G1;split<;>simp)) rfl rfl ⟨t,λ_=>l,λ_=>⟨[],[],0,f,⟨rfl,s_,s_⟩,λw=>?_,s_⟩⟩ ?_ (λy B=>?_) u⟩;simp_all;simp only[G1,if_true,BU,cS,pP,or_false,not_or,Mm,and_true,not_false_eq_true];omega;grind[G1]
def RollAt.setObj(h:RollAt T s r){k:Nat}(n:k<r.L.length)(f:k<s.ms.length)(hI:r.L[k].Is=true){b:Bool}{la:Int}(v:T.length<=T'.length)(p:∀j,j<T.length->j≠s.ms[k].2.1->T'[j]?=T[j]?)
 (y:T'[s.ms[k].2.1]?=some (some (.box (CR {r.L[k]with Obj:=b,Last:=la} s.ms[k].2.2)))):∃t,Wr T s r T' t {r with L:=r.L.set k {r.L[k]with Obj:=b,Last:=la} }:=by
 have o:=h.each k n f;have g:=Xe h n f;have z:G1 s.ms[k] {r.L[k]with Obj:=b,Last:=la}=G1 s.ms[k] r.L[k]:=rfl;have q:G1 s.ms[k] r.L[k]=[s.ms[k].1,s.ms[k].2.1,s.ms[k].2.2]:=by rw[G1,if_pos hI]
 have m:=g;rw[q]at m;simp only[BU,cS,pP,or_false,not_or]at m;refine⟨_,h.setM n f (p':=s.ms[k]) (m':={r.L[k]with Obj:=b,Last:=la}) (V':=r.V) v (λj w i=>p j w λe=>i (by rw[e,q];simp)) rfl rfl ⟨?_,λ_=>y,λe=>?_⟩ (by rw[z];exact g) (λx u=>.inl u) λ_ _ _ _ _ _=>Iff.rfl⟩;rw[p _ (dB o.mem) m.1.1];exact o.mem;obtain⟨l,bs,A,a,b,c,d⟩:=o.vch hI;grind
def RollAt.setVch(h:RollAt T s r){k:Nat}(g:k<r.L.length)(a:k<s.ms.length)(hI:r.L[k].Is=true){V':List VM}(u:T.length<=T'.length)(i:∀j,j<T.length->j≠s.ms[k].2.2->T'[j]?=T[j]?)
 (t:∃l bs o,T'[s.ms[k].2.2]?=some (some (KO l bs o))/\Bs l.length bs o/\(∀v,v∈l↔v∈V'/\v.Of=r.L[k].ID)/\(l.map λv=>(v.By,v.Device)).Nodup)
 (w:∀j(m:j<r.L.length),j≠k->r.L[j].Is=true->∀v:VM,v.Of=r.L[j].ID->(v∈V'↔v∈r.V)):∃p,Wr T s r T' p {r with V:=V'}:=by
 have d:=h.each k g a;have b:=Xe h g a;have n:G1 s.ms[k] r.L[k]=[s.ms[k].1,s.ms[k].2.1,s.ms[k].2.2]:=by rw[G1,if_pos hI]
 have c:=b;rw[n]at c;simp only[BU,cS,pP,or_false,not_or]at c;have W:=h.setM g a (T':=T') (p':=s.ms[k]) (m':=r.L[k]) (V':=V') u (λj m f=>i j m λe=>f (by rw[e,n];simp)) rfl rfl ⟨by rw[i _ (dB d.mem) c.1.2];exact d.mem,λe=>by rw[i _ (dB (d.grd e)) c.2.1];exact d.grd e,λ_=>t⟩ b (λx q=>.inl q) w;grind[List.set_getElem_self]
end
section
variable{T:aK}{s:RP}{r:RM}
def aM4 (h:RollAt T s r) (w:r.wf) (hn:r.In.Nodup) (hp:∀d,0<=eI r d) (am:r.In.length<=12) (cc:∀d∈r.In,0<=d) (o:OpM) (x:Id) (ho:o.Guards.length<=1000) (hv:∀v∈r.V,v.Of≠x) (wv:r.wv) (ca:∀m∈r.L,0<m.N):aA PQ G Am [.ptr s.root 0,.ag o.A,.ag x.A] T λy T'=>∃s',Wr T s r T' s' (BS r o x):=by
 apply fT JJ;have R:=λX:aK=>aF (X:=X) h.root;have cx:=λ(X:aK) Y=>aF (X:=Y) (R X);have af:=λX d=>kE (G:=G) (h.app (X:=X)) d;simp only[go_sem,aD,R,eB,jC,dM];apply cI (af _ _);have ct:∀X,(∃s',Wr (T++X) s r (T++X) s' r):=λX=>⟨s,Wr.refl h.app⟩
 have cu:=h.was;rcases yX h (eI r o.By) with⟨cr,cq,j,h2,bh,hm,P,cb,gv,hM,_⟩|⟨cr,cq,h2,bh,hm⟩
 ·have a2:=λX:aK=>aF (X:=X) h2;simp only[go_sem,R,a2,bh,gv,aD];cases O:(o.Kind==1);rotate_left;have B:BS r o x=if 0<r.In.length\/0<r.Gone.length\/eI r o.By=0 then r else {mU r o.By 3 with Back:=o.Need}:=by rw[BS,if_pos O]
  rw[B];obtain⟨lw,bw,cw,hw,co,ck,av,ch⟩:=h.was;unfold tK at hw;have a3:=λX:aK=>aF (X:=X) hw;cases c1:((lw.length:Int)==0);simp only[go_sem,R,a3,aP,c1,undef];rw[if_pos];exact⟨s,(Wr.refl h).app⟩;have:lw≠[]:=λe=>by rw[e]at c1;simp at c1
  rw[Ne,av]at this;rcases JX r.In.length with h1|h1;rcases JX r.Gone.length with h3|h3;exact absurd ⟨Ae h1,Ae h3⟩ this;exact .inr (.inl h3);exact .inl h1;simp only[go_sem,R,a3,aP,c1,aD];have au:lw=[]:=Ae (by simpa using c1);obtain⟨i0,g0⟩:=av.1 au;apply cI (rW h.app _);cases b1:lZ r o.By;simp only[go_sem];have:eI r o.By=0:=R_;rw[if_pos (.inr (.inr this))];exact⟨s,(Wr.refl h).app⟩;simp only[go_sem,aD];apply jA (rX h.app _ _);rintro y T' ⟨u,f⟩;have r1:=f.at'.root;have t0:T'[T.length]?=some (some (.box o.A)):=f.keep0 h aD;rw[f.root]at r1;simp only[go_sem,t0,r1];rw[if_neg (by rw[i0,g0];have:=(C3 b1).2.2;simp;omega)];have W2:=f.at'.setBack (T':=T'.set s.root (some (.box [.mp u.c,.mp u.i,.mp u.w,.mp u.m,iv o.Need]))) (b:=o.Need) s_ (λj P t=>by rw[f.root]at t;rw[aY (Ne.symm t)]) (by rw[f.root,dS r1]);exact⟨u,Wr.ofApp h (f.trans W2)⟩;simp only[go_sem];cases S:(o.Kind==2);rotate_left;have B:BS r o x=mU r o.Device o.Role:=by rw[BS,if_neg di,if_pos S]
  rw[B];simp only[go_sem,aD];apply jA (rX h.app _ _);rintro y T' ⟨u,f⟩;simp only[go_sem];exact⟨u,Wr.ofApp h f⟩;simp only[go_sem];cases k3:(o.Kind==3);rotate_left;have B:BS r o x=(if o.Device=0 then r.In.filter (λd=>eI r d==o.Member) else [o.Device]).foldl lN r:=by rw[BS,if_neg di,if_neg sa,if_pos k3]
  rw[B];cases d0:(o.Device !=0);simp only[go_sem,d0,aD];rw[if_pos (by simpa using d0)];apply cI (Fp h.app am cc);have Z:=Hl r.In;have bd:(C0 r.In).Nodup:=Z.nodup_iff.2 hn;have cg:(C0 r.In).length<=12:=by rw[Z.length_eq];exact am
  have D:∀{T':aK}{u:RP},Wr (T++[some (.box o.A),some (.box x.A)]) s r T' u (((C0 r.In).filter λd=>eI r d==o.Member).foldl lN r)->∃s',Wr T s r T' s' ((r.In.filter λd=>eI r d==o.Member).foldl lN r):=by
   intro T' u W
   have q:=λ(ds:B_)(hp:ds.Perm r.In)(hd:ds.Nodup)=>foldGoes (n:=o.Member) (ds.filter λd=>eI r d==o.Member) r (hd.filter _) (λd bj=>by
    obtain⟨h1,h2⟩:=gR.1 bj
    exact⟨hp.mem_iff.1 h1,d6⟩)
   rw[q _ Z bd]at W;rw[q _ (.refl _) hn];exact⟨u,(Wr.ofApp h W).trans (RH (Z.filter _) W.at')⟩
  generalize C0 r.In=ds at *
  simp only[go_sem,aP]
  refine kL (λn st=>∃i,i<=ds.length/\n=ds.length-i/\∃(T1:aK)(u:RP),Wr (T++[some (.box o.A),some (.box x.A)]) s r T1 u (((ds.take i).filter λd=>eI r d==o.Member).foldl lN r) /\
   st=⟨T.length,[(71,iv i),(70,iv ds.length),(69,rG ds),(4,.ptr T.length 0),(0,.ptr s.root 0)],T1⟩) ds.length ⟨0,pR _,rfl,_,s,Wr.refl h.app,rfl⟩ ?_
  rintro n st ⟨i,F,cj,T1,u,f,rfl⟩;rcases eD i ds.length with C|cn;have ws:=fQ i o_;have g0:(ds.map λn=>[iv n])[i]?=some [iv ds[i]]:=aO _ ds i C;have t0:T1[T.length]?=some (some (.box o.A)):=f.keep0 h aD;have ft:(ds.take (i+1)).filter (λd=>eI r d==o.Member)=(ds.take i).filter (λd=>eI r d==o.Member)++if(eI r ds[i]==o.Member)=true then [ds[i]] else []:=by rw[lB C,Mf,List.filter_cons,List.filter_nil]
  obtain⟨bf,be,bk⟩:=D7 ((ds.take i).filter λd=>eI r d==o.Member) r hn w.nn;have ap:=kE (G:=G) f.at' ds[i];rw[KU bk,f.root]at ap;have ay:=uK (G:=G) f.at' bf be ds[i];rw[f.root]at ay;simp only[go_sem,aT C,g0,t0];apply cI ap;cases hq:(eI r ds[i]==o.Member);rw[hq,if_neg d_,jO]at ft;simp only[go_sem,hq,t0,ws];exact⟨ds.length-(i+1),o_,i+1,o_,rfl,_,u,by rw[ft];exact f,rfl⟩;rw[hq,if_pos rfl]at ft;simp only[go_sem,hq,t0];apply jA ay;rintro y T' ⟨s2,W2⟩;simp only[go_sem,ws];exact⟨ds.length-(i+1),o_,i+1,o_,rfl,_,s2,by rw[ft,Hy];exact f.trans W2,rfl⟩;obtain rfl:i=ds.length:=o_;rw[dE]at f;simp only[go_sem,aS (bP _)];exact D f;simp only[go_sem,d0,aD];rw[if_neg (by simpa using d0)];apply jA (uK h.app hn w.nn _);rintro y T' ⟨u,f⟩;simp only[go_sem];exact⟨u,Wr.ofApp h f⟩;simp only[go_sem];cases k5:(o.Kind==5);rotate_left;have B:BS r o x=if jL r o.Member<0 then r else {r with L:=r.L.set (jL r o.Member).toNat { (r.L.getD (jL r o.Member).toNat default) with Role:=o.Role} }:=du
  rw[B];rcases yX h o.Member with⟨bu,br,j5,h5,aj,aq,ax,aw,bq,bn,cp⟩|⟨bu,br,h5,aj,aq⟩
  have a5:=λX:aK=>aF (X:=X) h5;have Q:=λX:aK=>aF (X:=X) bn.mem;simp only[go_sem,R,a5,aj,bq,Q,aD];rw[aq,if_neg (o_:¬(j5:Int)<0),nI,nH ax];obtain⟨u,f⟩:=(h.app (X:=[some (.box o.A),some (.box x.A)])).setRole (T':=(T++[some (AObj.box o.A),some (AObj.box x.A)]).set s.ms[j5].1 (some (.box [iv o.Role,if r.L[j5].Is=true then .ptr s.ms[j5].2.1 0 else .v (.pointer none)]))) ax aw (role:=o.Role) s_ (λj P t=>kz) (by rw[dS (Q _)]);exact⟨u,Wr.ofApp h f⟩;have a5:=λX:aK=>aF (X:=X) h5;simp only[go_sem,R,a5,aj,aD];rw[if_pos o_];exact⟨s,(Wr.refl h).app⟩;simp only[go_sem];cases k9:(o.Kind==9);rotate_left;have B:BS r o x=BN r o x:=by rw[BS,if_neg di,if_neg sa,if_neg sr,if_neg ko,if_pos k9]
  rw[B];have Q:=λX:aK=>aF (X:=X) hM.mem;have e2:BN r o x={r with L:=r.L.set j ⟨r.L[j].N,r.L[j].Role,true,x,o.Guards,o.Need,o.Wait,false,0⟩,V:=Fh {r with L:=r.L.set j ⟨r.L[j].N,r.L[j].Role,true,x,o.Guards,o.Need,o.Wait,false,0⟩} }:=by rw[BN];simp only[hm];rw[if_neg (o_:¬(j:Int)<0),nI,nH P]
  rw[e2];have cd:=Ct (G:=G) (o.Guards.map λn=>[iv n]) M_;have hV:∀i(F:i<r.L.length),i≠j->r.L[i].Is=true->∀v:VM,v.Of=r.L[i].ID->(v∈Fh {r with L:=r.L.set j ⟨r.L[j].N,r.L[j].Role,true,x,o.Guards,o.Need,o.Wait,false,0⟩}↔v∈r.V):=by intro i F t hI v hv;refine O0 (r:={r with L:=r.L.set j ⟨r.L[j].N,r.L[j].Role,true,x,o.Guards,o.Need,o.Wait,false,0⟩}) (m:=r.L[i]) (List.mem_iff_getElem.2 ⟨i,by simpa using F,?_⟩) hI hv;simp only[List.getElem_set_ne (Ne.symm t)]
  have hX:∀v∈Fh {r with L:=r.L.set j ⟨r.L[j].N,r.L[j].Role,true,x,o.Guards,o.Need,o.Wait,false,0⟩},v.Of≠x:=λv ce=>hv v (gR.1 ce).1;have lm:=dB hM.mem
  have D:=λ(Y:aK)(g v:Nat)(hg:T.length<=g)(hv:T.length<=v)(cm:g≠v)(h1:Y[g-T.length]?=some (some (.box [iv x.a,iv x.b,.v (.int .u64 x.c),rG o.Guards,iv o.Need,iv o.Wait,.mp v,.v (.bool false),iv 0])))(h2:Y[v-T.length]?=some (some (.map true [] [] [] 0)))=>
   h.setGuard (T':=(T++Y).set s.ms[j].1 (some (.box [iv r.L[j].Role,.ptr g 0]))) P cb (x:=x) (gs:=o.Guards) (need:=o.Need) (wait:=o.Wait) (g:=g) (v:=v) s_ (λi F t=>by rw[aY (Ne.symm t),mY F]) hg hv cm (dS (Q _)) (by rw[aY o_,Mc hg];exact h1) (by rw[aY o_,Mc hv];exact h2) hV hX
  simp only[go_sem,aD,aR,Id.A_def,eB,jC,dM];refine⟨?_,?_⟩;apply cX cd;simp only[go_sem,Q,aD,aR,eB,jC,dM,dZ,sE,gQ];refine D _ (T.length+3) (T.length+2) o_ o_ o_ ?_ ?_;rw[(o_:T.length+3-T.length=3)];rfl;rw[(o_:T.length+2-T.length=2)];rfl;apply cX cd;simp only[go_sem,Q,aD,aR,eB,jC,dM,dZ,sE,gQ];refine D _ (T.length+3) (T.length+2) o_ o_ o_ ?_ ?_;rw[(o_:T.length+3-T.length=3)];rfl;rw[(o_:T.length+2-T.length=2)];rfl;simp only[go_sem];cases I:(o.Kind==11);rotate_left
  ·have B:BS r o x=iQ r o:=F_;rw[B];have hg:=xB (G:=G) (h.app (X:=[some (.box o.A),some (.box x.A)])) w o;simp only[go_sem,aD];apply cI hg;rcases Hr r o.Of with⟨H,q2⟩|⟨i,F,H,q2,q3⟩
   have e2:gP r o=(0,25):=by rw[gP,kD];simp only[H];rfl
   have e3:iQ r o=r:=by rw[iQ,kD];simp only[H];rfl
   rw[e3,e2];simp only[go_sem];exact⟨s,(Wr.refl h).app⟩
   ·cases hb:decide (o.By∈r.L[i].Guards);have e2:gP r o=(0,14):=by rw[gP,lO F H,hb];rfl
    have e3:iQ r o=r:=aj;rw[e3,e2];simp only[go_sem];exact⟨s,(Wr.refl h).app⟩
    ·have e2:gP r o=(r.L[i].N,0):=by rw[gP,lO F H,hb,q3];rfl
     have e3:iQ r o={r with V:=r.V.filter (λv=>!aDy o v)++[qA o r.V]}:=aj;rw[e3,e2];have z:r.L[i].Is=true:=by rw[Vt,zJ]at q2;exact q2.1
     have ab:r.L[i].ID=o.Of:=by rw[Vt,zJ]at q2;exact of_decide_eq_true q2.2
     rcases yX h r.L[i].N with⟨bz,bt,k,h3,ak,ar,hk,bg,bb,al,bm⟩|⟨bz,bt,h3,ak,ar⟩
     rotate_left;exfalso;have hg:=mN (λm:MM=>m.N==r.L[i].N) r.L;have:(r.L.any λm=>m.N==r.L[i].N)=true:=CX.2 ⟨_,eQ F,s_⟩;rw[this]at hg;have:=of_decide_eq_true hg;unfold jL at ar;omega;obtain rfl:=w.nn k i hk F bm;have a3:=λX:aK=>aF (X:=X) h3;have b3:=λX:aK=>aF (X:=X) al.mem;have b4:=λX:aK=>aF (X:=X) (al.grd z);obtain⟨l,bv,cv,ae,az,hl,ai⟩:=al.vch z;have an:=ae;unfold KO at an;have Q:=λX:aK=>aF (X:=X) an;have aa:∀v,v∈l↔v∈r.V/\v.Of=o.Of:=λv=>by rw[hl,ab]
     have E:=S3 o.By o.Device l 0;have lv:=dB ae
     have ac:∀j(P:j<r.L.length),j≠k->r.L[j].Is=true->∀v:VM,v.Of=r.L[j].ID->(v∈r.V.filter (λv=>!aDy o v)++[qA o r.V]↔v∈r.V):=λj P t hI v hv=>
      O5 (λe=>t (w.uniq j k P hk hI z (e.trans ab.symm))) hv
     have D:∀l2 M K,(∀v,v∈l2↔v∈r.V.filter (λv=>!aDy o v)++[qA o r.V]/\v.Of=o.Of)->Bs l2.length M K->(l2.map λv=>(v.By,v.Device)).Nodup->∀X:aK,∃s',Wr T s r ((T++X).set s.ms[k].2.2 (some (KO l2 M K))) s' {r with V:=r.V.filter (λv=>!aDy o v)++[qA o r.V]}:=b_
     cases e4:l.findIdx? (λv=>o.By==v.By&&o.Device==v.Device) with
     |none=>
      rw[e4]at E;simp only[xD]at E;obtain⟨n1,n2,n3⟩:=O3 aa ai e4;simp only[go_sem,R,a3,ak,bb,b3,b4,Q,z,CR,aD,dH,dD,eB,jC,dM,E,undef];have:=D (l++[qA o r.V]) (bv++[cv]) (cv+1) n2 (by rw[dZ];exact az.suc) n3 [some (.box o.A),some (.box x.A),some (.box [iv o.By,iv o.Device])];rw[KO,n1,bZ,bZ]at this;rw[n1];exact this
     | some n=>
      rw[e4]at E;simp only[iX,mG]at E;obtain⟨hn,J,_⟩:=Ad.1 e4;simp only[zJ,beq_iff_eq]at J;obtain⟨n1,n2,n3⟩:=O4 wv.nd aa ai hn J.1 J.2;have bo:(l.map λv=>iv v.At)[n]?=some (iv l[n].At):=aO _ l n hn;simp only[go_sem,R,a3,ak,bb,b3,b4,Q,z,CR,aD,dH,dD,eB,jC,dM,E,bo,undef];refine aL (λC=>?_) (λC=>?_);have C:=of_decide_eq_true C;simp only[go_sem,b4,Q,CR,aD,dH,E];have:=D (l.set n (qA o r.V)) bv cv n2 (by rw[cL];exact az) (by rw[n3];exact ai) [some (.box o.A),some (.box x.A),some (.box [iv o.By,iv o.Device])];have ek:(l.set n (qA o r.V)).map (λv=>[Value.int .i64 v.By,Value.int .i64 v.Device])=l.map λv=>[Value.int .i64 v.By,Value.int .i64 v.Device]:=P_;rw[KO,ek,Ba,n1,(o_:min o.At l[n].At=o.At)]at this;rw[n1,(o_:min o.At l[n].At=o.At)];exact this;have C:=of_decide_eq_false C;have ao:l.set n (qA o r.V)=l:=by
       have:qA o r.V=l[n]:=da;rw[this,List.set_getElem_self]
      simp only[go_sem];refine⟨s,Wr.ofApp h ((h.app).setV λj P hI v hv=>?_)⟩;by_cases t:j=k;subst t;have:=n2 v;rw[ao,aa]at this;have ho:v.Of=o.Of:=hv.trans ab;exact⟨λh1=>(this.2 ⟨h1,ho⟩).1,λh1=>(this.1 ⟨h1,ho⟩).1⟩;exact ac j P t hI v hv
  simp only[go_sem];cases U:(o.Kind==12);rotate_left;have B:BS r o x=if(r.L[j].Is&&decide (r.L[j].ID=o.Of))=true then {r with L:=r.L.set j {r.L[j]with Obj:=true,Last:=max r.L[j].Last o.At} } else r:=by rw[BS,if_neg di,if_neg sa,if_neg sr,if_neg ko,if_neg an,if_neg (by simp[I]),if_pos U];simp only[hm];rw[if_neg (o_:¬(j:Int)<0),nI,nH P]
  have Q:=λX:aK=>aF (X:=X) hM.mem;cases z:r.L[j].Is;simp only[go_sem,Q,z,undef];rw[B,z,if_neg s_];exact⟨s,(Wr.refl h).app⟩;have b6:=λX:aK=>aF (X:=X) (hM.grd z);have hb:=Id.beq r.L[j].ID o.Of;cases bc:decide (r.L[j].ID=o.Of);simp only[go_sem,aD,Q,b6,z,CR,hb,bc,Id.A_def];rw[B,z,bc,if_neg s_];exact⟨s,(Wr.refl h).app⟩;have nf:s.ms[j].2.1≠T.length:=by have:=dB (hM.grd z);omega
  have b7:=λX o=>dS (o:=o) (b6 X);have b8:=λ(X:aK) o=>aY (T:=T++X) (o:=o) nf;simp only[go_sem,aD,Q,b6,b7,b8,z,CR,hb,bc,Id.A_def,List.set_set];rw[B,z,bc,if_pos (show(true&&true)=true from rfl)];obtain⟨u,f⟩:=(h.app (X:=[some (AObj.box o.A),some (AObj.box x.A)])).setObj (T':=(T++[some (AObj.box o.A),some (AObj.box x.A)]).set s.ms[j].2.1 (some (.box (CR {r.L[j]with Obj:=true,Last:=max r.L[j].Last o.At} s.ms[j].2.2)))) P cb z (b:=true) (la:=max r.L[j].Last o.At) s_ (λj P t=>kz) (by rw[dS (b6 _)]);have em:max r.L[j].Last o.At=if o.At>r.L[j].Last then o.At else r.L[j].Last:=ax
  refine⟨u,?_⟩;rw[em]at f⊢;exact Wr.ofApp h f;simp only[go_sem];cases ad:(o.Kind==13);rotate_left
  ·simp only[go_sem,aD];apply cI (AN h.app w.uniq _);rcases Hr r o.Of with⟨H,q2⟩|⟨i,F,H,q2,q3⟩
   have B:BS r o x=r:=A_;rw[B];simp only[go_sem,q2,gt_iff_lt,undef];exact⟨s,(Wr.refl h).app⟩
   ·have hN:=w.pos _ (eQ F);have B:BS r o x=if(decide (o.Old∈r.In)&&(eI r o.Old==r.L[i].N&&eI r o.Device==r.L[i].N))=true then lN (mU r o.Device (sD r (eI r o.Device))) o.Old else r:=v_
    rw[B];have ba:decide (r.L[i].N>0)=true:=decide_eq_true (ca _ (eQ F));generalize r.L[i].N=n at *
    obtain⟨bi,ci,hI,_⟩:=h.inn;unfold tK at hI;have aI:=λX:aK=>aF (X:=X) hI;have hf:=iW o.Old r.In 0;rcases K4 r.In o.Old with⟨q,e,hq,ah⟩|⟨e,ah⟩
    rotate_left;rw[e]at hf;simp only[xD]at hf;simp only[go_sem,q3,ba,R,aI,hf,aD,undef];rw[decide_eq_false ah,if_neg s_];exact⟨s,(Wr.refl h).app⟩;rw[e]at hf;simp only[iX,mG]at hf;have bp:(r.In.map λ_=>AV.v (.bool true))[q]?=some (.v (.bool true)):=by rw[gE,jN hq];rfl
    simp only[go_sem,q3,ba,R,aI,hf,bp,aD];rw[decide_eq_true ah,mF];apply cI (af _ _);cases c1:(eI r o.Old==n);simp only[go_sem,c1,undef,lR];exact⟨s,(Wr.refl h).app⟩;simp only[go_sem,c1,aD];apply cI (af _ _);cases c2:(eI r o.Device==n);simp only[go_sem,c2];exact⟨s,(Wr.refl h).app⟩;simp only[go_sem,c2,aD];apply cI (af _ _);simp only[go_sem,aD];apply cI (B5 h.app _);simp only[go_sem,aD];apply jA (rX h.app _ _);rintro y T' ⟨u,f⟩;have t0:T'[T.length]?=some (some (.box o.A)):=f.keep0 h aD;have hg:=uK (G:=G) f.at' (D6 hn _ _) (KS w.nn _ _) o.Old;rw[f.root]at hg;simp only[go_sem,t0];apply jA hg;rintro y T' ⟨s2,W2⟩;simp only[go_sem];exact⟨s2,Wr.ofApp h (f.trans W2)⟩
  simp only[go_sem];have B:BS r o x=r:=S_;rw[B];exact⟨s,(Wr.refl h).app⟩
 ·have a2:=λX:aK=>aF (X:=X) h2;simp only[go_sem,R,a2,bh,aD];cases O:(o.Kind==1);rotate_left;have B:BS r o x=if 0<r.In.length\/0<r.Gone.length\/eI r o.By=0 then r else {mU r o.By 3 with Back:=o.Need}:=by rw[BS,if_pos O]
  rw[B];obtain⟨lw,bw,cw,hw,co,ck,av,ch⟩:=h.was;unfold tK at hw;have a3:=λX:aK=>aF (X:=X) hw;cases c1:((lw.length:Int)==0);simp only[go_sem,R,a3,aP,c1,undef];rw[if_pos];exact⟨s,(Wr.refl h).app⟩;have:lw≠[]:=λe=>by rw[e]at c1;simp at c1
  rw[Ne,av]at this;rcases JX r.In.length with h1|h1;rcases JX r.Gone.length with h3|h3;exact absurd ⟨Ae h1,Ae h3⟩ this;exact .inr (.inl h3);exact .inl h1;simp only[go_sem,R,a3,aP,c1,aD];have au:lw=[]:=Ae (by simpa using c1);obtain⟨i0,g0⟩:=av.1 au;apply cI (rW h.app _);cases b1:lZ r o.By;simp only[go_sem];have:eI r o.By=0:=R_;rw[if_pos (.inr (.inr this))];exact⟨s,(Wr.refl h).app⟩;simp only[go_sem,aD];apply jA (rX h.app _ _);rintro y T' ⟨u,f⟩;have r1:=f.at'.root;have t0:T'[T.length]?=some (some (.box o.A)):=f.keep0 h aD;rw[f.root]at r1;simp only[go_sem,t0,r1];rw[if_neg (by rw[i0,g0];have:=(C3 b1).2.2;simp;omega)];have W2:=f.at'.setBack (T':=T'.set s.root (some (.box [.mp u.c,.mp u.i,.mp u.w,.mp u.m,iv o.Need]))) (b:=o.Need) s_ (λj P t=>by rw[f.root]at t;rw[aY (Ne.symm t)]) (by rw[f.root,dS r1]);exact⟨u,Wr.ofApp h (f.trans W2)⟩;simp only[go_sem];cases S:(o.Kind==2);rotate_left;have B:BS r o x=mU r o.Device o.Role:=by rw[BS,if_neg di,if_pos S]
  rw[B];simp only[go_sem,aD];apply jA (rX h.app _ _);rintro y T' ⟨u,f⟩;simp only[go_sem];exact⟨u,Wr.ofApp h f⟩;simp only[go_sem];cases k3:(o.Kind==3);rotate_left;have B:BS r o x=(if o.Device=0 then r.In.filter (λd=>eI r d==o.Member) else [o.Device]).foldl lN r:=by rw[BS,if_neg di,if_neg sa,if_pos k3]
  rw[B];cases d0:(o.Device !=0);simp only[go_sem,d0,aD];rw[if_pos (by simpa using d0)];apply cI (Fp h.app am cc);have Z:=Hl r.In;have bd:(C0 r.In).Nodup:=Z.nodup_iff.2 hn;have cg:(C0 r.In).length<=12:=by rw[Z.length_eq];exact am
  have D:∀{T':aK}{u:RP},Wr (T++[some (.box o.A),some (.box x.A)]) s r T' u (((C0 r.In).filter λd=>eI r d==o.Member).foldl lN r)->∃s',Wr T s r T' s' ((r.In.filter λd=>eI r d==o.Member).foldl lN r):=by
   intro T' u W
   have q:=λ(ds:B_)(hp:ds.Perm r.In)(hd:ds.Nodup)=>foldGoes (n:=o.Member) (ds.filter λd=>eI r d==o.Member) r (hd.filter _) (λd bj=>by
    obtain⟨h1,h2⟩:=gR.1 bj
    exact⟨hp.mem_iff.1 h1,d6⟩)
   rw[q _ Z bd]at W;rw[q _ (.refl _) hn];exact⟨u,(Wr.ofApp h W).trans (RH (Z.filter _) W.at')⟩
  generalize C0 r.In=ds at *
  simp only[go_sem,aP]
  refine kL (λn st=>∃i,i<=ds.length/\n=ds.length-i/\∃(T1:aK)(u:RP),Wr (T++[some (.box o.A),some (.box x.A)]) s r T1 u (((ds.take i).filter λd=>eI r d==o.Member).foldl lN r) /\
   st=⟨T.length,[(71,iv i),(70,iv ds.length),(69,rG ds),(4,.ptr T.length 0),(0,.ptr s.root 0)],T1⟩) ds.length ⟨0,pR _,rfl,_,s,Wr.refl h.app,rfl⟩ ?_
  rintro n st ⟨i,F,cj,T1,u,f,rfl⟩;rcases eD i ds.length with C|cn;have ws:=fQ i o_;have g0:(ds.map λn=>[iv n])[i]?=some [iv ds[i]]:=aO _ ds i C;have t0:T1[T.length]?=some (some (.box o.A)):=f.keep0 h aD;have ft:(ds.take (i+1)).filter (λd=>eI r d==o.Member)=(ds.take i).filter (λd=>eI r d==o.Member)++if(eI r ds[i]==o.Member)=true then [ds[i]] else []:=by rw[lB C,Mf,List.filter_cons,List.filter_nil]
  obtain⟨bf,be,bk⟩:=D7 ((ds.take i).filter λd=>eI r d==o.Member) r hn w.nn;have ap:=kE (G:=G) f.at' ds[i];rw[KU bk,f.root]at ap;have ay:=uK (G:=G) f.at' bf be ds[i];rw[f.root]at ay;simp only[go_sem,aT C,g0,t0];apply cI ap;cases hq:(eI r ds[i]==o.Member);rw[hq,if_neg d_,jO]at ft;simp only[go_sem,hq,t0,ws];exact⟨ds.length-(i+1),o_,i+1,o_,rfl,_,u,by rw[ft];exact f,rfl⟩;rw[hq,if_pos rfl]at ft;simp only[go_sem,hq,t0];apply jA ay;rintro y T' ⟨s2,W2⟩;simp only[go_sem,ws];exact⟨ds.length-(i+1),o_,i+1,o_,rfl,_,s2,by rw[ft,Hy];exact f.trans W2,rfl⟩;obtain rfl:i=ds.length:=o_;rw[dE]at f;simp only[go_sem,aS (bP _)];exact D f;simp only[go_sem,d0,aD];rw[if_neg (by simpa using d0)];apply jA (uK h.app hn w.nn _);rintro y T' ⟨u,f⟩;simp only[go_sem];exact⟨u,Wr.ofApp h f⟩;simp only[go_sem];cases k5:(o.Kind==5);rotate_left;have B:BS r o x=if jL r o.Member<0 then r else {r with L:=r.L.set (jL r o.Member).toNat { (r.L.getD (jL r o.Member).toNat default) with Role:=o.Role} }:=du
  rw[B];rcases yX h o.Member with⟨bu,br,j5,h5,aj,aq,ax,aw,bq,bn,cp⟩|⟨bu,br,h5,aj,aq⟩
  have a5:=λX:aK=>aF (X:=X) h5;have Q:=λX:aK=>aF (X:=X) bn.mem;simp only[go_sem,R,a5,aj,bq,Q,aD];rw[aq,if_neg (o_:¬(j5:Int)<0),nI,nH ax];obtain⟨u,f⟩:=(h.app (X:=[some (.box o.A),some (.box x.A)])).setRole (T':=(T++[some (AObj.box o.A),some (AObj.box x.A)]).set s.ms[j5].1 (some (.box [iv o.Role,if r.L[j5].Is=true then .ptr s.ms[j5].2.1 0 else .v (.pointer none)]))) ax aw (role:=o.Role) s_ (λj P t=>kz) (by rw[dS (Q _)]);exact⟨u,Wr.ofApp h f⟩;have a5:=λX:aK=>aF (X:=X) h5;simp only[go_sem,R,a5,aj,aD];rw[if_pos o_];exact⟨s,(Wr.refl h).app⟩;simp only[go_sem];cases k9:(o.Kind==9);rotate_left;have B:BS r o x=r:=by rw[BS,if_neg di,if_neg sa,if_neg sr,if_neg ko,if_pos k9,BN];simp only[hm];rw[if_pos d_]
  rw[B];simp only[go_sem];exact⟨s,(Wr.refl h).app⟩;simp only[go_sem];cases I:(o.Kind==11);rotate_left
  ·have B:BS r o x=iQ r o:=F_;rw[B];have hg:=xB (G:=G) (h.app (X:=[some (.box o.A),some (.box x.A)])) w o;simp only[go_sem,aD];apply cI hg;rcases Hr r o.Of with⟨H,q2⟩|⟨i,F,H,q2,q3⟩
   have e2:gP r o=(0,25):=by rw[gP,kD];simp only[H];rfl
   have e3:iQ r o=r:=by rw[iQ,kD];simp only[H];rfl
   rw[e3,e2];simp only[go_sem];exact⟨s,(Wr.refl h).app⟩
   ·cases hb:decide (o.By∈r.L[i].Guards);have e2:gP r o=(0,14):=by rw[gP,lO F H,hb];rfl
    have e3:iQ r o=r:=aj;rw[e3,e2];simp only[go_sem];exact⟨s,(Wr.refl h).app⟩
    ·have e2:gP r o=(r.L[i].N,0):=by rw[gP,lO F H,hb,q3];rfl
     have e3:iQ r o={r with V:=r.V.filter (λv=>!aDy o v)++[qA o r.V]}:=aj;rw[e3,e2];have z:r.L[i].Is=true:=by rw[Vt,zJ]at q2;exact q2.1
     have ab:r.L[i].ID=o.Of:=by rw[Vt,zJ]at q2;exact of_decide_eq_true q2.2
     rcases yX h r.L[i].N with⟨bz,bt,k,h3,ak,ar,hk,bg,bb,al,bm⟩|⟨bz,bt,h3,ak,ar⟩
     rotate_left;exfalso;have hg:=mN (λm:MM=>m.N==r.L[i].N) r.L;have:(r.L.any λm=>m.N==r.L[i].N)=true:=CX.2 ⟨_,eQ F,s_⟩;rw[this]at hg;have:=of_decide_eq_true hg;unfold jL at ar;omega;obtain rfl:=w.nn k i hk F bm;have a3:=λX:aK=>aF (X:=X) h3;have b3:=λX:aK=>aF (X:=X) al.mem;have b4:=λX:aK=>aF (X:=X) (al.grd z);obtain⟨l,bv,cv,ae,az,hl,ai⟩:=al.vch z;have an:=ae;unfold KO at an;have Q:=λX:aK=>aF (X:=X) an;have aa:∀v,v∈l↔v∈r.V/\v.Of=o.Of:=λv=>by rw[hl,ab]
     have E:=S3 o.By o.Device l 0;have lv:=dB ae
     have ac:∀j(P:j<r.L.length),j≠k->r.L[j].Is=true->∀v:VM,v.Of=r.L[j].ID->(v∈r.V.filter (λv=>!aDy o v)++[qA o r.V]↔v∈r.V):=λj P t hI v hv=>
      O5 (λe=>t (w.uniq j k P hk hI z (e.trans ab.symm))) hv
     have D:∀l2 M K,(∀v,v∈l2↔v∈r.V.filter (λv=>!aDy o v)++[qA o r.V]/\v.Of=o.Of)->Bs l2.length M K->(l2.map λv=>(v.By,v.Device)).Nodup->∀X:aK,∃s',Wr T s r ((T++X).set s.ms[k].2.2 (some (KO l2 M K))) s' {r with V:=r.V.filter (λv=>!aDy o v)++[qA o r.V]}:=b_
     cases e4:l.findIdx? (λv=>o.By==v.By&&o.Device==v.Device) with
     |none=>
      rw[e4]at E;simp only[xD]at E;obtain⟨n1,n2,n3⟩:=O3 aa ai e4;simp only[go_sem,R,a3,ak,bb,b3,b4,Q,z,CR,aD,dH,dD,eB,jC,dM,E,undef];have:=D (l++[qA o r.V]) (bv++[cv]) (cv+1) n2 (by rw[dZ];exact az.suc) n3 [some (.box o.A),some (.box x.A),some (.box [iv o.By,iv o.Device])];rw[KO,n1,bZ,bZ]at this;rw[n1];exact this
     | some n=>
      rw[e4]at E;simp only[iX,mG]at E;obtain⟨hn,J,_⟩:=Ad.1 e4;simp only[zJ,beq_iff_eq]at J;obtain⟨n1,n2,n3⟩:=O4 wv.nd aa ai hn J.1 J.2;have bo:(l.map λv=>iv v.At)[n]?=some (iv l[n].At):=aO _ l n hn;simp only[go_sem,R,a3,ak,bb,b3,b4,Q,z,CR,aD,dH,dD,eB,jC,dM,E,bo,undef];refine aL (λC=>?_) (λC=>?_);have C:=of_decide_eq_true C;simp only[go_sem,b4,Q,CR,aD,dH,E];have:=D (l.set n (qA o r.V)) bv cv n2 (by rw[cL];exact az) (by rw[n3];exact ai) [some (.box o.A),some (.box x.A),some (.box [iv o.By,iv o.Device])];have ek:(l.set n (qA o r.V)).map (λv=>[Value.int .i64 v.By,Value.int .i64 v.Device])=l.map λv=>[Value.int .i64 v.By,Value.int .i64 v.Device]:=P_;rw[KO,ek,Ba,n1,(o_:min o.At l[n].At=o.At)]at this;rw[n1,(o_:min o.At l[n].At=o.At)];exact this;have C:=of_decide_eq_false C;have ao:l.set n (qA o r.V)=l:=by
       have:qA o r.V=l[n]:=da;rw[this,List.set_getElem_self]
      simp only[go_sem];refine⟨s,Wr.ofApp h ((h.app).setV λj P hI v hv=>?_)⟩;by_cases t:j=k;subst t;have:=n2 v;rw[ao,aa]at this;have ho:v.Of=o.Of:=hv.trans ab;exact⟨λh1=>(this.2 ⟨h1,ho⟩).1,λh1=>(this.1 ⟨h1,ho⟩).1⟩;exact ac j P t hI v hv
  simp only[go_sem];cases U:(o.Kind==12);rotate_left;have B:BS r o x=r:=by rw[BS,if_neg di,if_neg sa,if_neg sr,if_neg ko,if_neg an,if_neg (by simp[I]),if_pos U];simp only[hm];rw[if_pos d_]
  rw[B];simp only[go_sem,undef];exact⟨s,(Wr.refl h).app⟩;simp only[go_sem];cases ad:(o.Kind==13);rotate_left
  ·simp only[go_sem,aD];apply cI (AN h.app w.uniq _);rcases Hr r o.Of with⟨H,q2⟩|⟨i,F,H,q2,q3⟩
   have B:BS r o x=r:=A_;rw[B];simp only[go_sem,q2,gt_iff_lt,undef];exact⟨s,(Wr.refl h).app⟩
   ·have hN:=w.pos _ (eQ F);have B:BS r o x=if(decide (o.Old∈r.In)&&(eI r o.Old==r.L[i].N&&eI r o.Device==r.L[i].N))=true then lN (mU r o.Device (sD r (eI r o.Device))) o.Old else r:=v_
    rw[B];have ba:decide (r.L[i].N>0)=true:=decide_eq_true (ca _ (eQ F));generalize r.L[i].N=n at *
    obtain⟨bi,ci,hI,_⟩:=h.inn;unfold tK at hI;have aI:=λX:aK=>aF (X:=X) hI;have hf:=iW o.Old r.In 0;rcases K4 r.In o.Old with⟨q,e,hq,ah⟩|⟨e,ah⟩
    rotate_left;rw[e]at hf;simp only[xD]at hf;simp only[go_sem,q3,ba,R,aI,hf,aD,undef];rw[decide_eq_false ah,if_neg s_];exact⟨s,(Wr.refl h).app⟩;rw[e]at hf;simp only[iX,mG]at hf;have bp:(r.In.map λ_=>AV.v (.bool true))[q]?=some (.v (.bool true)):=by rw[gE,jN hq];rfl
    simp only[go_sem,q3,ba,R,aI,hf,bp,aD];rw[decide_eq_true ah,mF];apply cI (af _ _);cases c1:(eI r o.Old==n);simp only[go_sem,c1,undef,lR];exact⟨s,(Wr.refl h).app⟩;simp only[go_sem,c1,aD];apply cI (af _ _);cases c2:(eI r o.Device==n);simp only[go_sem,c2];exact⟨s,(Wr.refl h).app⟩;simp only[go_sem,c2,aD];apply cI (af _ _);simp only[go_sem,aD];apply cI (B5 h.app _);simp only[go_sem,aD];apply jA (rX h.app _ _);rintro y T' ⟨u,f⟩;have t0:T'[T.length]?=some (some (.box o.A)):=f.keep0 h aD;have hg:=uK (G:=G) f.at' (D6 hn _ _) (KS w.nn _ _) o.Old;rw[f.root]at hg;simp only[go_sem,t0];apply jA hg;rintro y T' ⟨s2,W2⟩;simp only[go_sem];exact⟨s2,Wr.ofApp h (f.trans W2)⟩
  simp only[go_sem];have B:BS r o x=r:=S_;rw[B];exact⟨s,(Wr.refl h).app⟩
end
def ZO(g:PGM)(r:RM)(y:Id):RM:=BS r (g.nd y).o y
def Lo(g:PGM)(some:D_)(x:Id):RM:=(some.filter λy=>oH g y x).foldl (ZO g) (RM.new g.cards)
structure GGood(g:PGM):Prop where
 ok:g.ok
 chk:∀n∈g.nodes,vF n.o=0
 cards:CardsG g.cards
 idb:∀n∈g.nodes,n.id.b<=2^62
def aEo{g:PGM}{x:Id}(a:x∈g.I):g.nd x∈g.nodes:=by
 obtain⟨j,e,l,_⟩:=dG a;have b:j<g.nodes.length:=by simpa[PGM.I]using l
 rw[RA e,rH,jN b];simp
def GGood.op{g:PGM}(h:GGood g){x:Id}(a:x∈g.I):OpGood (g.nd x).o/\(g.nd x).o.ok:=⟨aIr (h.chk _ (aEo a)),h.ok.ops _ (aEo a)⟩
def B6{g:PGM}(h:GGood g):∀(l:D_){D:D_}{r:RM},RGood D g.cards r->(∀x∈l,x∈g.I)->(l++D).Nodup->RGood (l.reverse++D) g.cards (l.foldl (ZO g) r)
 |[],_,_,d,_,_=>d
 | x::l,D,r,d,j,c=>by
  rw[jC,BU]at c;have h1:=d.do' h.cards (h.op (j x EV)).1 (x:=x) (λf=>c.1 (List.mem_append_right _ f))
  have h2:=B6 h l h1 (λy m=>j y (GU _ m)) (by
   rw[vQ]at c⊢;refine⟨c.2.1,BU.2 ⟨λf=>c.1 (List.mem_append_right _ f),c.2.2.1⟩,λa k b i e=>?_⟩;rcases cS.1 i with rfl|i;subst e;exact c.1 (List.mem_append_left _ k)
   exact c.2.2.2 a k b i e)
  rw[CW,List.reverse_cons,eB];exact h2
structure Above(T T':aK)(s:RP)(r:RM):Prop where
 at':RollAt T' s r
 ext:∃X,T'=T++X
 fp:∀i,aB7 s r i->T.length<=i
def aIB{T T':aK}(a:T.length<=T'.length)(h:∀i,i<T.length->T'[i]?=T[i]?):∃X,T'=T++X:=by
 refine⟨T'.drop T.length,?_⟩;have:T=T'.take T.length:=by refine EW λi=>?_;grind
 conv=>lhs;rw[<-LC T.length T']
 rw[<-this]
def Above.wr{T d T2 X:aK}{s b:RP}{r c:RM}(h:Above T d s r)(w:Wr (d++X) s r T2 b c):Above T T2 b c:=by obtain⟨Y,rfl⟩:=h.ext;refine⟨w.at',aIB ?_ λi a=>?_,λi a=>?_⟩;have:=w.len;simp only[dZ]at this;omega;rw[w.same i si λe=>absurd (h.fp i e) o_,eB,mY a];rcases w.fp i a with h1|h1;exact h.fp i h1;simp_all;omega
def Above.app{T a X:aK}{s:RP}{r:RM}(h:Above T a s r):Above T (a++X) s r:=h.wr (Wr.refl h.at'.app)
section
variable{T:aK}{p:Nat×Nat×Nat}{g:PGM}{l:Nat}{row v f:AV}
def aKu(h:GAt T p g)(k:GGood g)(hl:T[l]?=some (some (.box [.ptr p.1 0,row,v,f])))(a:D_)(J:∀x∈a,x∈g.I)(M:a.Nodup)(x:Id):
 aA PQ G pD [.ptr l 0,ids a,.ag x.A] T λy T'=>∃s,y=.ptr s.root 0/\Above T T' s (Lo g a x):=by
 apply fT BG;have U:=λX:aK=>aF (X:=X) hl;simp only[go_sem,U,jC,dM,ids];apply cI (S4 (h.app) k.ok);simp only[go_sem];apply jA (O1 g.cards (by have:=k.cards.len;omega) k.cards.nd);rintro y T' ⟨F,rfl,K,⟨X0,rfl⟩,Q⟩;simp only[go_sem,aP];have C:Above (T++[some (.box x.A)]) (T++[some (.box x.A)]++X0) F (RM.new g.cards):=⟨K,⟨X0,rfl⟩,Q⟩
 have P:∀i,RGood (((a.take i).filter λy=>oH g y x).reverse++[]) g.cards (((a.take i).filter λy=>oH g y x).foldl (ZO g) (RM.new g.cards)):=λi=>by refine B6 k _ (RGood.new k.cards) (λy hy=>J y (C8 (gR.1 hy).1)) ?_;rw[jO];exact(M.sublist (List.take_sublist _ _)).sublist List.filter_sublist
 have aa:a.length<=200:=by have:=List.Nodup.length_le_of_subset M J;have h2:=k.ok.n;simp only[PGM.I,aP]at this;omega
 refine kL (λn Y=>∃i,i<=a.length/\n=a.length-i/\∃(V:aK)(u:RP),u.root=F.root/\Above (T++[some (.box x.A)]) V u (((a.take i).filter λy=>oH g y x).foldl (ZO g) (RM.new g.cards)) /\
  Y=⟨T.length,[(20,iv i),(19,iv a.length),(18,ids a),(7,.ptr F.root 0),(5,.ptr T.length 0),(0,.ptr l 0)],V⟩) a.length ⟨0,pR _,rfl,_,F,rfl,C,rfl⟩ ?_
 rintro n Y ⟨i,hi,ab,V,u,c,w,rfl⟩;rcases eD i a.length with d|ac;rotate_left;obtain rfl:i=a.length:=o_;rw[dE]at w;simp only[go_sem,aS (bP _)];refine⟨u,by rw[c],w.at',?_,λj O=>?_⟩;obtain⟨X,hX⟩:=w.ext;exact⟨_,by rw[hX,eB]⟩;have:=w.fp j O;rw[dZ]at this;omega;have H:=fQ i o_;have B:=J _ (eQ d);have g0:(a.map Id.A)[i]?=some a[i].A:=aO _ a i d;have E:(a.take (i+1)).filter (λy=>oH g y x)=(a.take i).filter (λy=>oH g y x)++if oH g a[i] x=true then [a[i]] else []:=by rw[lB d,Mf,List.filter_cons,List.filter_nil]
 have b:=P i;have hz:a[i]∉(a.take i).filter λy=>oH g y x:=λN=>by obtain⟨j,O,e⟩:=List.mem_iff_getElem.1 (gR.1 N).1;rw[eC]at O;rw[List.getElem_take]at e;have:j=i:=(C9 (h₀:=o_) (h₁:=d) M).1 e;omega
 generalize((a.take i).filter λy=>oH g y x)=done at *
 have r:=w;obtain⟨X,rfl⟩:=w.ext;simp only[go_sem,aT d,g0,ids,aZ,cP,fF,iR,oX,sW,yG,U,Id.A_def,eB,jC,dM,Nat.reduceAdd];apply cI (JO (h.app) k.ok a[i] x);cases hb:oH g a[i] x;rw[hb,if_neg d_,jO]at E;simp only[go_sem,H];refine⟨a.length-(i+1),o_,i+1,o_,rfl,_,u,c,?_,rfl⟩;rw[E];have:=r.app (X:=[some (.box a[i].A)]);simpa only[eB,jC,dM,Id.A_def]using this
 ·rw[hb,if_pos rfl]at E;simp only[go_sem,aZ,fF,oX,sW,U,eB,jC,dM,sY,Nat.reduceAdd];have cE:=λX=>S5 (G:=G) (h.app (X:=X)) k.ok a[i] B;generalize a[i]=z at *
  have hR:=λZ:aK=>(r.app (X:=Z)).at';have L:=k.op B;have D:=b.nodup12 k.cards
  have q:=λZ:aK=>aM4 (G:=G) (hR Z) b.wf b.inn (aEk (by rw[b.cards];exact k.cards)) D.1 D.2 (g.nd z).o z (by have:=L.1.gl;omega) (λv hv e=>by
   obtain⟨m,N,hI,S,_⟩:=b.vof v hv;have:=b.gid m N hI;rw[S,e,jO,List.mem_reverse]at this
   exact hz this) b.wv b.pos
  rw[c]at q;have R:∀{Z T':aK}{t:RP},Wr (T++[some (.box x.A)]++X++Z) u (done.foldl (ZO g) (RM.new g.cards)) T' t (BS (done.foldl (ZO g) (RM.new g.cards)) (g.nd z).o z)->Above (T++[some (.box x.A)]) T' t ((done++[z]).foldl (ZO g) (RM.new g.cards)):=λW=>by rw[Hy];exact r.wr W
  simp only[eB,jC,dM,Id.A_def]at q R;refine⟨?_,?_⟩;apply cI (cE _);simp only[go_sem,aZ,cP,fF,oX,sW,yG,eB,jC,dM,sY,Nat.reduceAdd];apply jA (q _);rintro y T' ⟨t,W⟩;simp only[go_sem,H];exact⟨a.length-(i+1),o_,i+1,o_,rfl,_,t,W.root.trans c,by rw[E];exact R W,rfl⟩;apply cI (cE _);simp only[go_sem,aZ,cP,fF,oX,sW,yG,jC,dM,Nat.reduceAdd];apply jA (q _);rintro y T' ⟨t,W⟩;simp only[go_sem,H];exact⟨a.length-(i+1),o_,i+1,o_,rfl,_,t,W.root.trans c,by rw[E];exact R W,rfl⟩
def aIC(h:GAt T p g)(q:GGood g)(hl:T[l]?=some (some (.box [.ptr p.1 0,row,v,f])))(k:Nat)(a:D_)(hk:T[k]?=some (some (.arr 3 (a.map Id.A))))(K:∀x∈a,x∈g.I)(N:a.Nodup)(x:Id):
 aA PQ G pD [.ptr l 0,.own k,.ag x.A] T λy T'=>∃s,y=.ptr s.root 0/\Above T T' s (Lo g a x):=by
 apply fT BG;have V:=λX:aK=>aF (X:=X) hl;have ak:=λX:aK=>aF (X:=X) hk;simp only[go_sem,V,jC,dM];apply cI (S4 (h.app) q.ok);simp only[go_sem];apply jA (O1 g.cards (by have:=q.cards.len;omega) q.cards.nd);rintro y T' ⟨H,rfl,L,⟨X0,rfl⟩,R⟩;simp only[go_sem,ak,aP,eB,jC,dM];have t:Above (T++[some (.box x.A)]) (T++[some (.box x.A)]++X0) H (RM.new g.cards):=⟨L,⟨X0,rfl⟩,R⟩
 rw[eB]at t;have Q:∀i,RGood (((a.take i).filter λy=>oH g y x).reverse++[]) g.cards (((a.take i).filter λy=>oH g y x).foldl (ZO g) (RM.new g.cards)):=λi=>by refine B6 q _ (RGood.new q.cards) (λy hy=>K y (C8 (gR.1 hy).1)) ?_;rw[jO];exact(N.sublist (List.take_sublist _ _)).sublist List.filter_sublist
 have aa:a.length<=200:=by have:=List.Nodup.length_le_of_subset N K;have h2:=q.ok.n;simp only[PGM.I,aP]at this;omega
 refine kL (λn st=>∃i,i<=a.length/\n=a.length-i/\∃(Y:aK)(B:RP),B.root=H.root/\Above (T++[some (.box x.A)]) Y B (((a.take i).filter λy=>oH g y x).foldl (ZO g) (RM.new g.cards)) /\
  st=⟨T.length,[(20,iv i),(19,iv a.length),(18,.own k),(7,.ptr H.root 0),(5,.ptr T.length 0),(0,.ptr l 0)],Y⟩) a.length ⟨0,pR _,rfl,_,H,rfl,t,rfl⟩ ?_
 rintro n st ⟨i,hi,ab,Y,B,d,C,rfl⟩;rcases eD i a.length with c|ac;rotate_left;obtain rfl:i=a.length:=o_;rw[dE]at C;simp only[go_sem,aS (bP _)];refine⟨B,by rw[d],C.at',?_,λj P=>?_⟩;obtain⟨X,hX⟩:=C.ext;exact⟨_,by rw[hX,eB]⟩;have:=C.fp j P;rw[dZ]at this;omega;have J:=fQ i o_;have D:=K _ (eQ c);have g0:(a.map Id.A)[i]?=some a[i].A:=aO _ a i c;have F:(a.take (i+1)).filter (λy=>oH g y x)=(a.take i).filter (λy=>oH g y x)++if oH g a[i] x=true then [a[i]] else []:=by rw[lB c,Mf,List.filter_cons,List.filter_nil]
 have b:=Q i;have hz:a[i]∉(a.take i).filter λy=>oH g y x:=λO=>by obtain⟨j,P,e⟩:=List.mem_iff_getElem.1 (gR.1 O).1;rw[eC]at P;rw[List.getElem_take]at e;have:j=i:=(C9 (h₀:=o_) (h₁:=c) N).1 e;omega
 generalize((a.take i).filter λy=>oH g y x)=done at *
 have u:=C;obtain⟨X,rfl⟩:=C.ext;simp only[go_sem,aP,aT c,c,g0,aZ,cP,fF,iR,oX,sW,yG,V,ak,Id.A_def,eB,jC,dM,Nat.reduceAdd];apply cI (JO (h.app) q.ok a[i] x);cases hb:oH g a[i] x;rw[hb,if_neg d_,jO]at F;simp only[go_sem,J];refine⟨a.length-(i+1),o_,i+1,o_,rfl,_,B,d,?_,rfl⟩;rw[F];have:=u.app (X:=[some (.box a[i].A)]);simpa only[eB,jC,dM,Id.A_def]using this
 ·rw[hb,if_pos rfl]at F;simp only[go_sem,aZ,fF,oX,sW,V,eB,jC,dM,sY,Nat.reduceAdd];have cE:=λX=>S5 (G:=G) (h.app (X:=X)) q.ok a[i] D;generalize a[i]=z at *
  have hR:=λZ:aK=>(u.app (X:=Z)).at';have M:=q.op D;have E:=b.nodup12 q.cards
  have r:=λZ:aK=>aM4 (G:=G) (hR Z) b.wf b.inn (aEk (by rw[b.cards];exact q.cards)) E.1 E.2 (g.nd z).o z (by have:=M.1.gl;omega) (λv hv e=>by
   obtain⟨m,O,hI,U,_⟩:=b.vof v hv;have:=b.gid m O hI;rw[U,e,jO,List.mem_reverse]at this
   exact hz this) b.wv b.pos
  rw[d]at r;have S:∀{Z T':aK}{w:RP},Wr (T++[some (.box x.A)]++X++Z) B (done.foldl (ZO g) (RM.new g.cards)) T' w (BS (done.foldl (ZO g) (RM.new g.cards)) (g.nd z).o z)->Above (T++[some (.box x.A)]) T' w ((done++[z]).foldl (ZO g) (RM.new g.cards)):=λW=>by rw[Hy];exact u.wr W
  simp only[eB,jC,dM,Id.A_def]at r S;refine⟨?_,?_⟩;apply cI (cE _);simp only[go_sem,aZ,cP,fF,oX,sW,yG,eB,jC,dM,sY,Nat.reduceAdd];apply jA (r _);rintro y T' ⟨w,W⟩;simp only[go_sem,J];exact⟨a.length-(i+1),o_,i+1,o_,rfl,_,w,W.root.trans d,by rw[F];exact S W,rfl⟩;apply cI (cE _);simp only[go_sem,aZ,cP,fF,oX,sW,yG,jC,dM,Nat.reduceAdd];apply jA (r _);rintro y T' ⟨w,W⟩;simp only[go_sem,J];exact⟨a.length-(i+1),o_,i+1,o_,rfl,_,w,W.root.trans d,by rw[F];exact S W,rfl⟩
end
def aNk{o:OpM}(h:jB o=0)(a:o.Kind=3)(b:o.Device=0):o.Member≠0:=by grind[jB,fP,oI]
def Reach.checked{cs:List CardM}{g:GM}(h:Reach cs g):∀o∈g.L,jB o=0:=by
 induction h with
 |new=>simp| @add g o d e c ih=>
  by_cases h:(dV g o).1=0;have a:=Ff h;rw[yE a h];intro x b;rcases cG.1 b with b|b;exact ih x b;rw[cA.1 b];exact a.check;grind[addM]
def Reach.rem{cs:List CardM}{g:GM}(h:Reach cs g):aPS g.L:=λ_ a b c=>aNk (h.checked _ a) b c
def ggood{p:PGM}{g:GM}{cs:List CardM}(s:Sim p g)(c:p.ok)(a:Reach cs g)(d:CardsG p.cards):GGood p where
 ok:=c
 chk:=λn b=>by rw[Aq];apply a.checked n.o;rw[<-s.l];grind
 cards:=d
 idb:=λn b=>by have:=a.seqb n.id (by rw[<-s.i];exact List.mem_map_of_mem (f:=(·.id)) b);omega
def CardsG.perm{cs a:List CardM}(h:CardsG cs)(p:a.Perm cs):CardsG a :=
 ⟨by rw[p.length_eq];exact h.len,(p.map _).nodup_iff.2 h.nd,λc b=>h.mem c (p.mem_iff.1 b),λc b=>h.dev c (p.mem_iff.1 b)⟩
def Xg(p:PGM)(o:OpM):(sR p o).1.cards=p.cards:=by grind[sR,Oa,Q8]
def RL(cs:List CardM):∀(n:Nat)(l:List OpM),l.length=n->(AM cs l).cards=uE cs
 |0,l,h=>by
  obtain rfl:=Ae h;rfl
 |n+1,l,h=>by
  obtain⟨a,x,rfl⟩:∃a x,l=a++[x]:=⟨l.dropLast,l.getLast (by rintro rfl;simp at h),(List.dropLast_concat_getLast _).symm⟩
  rw[MS,Xg];exact RL cs n a w_
def Reach.ggood{cs:List CardM}(c:cardsOk cs)(d:CardsG cs){g:GM}(h:Reach cs g):GGood (AM cs g.L):=by have a:=h.good c;apply Hud.ggood a.sim (XM c _ λo b=>⟨a.ok.ops o b,a.ids o b⟩) h;rw[RL cs _ _ rfl];exact d.perm (H4 _ _)
def Reach.kill{cs:List CardM}(a:cardsOk cs){g:GM}(h:Reach cs g)(x y:Id):lA (AM cs g.L) x y=aOG g x y :=
 aOI (h.good a).sim (h.good a).n h.rem x y
def bQ:List CardM:=BL [1,2,3,1,2,3]
def rY:cardsOk bQ:=aEd _ d_ d_ d_
def JP:CardsG bQ where
 len:=d_
 nd:=by have:bQ.map (·.Device)=[1,2,3,4,5,6]:=rfl;rw[this];decide
 mem:=λc a=>by have h1:c.Member∈bQ.map (·.Member):=List.mem_map_of_mem (f:=(·.Member)) a;have:bQ.map (·.Member)=[1,2,3,1,2,3]:=rfl;simp_all;omega
 dev:=λc a=>by have h1:c.Device∈bQ.map (·.Device):=List.mem_map_of_mem (f:=(·.Device)) a;have:bQ.map (·.Device)=[1,2,3,4,5,6]:=rfl;simp_all;omega
def lz(k:Nat)(b:Bool)(l:N_):AV:=match b with|true=>.v (.slice none 0 0)|false=>.ls k l
@[go_sem] def aNH(k:Nat)(b:Bool)(l:N_):gF (lz k b l)=[]:=s9
@[go_sem] def aOb(L:V_)(k:Nat)(b:Bool)(l:N_):Bd L (lz k b l)=lz k b l:=s9
@[go_sem] def aSK(L:V_)(n k:Nat)(b:Bool)(l:N_):AR L n (lz k b l)=lz k b l:=s9
@[go_sem] def aOd(i j:Nat)(es:N_)(k:Nat)(b:Bool)(l:N_):CB i j es (lz k b l)=lz k b l:=s9
@[go_sem] def aSu(k:Nat)(b:Bool)(l:N_):gS (lz k b l)=true:=s9
@[go_sem] def aQr(k:Nat)(b:Bool)(l:N_):aX (lz k b l)=true:=s9
abbrev dK:AV:=.v (.slice none 0 0)
def gD(o:OpM)(p b r g x:AV):O_:=[iv o.By,iv o.Seq,iv o.Kind,iv o.At,p,iv o.Device,iv o.Old,iv o.Member,iv o.Role,dK,
 iv o.Epoch.a,iv o.Epoch.b,.v (.int .u64 o.Epoch.c),iv o.N,b,r,iv o.Of.a,iv o.Of.b,.v (.int .u64 o.Of.c),g,
 iv o.Need,iv o.Wait,x,uv o.Pub,dK,uv o.SR,uv o.SS]
section
variable(o:OpM)(p b r g x:AV)
def aNJ:(gD o p b r g x)[0]?=some (iv o.By):=fI rfl rfl
def aNK:(gD o p b r g x)[2]?=some (iv o.Kind):=fI rfl rfl
def aMN:(gD o p b r g x)[19]?=some g:=fI rfl rfl
def aMO:(gD o p b r g x).length=27:=fI rfl rfl
def aMP:((gD o p b r g x).drop 16).take 3=o.Of.A:=fI rfl rfl
def aMQ:(gD o p b r g x).take 27=gD o p b r g x:=fI rfl rfl
def aMR:(gD o p b r g x).drop 27=[]:=fI rfl rfl
def aSv:(gD o p b r g x).drop 0=gD o p b r g x:=fI rfl rfl
attribute [go_sem] aNJ aNK aMN aMO aMP aMQ aMR aSv
@[go_sem] def aMS:iZ (gD o p b r g x)=gF p++(gF b++(gF r++(gF g++gF x))):=by simp[gD,iZ,gF]
def aNM(L:V_):xF L (gD o p b r g x)=gD o (Bd L p) (Bd L b) (Bd L r) (Bd L g) (Bd L x):=fI rfl rfl
def aNN(L:V_)(n:Nat):EJ L n (gD o p b r g x)=gD o (AR L n p) (AR L n b) (AR L n r) (AR L n g) (AR L n x):=fI rfl rfl
def aNO(i k:Nat)(es:N_):IB i k es (gD o p b r g x)=gD o (CB i k es p) (CB i k es b) (CB i k es r) (CB i k es g) (CB i k es x):=fI rfl rfl
attribute [go_sem] aNM aNN aNO
def aEt:(gD o p b r g x).all gS=(gS p&&(gS b&&(gS r&&(gS g&&gS x)))):=by simp[gD,gS]
@[go_sem] def aMT:(gD o p b r g x).all gS=(gS p&&(gS b&&(gS r&&(gS g&&gS x)))):=aEt o p b r g x
def aMu:(gD o p b r g x).all aX=(aX p&&(aX b&&(aX r&&(aX g&&aX x)))):=by simp[gD,aX]
def aQ6:(gD o p b r g x).all aX=(aX p&&(aX b&&(aX r&&(aX g&&aX x)))):=aMu o p b r g x
def aKx(n:Int):iv n::(gD o p b r g x).drop 1=gD {o with By:=n} p b r g x:=fI rfl rfl
def aS7(n:Int):(gD o p b r g x).take 0++[iv n]++(gD o p b r g x).drop 1=gD {o with By:=n} p b r g x:=fI rfl rfl
def aMV(n:Int):(gD o p b r g x).take 1++[iv n]++(gD o p b r g x).drop 2=gD {o with Seq:=n} p b r g x:=fI rfl rfl
def aMW(n:Int):(gD o p b r g x).take 2++[iv n]++(gD o p b r g x).drop 3=gD {o with Kind:=n} p b r g x:=fI rfl rfl
def aMX(n:Int):(gD o p b r g x).take 3++[iv n]++(gD o p b r g x).drop 4=gD {o with At:=n} p b r g x:=fI rfl rfl
def aMY(c:AV):(gD o p b r g x).take 4++[c]++(gD o p b r g x).drop 5=gD o c b r g x:=fI rfl rfl
def aMZ(n:Int):(gD o p b r g x).take 5++[iv n]++(gD o p b r g x).drop 6=gD {o with Device:=n} p b r g x:=fI rfl rfl
def aN0(n:Int):(gD o p b r g x).take 6++[iv n]++(gD o p b r g x).drop 7=gD {o with Old:=n} p b r g x:=fI rfl rfl
def aN1(n:Int):(gD o p b r g x).take 7++[iv n]++(gD o p b r g x).drop 8=gD {o with Member:=n} p b r g x:=fI rfl rfl
def aN2(n:Int):(gD o p b r g x).take 8++[iv n]++(gD o p b r g x).drop 9=gD {o with Role:=n} p b r g x:=fI rfl rfl
def aKy(n m:Int)(c:Int):(gD o p b r g x).take 10++[iv n,iv m,.v (.int .u64 c)]++(gD o p b r g x).drop 13=gD {o with Epoch:=⟨n,m,c⟩} p b r g x:=fI rfl rfl
def aQs(y:Id):(gD o p b r g x).take 10++y.A++(gD o p b r g x).drop 13=gD {o with Epoch:=y} p b r g x:=fI rfl rfl
def aKz(n:Int):(gD o p b r g x).take 13++[iv n]++(gD o p b r g x).drop 14=gD {o with N:=n} p b r g x:=fI rfl rfl
def aKA(c:AV):(gD o p b r g x).take 14++[c]++(gD o p b r g x).drop 15=gD o p c r g x:=fI rfl rfl
def aKB(c:AV):(gD o p b r g x).take 15++[c]++(gD o p b r g x).drop 16=gD o p b c g x:=fI rfl rfl
def aKC(n m:Int)(c:Int):(gD o p b r g x).take 16++[iv n,iv m,.v (.int .u64 c)]++(gD o p b r g x).drop 19=gD {o with Of:=⟨n,m,c⟩} p b r g x:=fI rfl rfl
def aJ8(y:Id):(gD o p b r g x).take 16++y.A++(gD o p b r g x).drop 19=gD {o with Of:=y} p b r g x:=fI rfl rfl
def aKD(c:AV):(gD o p b r g x).take 19++[c]++(gD o p b r g x).drop 20=gD o p b r c x:=fI rfl rfl
def aKE(n:Int):(gD o p b r g x).take 20++[iv n]++(gD o p b r g x).drop 21=gD {o with Need:=n} p b r g x:=fI rfl rfl
def aKF(n:Int):(gD o p b r g x).take 21++[iv n]++(gD o p b r g x).drop 22=gD {o with Wait:=n} p b r g x:=fI rfl rfl
def aKG(c:AV):(gD o p b r g x).take 22++[c]++(gD o p b r g x).drop 23=gD o p b r g c:=fI rfl rfl
def aJ9:(gD o p b r g x).take 23++[.v (.int .u64 5)]++(gD o p b r g x).drop 24=gD {o with Pub:=5} p b r g x:=fI rfl rfl
def aQV(n:Nat):(gD o p b r g x).take 23++[uv n]++(gD o p b r g x).drop 24=gD {o with Pub:=n} p b r g x:=fI rfl rfl
attribute [go_sem] aQ6 aKx aS7 aMV aMW aMX aMY aMZ aN0 aN1 aN2 aKy aQs aKz aKA aKB aKC aJ8 aKD aKE aKF aKG aJ9 aQV
end
section
variable{o:OpM}(h:o.ok)
include h
def OpM.ok.by(n:Int)(a:mZ n):OpM.ok {o with By:=n}:=r_
def OpM.ok.seq(n:Int)(a:mZ n):OpM.ok {o with Seq:=n}:=r_
def OpM.ok.kind(n:Int)(a:mZ n):OpM.ok {o with Kind:=n}:=r_
def OpM.ok.at_(n:Int)(a:mZ n):OpM.ok {o with At:=n}:=r_
def OpM.ok.dev(n:Int)(a:mZ n):OpM.ok {o with Device:=n}:=r_
def OpM.ok.old(n:Int)(a:mZ n):OpM.ok {o with Old:=n}:=r_
def OpM.ok.mem(n:Int)(a:mZ n):OpM.ok {o with Member:=n}:=r_
def OpM.ok.role(n:Int)(a:mZ n):OpM.ok {o with Role:=n}:=r_
def OpM.ok.n_(n:Int)(a:mZ n):OpM.ok {o with N:=n}:=r_
def OpM.ok.need(n:Int)(a:mZ n):OpM.ok {o with Need:=n}:=r_
def OpM.ok.wait(n:Int)(a:mZ n):OpM.ok {o with Wait:=n}:=r_
def OpM.ok.pub(n:Nat)(a:n<2^64):OpM.ok {o with Pub:=n}:=by have b:=h.nums;refine⟨h.ints,?_,h.epoch,h.of,h.past,h.path,h.body,h.refs,h.guards,h.boxes,h.hist⟩;simp_all
def OpM.ok.of_(y:Id)(a:y.ok):OpM.ok {o with Of:=y}:=⟨h.ints,h.nums,h.epoch,a,h.past,h.path,h.body,h.refs,h.guards,h.boxes,h.hist⟩
def OpM.ok.ep(y:Id)(a:y.ok):OpM.ok {o with Epoch:=y}:=⟨h.ints,h.nums,a,h.of,h.past,h.path,h.body,h.refs,h.guards,h.boxes,h.hist⟩
end
def opR(o:OpM)(p:D_)(b r:V_)(g:B_)(x:List BoxM):OpM:={o with Past:=p,Path:=[],Body:=b,Refs:=r,Guards:=g,Boxes:=x,Hist:=[]}
def aEu{o:OpM}(h:o.ok){p:D_}{b r:V_}{g:B_}{x:List BoxM}(h1:p.length<=1000/\∀y∈p,y.ok)(h2:b.length<=1000/\xN b)(h3:r.length<=1000/\∀y∈r,y<2^64)(c:g.length<=1000/\∀y∈g,mZ y)(a:x.length<=1000/\∀y∈x,y.ok):(opR o p b r g x).ok :=
 ⟨h.ints,h.nums,h.epoch,h.of,h1,⟨by simp[opR],by simp[opR]⟩,h2,h3,c,a,⟨by simp[opR],by simp[opR]⟩⟩
def JS(n:Nat)(c:n<=1000):(BO n).length<=1000/\∀y∈BO n,y.ok:=by refine⟨by simp[BO];omega,λy a=>?_⟩;obtain⟨i,b,rfl⟩:=dF.1 a;rw[uM]at b;exact⟨(d_:(1:Nat)<_),(d_:(1:Nat)<_),(o_:i<_),(d_:(1:Nat)<_)⟩
def ZU(z:Int):mZ (z.tmod 3):=by have:(z.tmod 3).natAbs=z.natAbs%3:=Int.natAbs_tmod z 3;constructor<;>omega
def P9{o:OpM}(h:jB o=0):(∀d∈o.Guards,1<=d/\d<=12)/\(o.Kind=9->o.Guards≠[]):=by
 unfold jB at h;split at h;simp at h;split at h;simp at h;split at h;simp at h;rename_i g;have a:fP o=true/\uA o=true:=by cases e:fP o<;>cases i:uA o<;>simp_all
 constructor;intro d f;have h2:=a.2;unfold uA at h2;rw[zJ]at h2;have:=oD.1 h2.1 d f;simpa[yS,oI]using this;intro c b;have h1:=a.1;unfold fP oI at h1;simp[c,b]at h1;omega
def GdR(r:AV)(T:aK):Prop:=∃(a:OpM)(gs:B_)(bs:List BoxM),a.ok/\0<=a.By/\(gs.length<=1000/\∀x∈gs,mZ x)/\(bs.length<=1000/\∀y∈bs,y.ok) /\
 ((r=.ag (gD a dK dK dK (.own 0) (F5 bs))/\T=[some (.arr 1 (gs.map λn=>[iv n]))])\/(r=.ag (gD a dK dK dK dK (F5 bs))/\gs=[]/\T=[])\/(r=.ag (gD a dK dK dK dK dK)/\gs=[]/\bs=[]/\T=[]))
def Xh (g:GM) (M:g.ok) (D:∀o∈g.L,jB o=0) (F:∀x∈g.I,0<=x.a) (N:∀c∈g.Cards,0<=c.Member) (X:D_) (hX:X.length<=maxLen) (o:OpM) (P:o.ok) (Q:0<=o.By) (n:Nat) (hn:n<1000000):
 aA PQ G zW [.ag g.A,ids X,.ag (gD o dK dK dK dK dK),iv n] [] GdR:=by
 apply aC Lk;rw[L9,bC];refine cB (λs=>s=⟨0,[(8,.ptr 2 0),(6,.ptr 1 0),(4,.ptr 0 0),(1,ids X),(3,iv n)],[some (.box g.A),some (.box (gD o dK dK dK dK dK)),some (.box (C4 0))]⟩) ?_ ?_;rfl;rintro s rfl;rw[bC];refine cB (λs=>∃(x:Id)(H:O_),x.ok/\((x=⟨0,0,0⟩/\H=C4 0)\/∃(i:Nat)(h1:i<g.I.length)(h2:i<g.L.length),g.L[i].Kind=9/\x=g.I[i]/\H=g.L[i].A)/\s=⟨0,[(10,.ptr 4 0),(9,.ptr 3 0),(8,.ptr 2 0),(6,.ptr 1 0),(4,.ptr 0 0),(3,iv n)],[some (.box g.A),some (.box (gD o dK dK dK dK dK)),some (.box (C4 0)),some (.box x.A),some (.box H)]⟩) ?_ ?_;simp only[go_sem];apply Jo (PB g M X hX 9);rintro r T' ⟨hr,rfl⟩;rcases hr with⟨i,h1,h2,h,C,rfl⟩|rfl;simp only[go_sem,C4];exact⟨_,_,M.is _ (eQ h1),.inr ⟨i,h1,h2,h,rfl,rfl⟩,rfl⟩;simp only[go_sem,P1,C4];exact⟨⟨0,0,0⟩,_,id0,.inl ⟨rfl,rfl⟩,rfl⟩;rintro s ⟨x,H,hx,w,rfl⟩;rw[bC];refine cB (λs=>∃(f:OpM),f.ok/\0<=f.By/\(f.Kind=9\/∃(i:Nat)(h1:i<g.I.length)(h2:i<g.L.length),g.L[i].Kind=9/\x=g.I[i]/\H=g.L[i].A)/\s=⟨0,[(10,.ptr 4 0),(9,.ptr 3 0),(8,.ptr 2 0),(6,.ptr 1 0),(4,.ptr 0 0),(3,iv n)],[some (.box g.A),some (.box (gD f dK dK dK dK dK)),some (.box (C4 0)),some (.box x.A),some (.box H)]⟩) ?_ ?_;clear D M hX F N;cases h:o.Kind !=9;simp only[go_sem,h,undef];grind;cases T:(x.a==0&&(x.b==0&&x.c==0));simp only[go_sem,h,T,Id.A_def];grind;simp only[go_sem,h,T,Id.A_def];exact⟨_,P.kind 9 ⟨d_,d_⟩,Q,.inl rfl,rfl⟩;clear P Q w;rintro s ⟨f,P,Q,w,rfl⟩;clear o;rw[bC];refine cB (λs=>f.Kind≠9/\s=⟨0,[(10,.ptr 4 0),(9,.ptr 3 0),(8,.ptr 2 0),(6,.ptr 1 0),(4,.ptr 0 0),(3,iv n)],[some (.box g.A),some (.box (gD f dK dK dK dK dK)),some (.box (C4 0)),some (.box x.A),some (.box H)]⟩) ?_ ?_;cases h:f.Kind==9;simp only[go_sem,h];simp_all;clear D M hX w F N;simp only[go_sem,h];refine cO (λm s=>∃(d:Nat)(l:B_)(c:AV)(Y:aK),m=5-d/\1<=d/\d<=5/\l.length<d/\(∀x∈l,mZ x)/\((l=[]/\c=dK/\Y=[some (.box (C4 0))])\/(c=.own 2/\l≠[]/\Y=[some (.box (C4 0)),some (.arr 1 (l.map λn=>[iv n]))]))/\s=⟨0,[(3,iv n),(6,.ptr 0 0),(8,.ptr 1 0),(11,iv d)],some (.box (gD f dK dK dK c dK))::Y⟩) 4 ⟨1,[],_,_,rfl,d_,d_,d_,s_,.inl ⟨rfl,rfl,rfl⟩,i_⟩ ?_;rintro m s ⟨d,l,c,Y,rfl,hd1,an,hl,K,hc,rfl⟩;have R:=fQ d o_;have S:¬(d:Int)=0:=o_;have V:IntKind.i64.wrap ((n:Int).tdiv (d:Int))=((n/d:Nat):Int):=by
  have e:(n:Int).tdiv (d:Int)=((n/d:Nat):Int):=rfl;have:n/d<=n:=Ml _ _;generalize n/d=q at *
  rw[e,aJ o_ o_]
 have C:((n/d:Nat):Int).tmod 2=((n/d%2:Nat):Int):=rfl;by_cases h4:d<=4;have c4:decide ((d:Int)<=4)=true:=decide_eq_true o_;have am:mZ (d:Int):=⟨o_,o_⟩
 have ac:1<=maxLen:=d_;cases E:((n/d%2:Nat):Int)==0;rcases hc with⟨rfl,rfl,rfl⟩|⟨rfl,B,rfl⟩
 simp only[go_sem,c4,S,V,C,E,R];exact⟨5-(d+1),o_,d+1,[],_,_,rfl,o_,o_,s_,K,.inl ⟨rfl,rfl,rfl⟩,rfl⟩;simp only[go_sem,c4,S,V,C,E,R];exact⟨5-(d+1),o_,d+1,l,_,_,rfl,o_,o_,o_,K,.inr ⟨rfl,B,rfl⟩,rfl⟩;rcases hc with⟨rfl,rfl,rfl⟩|⟨rfl,B,rfl⟩
 simp only[go_sem,c4,S,V,C,E,R,ac];exact⟨5-(d+1),o_,d+1,[(d:Int)],_,_,rfl,o_,o_,c_,by simpa using am,.inr ⟨rfl,s_,rfl⟩,rfl⟩;simp only[go_sem,c4,S,V,C,E,R,aP,(o_:(l.length+1)*8<=140737488355328),(g_:l.length+1<=maxLen)];rw[(s_:(List.map (λn=>[iv n]) l++[[AV.v (Value.int IntKind.i64 (d:Int))]])=List.map (λn=>[iv n]) (l++[(d:Int)]))];refine⟨5-(d+1),o_,d+1,l++[(d:Int)],_,_,rfl,o_,o_,c_,?_,.inr ⟨rfl,s_,rfl⟩,rfl⟩;grind;obtain rfl:d=5:=o_;have c4:decide (((5:Nat):Int)<=4)=false:=rfl;clear R S V C hd1 an h4;rcases hc with⟨rfl,rfl,rfl⟩|⟨rfl,B,rfl⟩
 simp only[go_sem];apply cX (JR 2 d_);simp only[go_sem,C4];exact⟨_,[1,2],BO 2,((P.need _ (lH _)).wait _ (ZU _)).pub 5 d_,Q,⟨s_,by simp[mZ]⟩,JS 2 d_,.inl ⟨rfl,rfl⟩⟩;have af:((l.length:Int)==0)=false:=h_;obtain⟨k,ar,aq,ek⟩:∃k:Nat,1<=k/\k<=2/\(if(l.length:Int)<2 then(l.length:Int) else 2)=(k:Int):=⟨min 2 l.length,by have:=H3.2 B;omega,o_,ax⟩
 have ai:((k:Int)=0)=False:=c_;simp only[go_sem,aP,af,ek,ai];apply cX (JR l.length o_);simp only[go_sem,C4];exact⟨_,l,BO l.length,((P.need _ (lH _)).wait _ (ZU _)).pub 5 d_,Q,⟨o_,K⟩,JS _ o_,.inl ⟨rfl,rfl⟩⟩;rintro s ⟨ah,rfl⟩;obtain⟨i,h1,h2,Z,rfl,rfl⟩:=w.resolve_left ah;have O:=P9 (D _ (eQ h2));have aj:=O.2 Z;have al:=O.1;have ad:=F _ (eQ h1);have ae:=M.ops _ (eQ h2);generalize g.I[i]=x at *
 generalize g.L[i]=q at *
 clear D F w O Z h1 h2 i X hX;have J:mZ (VB g.Cards x.a)/\0<=VB g.Cards x.a:=by
  have ao:=M.cs;unfold VB gM
  cases e:g.Cards.find? (λc=>c.Device==x.a) with
  |none=>simp;exact⟨d_,d_⟩|some c=>
   have C:=Mg e;exact⟨(ao c C).2.1,N c C⟩
 have z:=XP (G:=G) g x.a M;generalize VB g.Cards x.a=mm at *
 have ak:0<q.Guards.length:=H3.2 aj;have ab:q.Guards.length<=1000:=ae.guards.1;have W:n%q.Guards.length<q.Guards.length:=zM _ ak;have em:(n:Int).tmod (q.Guards.length:Int)=((n%q.Guards.length:Nat):Int):=rfl;have aa:((q.Guards.length:Int)=0)=False:=c_;have gq:(q.Guards.map λn=>[iv n])[n%q.Guards.length]?=some [iv q.Guards[n%q.Guards.length]]:=aO _ _ _ W;have ap:=al _ (eQ W);generalize au:q.Guards[n%q.Guards.length]=gd at *
 have U:mZ gd:=⟨o_,o_⟩
 have y:=P.of_ x hx;rcases(o_:f.Kind=10\/f.Kind=11\/f.Kind=12\/f.Kind=13\/(f.Kind≠10/\f.Kind≠11/\f.Kind≠12/\f.Kind≠13)) with h|h|h|h|h;have u:(f.Kind==10)=true:=oe;have t:(f.Kind==11)=false:=oe;have p:(f.Kind==12)=false:=oe;have j:(f.Kind==13)=false:=oe;simp only[go_sem,Id.A_def];apply cX z;simp only[go_sem,u,undef,aP];apply cX (JR q.Guards.length ab);simp only[go_sem,t,p,j,undef,C4];exact⟨_,[],BO q.Guards.length,y.by _ hx.1,ad,⟨s_,s_⟩,JS _ ab,.inr (.inl ⟨rfl,rfl,rfl⟩)⟩;have u:(f.Kind==10)=false:=oe;have t:(f.Kind==11)=true:=oe;have p:(f.Kind==12)=false:=oe;have j:(f.Kind==13)=false:=oe;simp only[go_sem,Id.A_def];apply cX z;simp only[go_sem,u,t,undef,aP,em,aa,gq];apply cX (JR 1 d_);simp only[go_sem,p,j,undef,C4];exact⟨_,[],BO 1,(y.by _ U).dev _ (lH _),by show 0<=gd;omega,⟨s_,s_⟩,JS _ d_,.inr (.inl ⟨rfl,rfl,rfl⟩)⟩;have u:(f.Kind==10)=false:=oe;have t:(f.Kind==11)=false:=oe;have p:(f.Kind==12)=true:=oe;have j:(f.Kind==13)=false:=oe;simp only[go_sem,Id.A_def];apply cX z;simp only[go_sem,u,t,p,j,undef];exact⟨_,[],[],y.by _ J.1,J.2,⟨s_,s_⟩,⟨s_,s_⟩,.inr (.inr ⟨rfl,rfl,rfl,rfl⟩)⟩;have u:(f.Kind==10)=false:=oe;have t:(f.Kind==11)=false:=oe;have p:(f.Kind==12)=false:=oe;have j:(f.Kind==13)=true:=oe;simp only[go_sem,Id.A_def];apply cX z;simp only[go_sem,u,t,p,j,undef,aP,em,aa,gq];exact⟨_,[],[],((y.by _ U).dev _ (lH _)).old _ J.1,by show 0<=gd;omega,⟨s_,s_⟩,⟨s_,s_⟩,.inr (.inr ⟨rfl,rfl,rfl,rfl⟩)⟩;have u:(f.Kind==10)=false:=by simpa using h.1
 have t:(f.Kind==11)=false:=by simpa using h.2.1
 have p:(f.Kind==12)=false:=by simpa using h.2.2.1
 have j:(f.Kind==13)=false:=by simpa using h.2.2.2
 simp only[go_sem,Id.A_def];apply cX z;simp only[go_sem,u,t,p,j,undef];exact⟨_,[],[],y,Q,⟨s_,s_⟩,⟨s_,s_⟩,.inr (.inr ⟨rfl,rfl,rfl,rfl⟩)⟩
def Ma{k:Nat}(l:N_)(h:zF l l=true):fH (.ls k l) (.ls k l)=true:=by simp[fH,h]
def VS(l:B_):fH (rG l) (rG l)=true:=by
 apply Ma _
 induction l with
 |nil=>rfl|cons x l ih=>simp only[fG,zF,pL,fH,O9,beq_self_eq_true,yH,ih]
def PD(l:List BoxM):fH (F5 l) (F5 l)=true:=by
 apply Ma _
 induction l with
 |nil=>rfl|cons x l ih=>simp only[fG,zF,BoxM.A,pL,fH,O9,beq_self_eq_true,yH,ih]
def S6(k:Nat):fH dK (.ls k [])=true:=rfl
def S7:fH dK dK=true:=rfl
def aEv{o:OpM}{p b r g x p' b' c d a:AV}(h:fH p p'=true)(j:fH b b'=true)(f:fH r c=true)(i:fH g d=true)(e:fH x a=true):fH (.ag (gD o p b r g x)) (.ag (gD o p' b' c d a))=true:=by simp_all[gD,fH,pL,O9]
def aBg(g:GM)(l:g.ok)(h:∀o∈g.L,jB o=0)(i:∀x∈g.I,0<=x.a)(f:∀c∈g.Cards,0<=c.Member)(X:D_)(q:X.length<=maxLen)(o:OpM)(j:o.ok)(m:0<=o.By)(n:Nat)(k:n<1000000):
 aA PQ G zW [.ag g.A,ids X,.ag (gD o dK dK dK dK dK),iv n] [] λr T=>(∃(b:OpM)(gs:B_)(bs:List BoxM),b.ok/\0<=b.By/\(gs.length<=1000/\∀x∈gs,mZ x)/\(bs.length<=1000/\∀y∈bs,y.ok)/\r=.ag (gD b dK dK dK (rG gs) (F5 bs)))/\T=[]:=by
 refine aA.dsub (p:=λr T=>(∃(b:OpM)(gs:B_)(bs:List BoxM)(c d:AV),b.ok/\0<=b.By/\(gs.length<=1000/\∀x∈gs,mZ x)/\(bs.length<=1000/\∀y∈bs,y.ok)/\fH c (rG gs)=true/\fH d (F5 bs)=true/\r=.ag (gD b dK dK dK c d))/\T=[]) ((Xh g l h i f X q o j m n k).fin [0] ?_) ?_;rintro r u ⟨b,gs,bs,h1,h2,h3,e,⟨rfl,rfl⟩|⟨rfl,rfl,rfl⟩|⟨rfl,rfl,rfl,rfl⟩⟩;simp only[go_sem,gQ];exact⟨b,gs,bs,_,_,h1,h2,h3,e,VS _,PD _,rfl⟩;simp only[go_sem,gQ,List.getElem?_nil];exact⟨b,[],bs,_,_,h1,h2,h3,e,S6 _,PD _,rfl⟩;simp only[go_sem,gQ,List.getElem?_nil];exact⟨b,[],[],_,_,h1,h2,h3,e,S6 _,S6 _,rfl⟩;rintro r u ⟨⟨b,gs,bs,c,d,h1,h2,h3,e,t,s,rfl⟩,rfl⟩;exact⟨_,aEv S7 S7 S7 t s,⟨b,gs,bs,h1,h2,h3,e,rfl⟩,rfl⟩
def qC(V:D_)(bs:V_)(cl:Nat):AObj:=.map true (V.map Id.K) (V.map λ_=>.v (.bool true)) bs cl
structure LAt(T:aK)(l v f:Nat)(p:Nat×Nat×Nat)(row V F:List Id):Prop where
 box:T[l]?=some (some (.box [.ptr p.1 0,ids row,.mp v,.mp f]))
 vo:∃bs cl,T[v]?=some (some (qC V bs cl))/\Bs V.length bs cl
 fo:∃bs cl,T[f]?=some (some (qC F bs cl))/\Bs F.length bs cl
 ne:l≠v/\l≠f/\v≠f/\v≠p.1/\v≠p.2.1/\v≠p.2.2
def iS(g:PGM)(V:D_)(out:D_)(x:Id):D_:=if x∉V/\mT (Lo g out x) (g.nd x).o=0 then out++[x] else out
def mW(g:PGM)(V row:D_):D_:=row.foldl (iS g V) []
def S9{g:PGM}{V out:D_}{x:Id}:(iS g V out x).Sublist (out++[x]):=by grind[iS]
theorem Aa{g:PGM}{V:D_}:∀(row out:D_),(row.foldl (iS g V) out).Sublist (out++row)|[],out=>by simp|x::row,out=>by refine(Aa row _).trans ?_;have:=(S9 (g:=g) (V:=V) (out:=out) (x:=x)).append_right row;simpa using this
def RV{g:PGM}(c:GGood g){a:D_}(d:∀x∈a,x∈g.I)(e:a.Nodup)(x:Id):RGood a.reverse g.cards (Lo g a x):=by have:=B6 c (a.filter λy=>oH g y x) (RGood.new (D:=[]) c.cards) (λy b=>d y (gR.1 b).1) (by rw[jO];exact e.sublist List.filter_sublist);refine this.mono λy b=>?_;simp_all
def TB{L:aK}{n:Nat}{a:Option AObj}(h:L.length=n):(L++[a])[n]?=some a:=by subst h;simp
section
variable{T:aK}{p:Nat×Nat×Nat}{g:PGM}{l v f:Nat}{row V F:D_}
def LAt.app{X:aK}(h:LAt T l v f p row V F):LAt (T++X) l v f p row V F :=
 ⟨aF h.box,let⟨b,c,x,y⟩:=h.vo;⟨b,c,aF x,y⟩,let⟨b,c,x,y⟩:=h.fo;⟨b,c,aF x,y⟩,h.ne⟩
def Xr (hK:AK G) (h:GAt T p g) (u:GGood g) (hl:LAt T l v f p row V F) (O:∀x∈row,x∈g.I) (hn:row.Nodup):
 aA PQ G nJ [.ptr l 0] T λy T'=>y=ids (mW g V row)/\T'=T:=by
 refine(aA.keepLs (q:=λk es=>k=3/\es=(mW g V row).map Id.A) (fT Gg ?_)).mono ?_;rotate_left;simp;have L:=λX:aK=>aF (X:=X) hl.box;simp only[go_sem,L,ids,aP];have ab:row.length<=200:=by have:=List.Nodup.length_le_of_subset hn O;have h2:=u.ok.n;grind[PGM.I,List.length_map]
 obtain⟨bs,cl,hv,ah⟩:=hl.vo;have av:=λX:aK=>aF (X:=X) hv;unfold qC at av
 refine kL (λn st=>∃i,i<=row.length/\n=row.length-i/\∃(X:aK)(k:Nat),X[k]?=some (some (.arr 3 (((row.take i).foldl (iS g V) []).map Id.A))) /\
  ∃S,(S=[(13,iv i),(12,iv row.length),(11,ids row),(3,.own (T.length+k)),(0,.ptr l 0)]\/S=[(13,iv i),(3,.own (T.length+k)),(12,iv row.length),(11,ids row),(0,.ptr l 0)])/\st=⟨T.length,S,T++X⟩) row.length ⟨0,pR _,rfl,_,0,rfl,_,.inl rfl,rfl⟩ ?_
 rintro n st ⟨i,hi,ad,X,k,M,S,hS,rfl⟩;rcases eD i row.length with r|af;rotate_left
 ·obtain rfl:i=row.length:=o_;rw[dE]at M;rcases hS with rfl|rfl
  all_goals simp only[go_sem,aS (bP _)]
  all_goals exact⟨aH,_,3,_,rfl,o_,by rw[aZ];exact M,rfl,rfl⟩
 have N:=fQ i o_;have E:=O _ (eQ r);have g0:(row.map Id.A)[i]?=some row[i].A:=aO _ row i r;have w:(row.take (i+1)).foldl (iS g V) []=iS g V ((row.take i).foldl (iS g V) []) row[i]:=by rw[lB r,Hy];rfl
 have t:((row.take i).foldl (iS g V) []).Sublist (row.take i):=by grind[Aa]
 generalize aa:(row.take i).foldl (iS g V) []=out at *
 have B:∀x∈out,x∈g.I:=λx hx=>O x (C8 (t.subset hx));have C:out.Nodup:=(hn.sublist (List.take_sublist _ _)).sublist t;have ac:out.length<=200:=m_;have U:=RV u B C row[i];have cE:=λX=>S5 (G:=G) (h.app (X:=X)) u.ok row[i] E;have P:=u.op E;have d:eR [.int .i64,.int .i64,.int .u64] [.int .i64 row[i].a,.int .i64 row[i].b,.int .u64 row[i].c] (V.map Id.K) 0=some ((V.findIdx? λy=>decide (y=row[i])).map (· + 0)):=qH row[i] V 0;generalize row[i]=z at *
 have m:=λY:aK=>aF (X:=Y) M;have H:=λZ:aK=>aIC (G:=G) (T:=T++(X++Z)) h.app u (L _) (T.length+k) out (by rw[aZ];exact m _) B C z;have R:out.length+1<=maxLen:=g_;have Q:(out.length+1)*24<=140737488355328:=o_;rcases hS with rfl|rfl
 all_goals simp only[go_sem,aT r,g0,ids,aZ,cP,fF,iR,sW,L,Id.A_def,eB,jC,dM,Nat.reduceAdd]
 all_goals refine⟨?_,?_⟩
 all_goals refine jA (cE _) ?_
 all_goals rintro y T' ⟨rfl,eT⟩
 all_goals obtain rfl:=eT.symm
 all_goals simp only[go_sem,aZ,cP,fF,oX,sW,yG,L,eB,jC,dM,Nat.reduceAdd]
 all_goals by_cases hz:z∈V
 iterate 4
  obtain⟨j,e1,lj,_⟩:=dG hz
  rw[e1]at d
  simp only[iX,mG]at d
  have gv:(V.map λ_=>AV.v (.bool true))[j]?=some (.v (.bool true)):=h_
  have ae:=AL z
  have e:iS g V out z=out:=by grind[iS]
  rw[e]at w
  simp only[go_sem,av,d,gv,undef,N]
  exact⟨row.length-(i+1),o_,i+1,o_,rfl,_,k,by rw[w];exact m _,_,oo,rfl⟩
  rw[eG hz]at d
  simp only[xD]at d
  simp only[go_sem,aZ,fF,oX,sW,jC,dM,Nat.reduceAdd,av,d]
  apply jA (H _)
  rintro y T' ⟨s,rfl,hA⟩
  obtain⟨X2,J⟩:=hA.ext
  have W:=hA.at'
  simp only[eB,jC,dM]at J
  subst J
  have D:=O8 (G:=G) hK W U u.cards (g.nd z).o z (by have:=P.1.gl;omega)
  simp only[go_sem,aZ,fF,oX,sW,jC,dM,Nat.reduceAdd]
  apply cI D
  cases hm:(mT (Lo g out z) (g.nd z).o==0)
  have e:iS g V out z=out:=by grind[iS]
  rw[e]at w
  simp only[go_sem,hm,N]
  exact⟨row.length-(i+1),o_,i+1,o_,rfl,_,k,by rw[w];exact m _,_,oo,rfl⟩
  have e:iS g V out z=out++[z]:=by grind[iS]
  rw[e]at w
  simp only[go_sem,aZ,cP,fF,oX,sW,eB,jC,dM,sY,Nat.reduceAdd,hm,N,m,aP,R,Q]
  refine⟨row.length-(i+1),o_,i+1,o_,rfl,_,X.length+(X2.length+3),?_,_,.inr rfl,rfl⟩
  rw[w,bZ]
  exact TB k0
end
end Hud
