import Derived.Test.YtlhonkjgkfdnmaaGreatDoorLib34
set_option linter.all false
set_option maxHeartbeats 40000000
namespace Hud
open Go
variable{G:L_}
def D8 {α:Type} {a:V_}:∀{L:List (α×Nat)}{p:α×Nat},(L.map (·.2)).Nodup->p∈L->p.2∉a ->
 (L.filter λq=>decide (q.2∈a++[p.2])).Perm (p::L.filter λq=>decide (q.2∈a))
 | q::L,p,d,b,g=>by
  rw[fG,BU]at d;rcases cS.1 b with rfl|b;have e:(L.filter λq=>decide (q.2∈a++[p.2]))=L.filter λq=>decide (q.2∈a):=by refine List.filter_congr λq i=>?_;grind
  simp_all;have c:q.2≠p.2:=λh=>d.1 (by rw[h];exact List.mem_map_of_mem (f:=(·.2)) b);have ih:=D8 d.2 b g;rw[List.filter_cons,List.filter_cons];have e:decide (q.2∈a++[p.2])=decide (q.2∈a):=by simp[c]
  rw[e];cases decide (q.2∈a);simpa using ih;simp only[if_true];exact(ih.cons q).trans (List.Perm.swap _ _ _)
section
variable{T:aK}{s:RP}{r:RM}
def aHb(T:aK)(l:B_)(r:AV)(T':aK):Prop:=T'.take T.length=T/\∃(k:Nat)(out:B_),out.Perm l/\r=.own k/\T.length<=k/\T'[k]?=some (some (.arr 1 (out.map λn=>[iv n])))
def VK {i b:Nat} {l:B_} {bs:V_} {c:Nat} (hi:T[i]?=some (some (tK l bs c))) (O:T[b]?=some (some (.box [.mp i]))) (f:Bs l.length bs c) (hl:l.length<=1000):
 aA PQ G kP [.v (.slice none 0 0),.cl bT [.ptr b 0]] T (aHb T l):=by
 apply fT vT;unfold tK at hi;simp only[go_sem,aD,cU,eB,jC,dM];refine NX rfl (vZ jV) λr k1 k2 H F=>?_;simp only[go_sem,eB,jC,dM];refine F4 (post:=λ_ T'=>∃(X:aK)(k:Nat)(out:B_),T'=T++X/\out.Perm l/\X[0]?=some (some (.box [.own (T.length+k)]))/\X[k]?=some (some (.arr 1 (out.map λn=>[iv n])))/\X[2]?=some (some (.lp r [(2,.ptr T.length 0)]))) (aB _) (fT jV ?_) ?_;have Q:=λX:aK=>aF (X:=X) hi;have a2:=λX:aK=>aF (X:=X) O;simp only[go_sem,Q,a2,eB,jC,dM]
 refine kL (λn st=>∃(a:V_)(out:B_),a.Nodup/\(∀b∈a,b∈bs)/\n=bs.length-a.length/\out.Perm (((l.zip bs).filter λq=>decide (q.2∈a)).map (·.1)) /\
  ∃(X:aK)(k:Nat),X[0]?=some (some (.box [.own (T.length+k)]))/\X[k]?=some (some (.arr 1 (out.map λn=>[iv n])))/\X[2]?=some (some (.lp r [(2,.ptr T.length 0)]))/\X[3]?=some (some (.mit (some i) c a c)) /\
   st=⟨T.length+3,[(5,.ptr (T.length+3) 0),(0,.yl (T.length+2))],T++X⟩) bs.length ⟨[],[],s_,s_,rfl,s_,_,1,rfl,rfl,rfl,rfl,rfl⟩ ?_
 rintro n st ⟨a,out,J,m,hn,hJ,X,k,V,S,u,U,rfl⟩;simp only[go_sem];refine VD (i:=T.length+3) (j:=i) (kU (by rw[aZ];exact U)) (kU (Q _)) (cN _) f.lt (by simp[f.len]) (by simp[f.len]) (λs=>?_) λe he p=>?_;simp only[go_sem];refine⟨X,k,out,rfl,hJ.trans (.of_eq ?_),V,S,u⟩;have e1:(l.zip bs).map (·.1)=l:=by rw[List.map_fst_zip];have:=f.len;omega
 conv=>rhs;rw[<-e1]
 refine congrArg _ (Gm.2 λq hq=>?_);have:q.2∈a:=s _ (List.of_mem_zip (show(q.1,q.2)∈l.zip bs from hq)).2;simp[this];have ad:e<l.length:=by have:=f.len;omega
 have N:=VE f.nd he;have gk:(l.map iK)[e]?=some (iK l[e]):=s_;have gv:(l.map λ_=>AV.v (.bool true))[e]?=some (.v (.bool true)):=t_;have ac:3≠k:=f_;have L:2≠k:=f_;have M:0≠k:=f_;have R:(X.set 3 (some (.mit (some i) c (a++[bs[e]]) c)))[3]?=some (some (.mit (some i) c (a++[bs[e]]) c)):=dS U;have t:(X.set 3 (some (.mit (some i) c (a++[bs[e]]) c)))[2]?=some (some (.lp r [(2,.ptr T.length 0)])):=t_;have y0:(X.set 3 (some (.mit (some i) c (a++[bs[e]]) c)))[0]?=some (some (.box [.own (T.length+k)])):=t_;have yk:(X.set 3 (some (.mit (some i) c (a++[bs[e]]) c)))[k]?=some (some (.arr 1 (out.map λn=>[iv n]))):=t_;generalize hY:X.set 3 (some (.mit (some i) c (a++[bs[e]]) c))=Y at y0 t R yk;simp only[go_sem,aZ,cP,hY,R,Q,Ke,N,gk,gv,iY];apply F _ _ _ _ _ (kU (by rw[aZ];exact t)) rfl;have w0:(Y.set 2 none)[0]?=some (some (.box [.own (T.length+k)])):=t_;have z:(Y.set 2 none)[k]?=some (some (.arr 1 (out.map λn=>[iv n]))):=t_;have ol:out.length+1<=maxLen/\(out.length+1)*8<=140737488355328:=G_;have d:(a++[bs[e]]).Nodup/\(∀b∈a++[bs[e]],b∈bs)/\bs.length-(a++[bs[e]]).length<n:=by
  have K:(a++[bs[e]]).Nodup:=vQ.2 ⟨J,s_,λx hx y H e'=>p (by rw[cA]at H;rw[<-H,<-e'];exact hx)⟩;have d:∀b∈a++[bs[e]],b∈bs:=λb f=>(cG.1 f).elim (m b) λh=>ky;have aa:=List.Nodup.length_le_of_subset K d;simp_all;omega
 have I:(out++[l[e]]).Perm (((l.zip bs).filter λq=>decide (q.2∈a++[bs[e]])).map (·.1)):=by
  have D:(l[e],bs[e])∈l.zip bs:=by grind[List.mem_iff_getElem,List.length_zip]
  have E:(l.zip bs).map (·.2)=bs:=by rw[List.map_snd_zip];have:=f.len;omega
  have:=(D8 (by rw[E];exact f.nd) D p).map (·.1);grind
 have z2:(Y.set 2 none)[3]?=some (some (.mit (some i) c (a++[bs[e]]) c)):=t_;have g:(Y.set 2 none).length=Y.length:=cL;have P:=dB t;have s2:(Y.set 2 none)[2]?=some none:=dS t;generalize hZ:Y.set 2 none=Z at w0 z z2 g s2;rw[<-g]at P;have w:=λW:aK=>aF (X:=W) z;have C:=λW:aK=>aF (X:=W) w0;have ab:=dB z;have B:=λW:aK=>(aY (T:=Z++W) (o:=none) (Ne.symm M)).trans (C W);have A:=λW W':aK=>aF (X:=W') (B W);simp only[go_sem,aZ,cP,fF,iR,hZ,A,w0,aP,<-g,eB,w,ol.1,ol.2];refine⟨_,d.2.2,_,out++[l[e]],d.1,d.2.1,rfl,I,_,Z.length+1,?_,?_,?_,?_,rfl⟩;simp;grind;grind;grind;rintro y T' ⟨X,k,out,rfl,hp,V,S,u⟩;have z0:(X.set 2 none)[0]?=some (some (.box [.own (T.length+k)])):=t_;have L:2≠k:=f_;have zk:(X.set 2 none)[k]?=some (some (.arr 1 (out.map λn=>[iv n]))):=t_;simp only[go_sem,aZ,cP,fF,u,k1,k2,aFa,z0];exact⟨aH,_,out,hp,rfl,o_,by rw[aZ];exact zk⟩
def aBd{i b:Nat}{l:B_}{bs:V_}{c:Nat}(f:T[i]?=some (some (tK l bs c)))(a:T[b]?=some (some (.box [.mp i])))(g:Bs l.length bs c)(e:l.length<=1000):
 aA PQ G qU [.cl bT [.ptr b 0]] T (aHb T l):=by
 apply fT Ck;simp only[go_sem];apply jA (VK f a g e);rintro r h d;simp only[go_sem];exact d
def aEn{i b:Nat}{l:B_}{bs:V_}{o:Nat}(v:T[i]?=some (some (tK l bs o)))(h:T[b]?=some (some (.box [.mp i])))(w:Bs l.length bs o)(A:l.length<=12)(z:∀d∈l,0<=d):
 aA PQ G sI [.cl bT [.ptr b 0]] T λr p=>(∃k m,(k=1/\m=(C0 l).map λn=>[iv n])/\r=.ls k m)/\p=T:=by
 refine aA.keepLs (fT Di ?_);simp only[go_sem];apply jA (aBd v h w o_);rintro r p ⟨s,k,out,c,rfl,j,e⟩;obtain⟨a,rfl⟩:∃a:V_,out=a.map λn:Nat=>(n:Int):=oo;have g:a.length<=12:=by have:=c.length_eq;rw[aP]at this;omega
 have u:=dB e;simp only[go_sem];refine aG (args2:=[.own 0]) (T2:=[some (.arr 1 (nl a))]) [k] (aB _) s_ c_ ?_ ?_ (aEi a g) ?_;simp only[go_sem];simp only[go_sem,e];rfl;rintro y T2 ⟨q,⟨f,t⟩,rfl⟩;simp only[go_sem];refine⟨?_,k,1,_,rfl,j,dS e,rfl,?_⟩;rw[List.take_set_of_le j];exact s;rw[VG ((f.map _).trans c) t,rI];rfl
def Fp(h:RollAt T s r)(g:r.In.length<=12)(f:∀d∈r.In,0<=d):aA PQ G sH [.ptr s.root 0] T λy a=>y=rG (C0 r.In)/\a=T:=by refine S2 D3 (λe=>by simpa only[Rp,rG]using e) ?_;obtain⟨bs,o,j,l⟩:=h.inn;have h1:=h.root;simp only[go_sem,h1];refine F4 (post:=λy a=>∃b X,y=.cl bT [.ptr b 0]/\a=T++X/\a[b]?=some (some (.box [.mp s.i]))) (aB _) (fT sS ?_) ?_;simp only[go_sem];simp;rintro y a ⟨b,X,rfl,rfl,c⟩;simp only[go_sem];apply jA (aEn (aF j) c l g f);rintro y a ⟨⟨k,n,⟨rfl,rfl⟩,rfl⟩,m⟩;obtain rfl:=m.symm;simp only[go_sem,aH]
end
def Wr.keep{T X T':aK}{s s':RP}{r b:RM}{i:Nat}{o:Option AObj}(W:Wr (T++X) s r T' s' b)(h:RollAt T s r)(a:(T++X)[T.length+i]?=some o):T'[T.length+i]?=some o:=by rw[W.same _ (dB a) λc=>absurd (h.lt c) o_];exact a
def Wr.keep0{T X T':aK}{s s':RP}{r a:RM}{o:Option AObj}(W:Wr (T++X) s r T' s' a)(h:RollAt T s r)(b:(T++X)[T.length]?=some o):T'[T.length]?=some o:=W.keep (i:=0) h b
section
variable{T T':aK}{s:RP}{r:RM}
def Xe(h:RollAt T s r){k:Nat}(b:k<r.L.length)(a:k<s.ms.length):(G1 s.ms[k] r.L[k]).Nodup:=by have:=h.nd.own k;rwa[D4 b a]at this
def RollAt.setRole(h:RollAt T s r){k:Nat}(m:k<r.L.length)(f:k<s.ms.length){role:Int}(t:T.length<=T'.length)(o:∀j,j<T.length->j≠s.ms[k].1->T'[j]?=T[j]?)
 (w:T'[s.ms[k].1]?=some (some (.box [iv role,if r.L[k].Is then .ptr s.ms[k].2.1 0 else .v (.pointer none)]))):∃p,Wr T s r T' p {r with L:=r.L.set k {r.L[k]with Role:=role} }:=by
 have n:=h.each k m f;have i:=Xe h m f;have z:G1 s.ms[k] {r.L[k]with Role:=role}=G1 s.ms[k] r.L[k]:=rfl;have y:r.L[k].Is=true->s.ms[k].2.1≠s.ms[k].1/\s.ms[k].2.2≠s.ms[k].1:=by grind[G1,List.nodup_cons]
 refine⟨_,h.setM m f (p':=s.ms[k]) (m':={r.L[k]with Role:=role}) (V':=r.V) t (λj u g=>o j u λe=>g (by rw[e];unfold G1;split<;>simp)) rfl rfl ⟨w,λe=>?_,λe=>?_⟩ (by rw[z];exact i) (λx q=>.inl q) λ_ _ _ _ _ _=>Iff.rfl⟩;replace e:r.L[k].Is=true:=e;rw[o _ (dB (n.grd e)) (y e).1];exact n.grd e;replace e:r.L[k].Is=true:=e;obtain⟨l,bs,A,a,b,c,d⟩:=n.vch e;grind
def RollAt.setGuard(h:RollAt T s r){k g v:Nat}(m:k<r.L.length)(d:k<s.ms.length){x:Id}{gs:B_}{need wait:Int}{V':List VM}(p:T.length<=T'.length)(z:∀j,j<T.length->j≠s.ms[k].1->T'[j]?=T[j]?)(E:T.length<=g)(D:T.length<=v)(q:g≠v)
 (t:T'[s.ms[k].1]?=some (some (.box [iv r.L[k].Role,.ptr g 0]))) (l:T'[g]?=some (some (.box [iv x.a,iv x.b,.v (.int .u64 x.c),rG gs,iv need,iv wait,.mp v,.v (.bool false),iv 0]))) (f:T'[v]?=some (some (.map true [] [] [] 0)))
 (u:∀j(n:j<r.L.length),j≠k->r.L[j].Is=true->∀v:VM,v.Of=r.L[j].ID->(v∈V'↔v∈r.V)) (C:∀v∈V',v.Of≠x):∃o,Wr T s r T' o {r with L:=r.L.set k ⟨r.L[k].N,r.L[k].Role,true,x,gs,need,wait,false,0⟩,V:=V'}:=by
 have A:=dB (h.each k m d).mem;refine⟨_,h.setM m d (p':=(s.ms[k].1,g,v)) (m':=⟨r.L[k].N,r.L[k].Role,true,x,gs,need,wait,false,0⟩) (V':=V') p (λj n i=>z j n λe=>i (by rw[e];unfold G1;split<;>simp)) rfl rfl ⟨t,λ_=>l,λ_=>⟨[],[],0,f,⟨rfl,s_,s_⟩,λw=>?_,s_⟩⟩ ?_ (λy B=>?_) u⟩;simp_all;simp only[G1,if_true,BU,cS,pP,or_false,not_or,Mm,and_true,not_false_eq_true];omega;grind[G1]
def RollAt.setObj(h:RollAt T s r){k:Nat}(n:k<r.L.length)(f:k<s.ms.length)(hI:r.L[k].Is=true){b:Bool}{la:Int}(v:T.length<=T'.length)(p:∀j,j<T.length->j≠s.ms[k].2.1->T'[j]?=T[j]?)
 (y:T'[s.ms[k].2.1]?=some (some (.box (CR {r.L[k]with Obj:=b,Last:=la} s.ms[k].2.2)))):∃t,Wr T s r T' t {r with L:=r.L.set k {r.L[k]with Obj:=b,Last:=la} }:=by
 have o:=h.each k n f;have g:=Xe h n f;have z:G1 s.ms[k] {r.L[k]with Obj:=b,Last:=la}=G1 s.ms[k] r.L[k]:=rfl;have q:G1 s.ms[k] r.L[k]=[s.ms[k].1,s.ms[k].2.1,s.ms[k].2.2]:=by rw[G1,if_pos hI]
 have m:=g;rw[q]at m;simp only[BU,cS,pP,or_false,not_or]at m;refine⟨_,h.setM n f (p':=s.ms[k]) (m':={r.L[k]with Obj:=b,Last:=la}) (V':=r.V) v (λj w i=>p j w λe=>i (by rw[e,q];simp)) rfl rfl ⟨?_,λ_=>y,λe=>?_⟩ (by rw[z];exact g) (λx u=>.inl u) λ_ _ _ _ _ _=>Iff.rfl⟩;rw[p _ (dB o.mem) m.1.1];exact o.mem;obtain⟨l,bs,A,a,b,c,d⟩:=o.vch hI;grind
def RollAt.setVch(h:RollAt T s r){k:Nat}(g:k<r.L.length)(a:k<s.ms.length)(hI:r.L[k].Is=true){V':List VM}(u:T.length<=T'.length)(i:∀j,j<T.length->j≠s.ms[k].2.2->T'[j]?=T[j]?)
 (t:∃l bs o,T'[s.ms[k].2.2]?=some (some (KO l bs o))/\Bs l.length bs o/\(∀v,v∈l↔v∈V'/\v.Of=r.L[k].ID)/\(l.map λv=>(v.By,v.Device)).Nodup)
 (w:∀j(m:j<r.L.length),j≠k->r.L[j].Is=true->∀v:VM,v.Of=r.L[j].ID->(v∈V'↔v∈r.V)):∃p,Wr T s r T' p {r with V:=V'}:=by
 have d:=h.each k g a;have b:=Xe h g a;have n:G1 s.ms[k] r.L[k]=[s.ms[k].1,s.ms[k].2.1,s.ms[k].2.2]:=by rw[G1,if_pos hI]
 have c:=b;rw[n]at c;simp only[BU,cS,pP,or_false,not_or]at c;have W:=h.setM g a (T':=T') (p':=s.ms[k]) (m':=r.L[k]) (V':=V') u (λj m f=>i j m λe=>f (by rw[e,n];simp)) rfl rfl ⟨by rw[i _ (dB d.mem) c.1.2];exact d.mem,λe=>by rw[i _ (dB (d.grd e)) c.2.1];exact d.grd e,λ_=>t⟩ b (λx q=>.inl q) w;grind[List.set_getElem_self]
end
section
variable{T:aK}{s:RP}{r:RM}
def RK (h:RollAt T s r) (w:r.wf) (hn:r.In.Nodup) (hp:∀d,0<=eI r d) (am:r.In.length<=12) (cb:∀d∈r.In,0<=d) (o:OpM) (x:Id) (ho:o.Guards.length<=1000) (hv:∀v∈r.V,v.Of≠x) (wv:r.wv) (bz:∀m∈r.L,0<m.N):aA PQ G Am [.ptr s.root 0,.ag o.A,.ag x.A] T λy T'=>∃s',Wr T s r T' s' (BS r o x):=by
 apply fT JJ;have R:=λX:aK=>aF (X:=X) h.root;have ct:=λ(X:aK) Y=>aF (X:=Y) (R X);have af:=λX d=>kE (G:=G) (h.app (X:=X)) d;simp only[go_sem,aD,R,eB,jC,dM];apply cI (af _ _);have cq:∀X,(∃s',Wr (T++X) s r (T++X) s' r):=λX=>⟨s,Wr.refl h.app⟩
 have cr:=h.was;rcases yX h (eI r o.By) with⟨cp,co,j,h2,bh,hm,P,ca,gv,hM,_⟩|⟨cp,co,h2,bh,hm⟩
 ·have a2:=λX:aK=>aF (X:=X) h2;simp only[go_sem,R,a2,bh,gv,aD];cases O:(o.Kind==1);rotate_left;have B:BS r o x=if 0<r.In.length\/0<r.Gone.length\/eI r o.By=0 then r else {mU r o.By 3 with Back:=o.Need}:=by rw[BS,if_pos O]
  rw[B];obtain⟨lw,bw,cw,hw,cm,cj,av,cg⟩:=h.was;unfold tK at hw;have a3:=λX:aK=>aF (X:=X) hw;cases c1:((lw.length:Int)==0);simp only[go_sem,R,a3,aP,c1,undef];rw[if_pos];exact⟨s,(Wr.refl h).app⟩;have:lw≠[]:=λe=>by rw[e]at c1;simp at c1
  rw[Ne,av]at this;rcases JX r.In.length with h1|h1;rcases JX r.Gone.length with h3|h3;exact absurd ⟨Ae h1,Ae h3⟩ this;exact .inr (.inl h3);exact .inl h1;simp only[go_sem,R,a3,aP,c1,aD];have au:lw=[]:=Ae (by simpa using c1);obtain⟨i0,g0⟩:=av.1 au;apply cI (rW h.app _);cases b1:lZ r o.By;simp only[go_sem];have:eI r o.By=0:=U_;rw[if_pos (.inr (.inr this))];exact⟨s,(Wr.refl h).app⟩;simp only[go_sem,aD];apply jA (rX h.app _ _);rintro y T' ⟨u,f⟩;have r1:=f.at'.root;have t0:T'[T.length]?=some (some (.box o.A)):=f.keep0 h aD;rw[f.root]at r1;simp only[go_sem,t0,r1];rw[if_neg (by rw[i0,g0];have:=(C3 b1).2.2;simp;omega)];have W2:=f.at'.setBack (T':=T'.set s.root (some (.box [.mp u.c,.mp u.i,.mp u.w,.mp u.m,iv o.Need]))) (b:=o.Need) s_ (λj P t=>by rw[f.root]at t;rw[aY (Ne.symm t)]) (by rw[f.root,dS r1]);exact⟨u,Wr.ofApp h (f.trans W2)⟩;simp only[go_sem];cases S:(o.Kind==2);rotate_left;have B:BS r o x=mU r o.Device o.Role:=by rw[BS,if_neg d6,if_pos S]
  rw[B];simp only[go_sem,aD];apply jA (rX h.app _ _);rintro y T' ⟨u,f⟩;simp only[go_sem];exact⟨u,Wr.ofApp h f⟩;simp only[go_sem];cases k3:(o.Kind==3);rotate_left;have B:BS r o x=(if o.Device=0 then r.In.filter (λd=>eI r d==o.Member) else [o.Device]).foldl lN r:=by rw[BS,if_neg d6,if_neg sa,if_pos k3]
  rw[B];cases d0:(o.Device !=0);simp only[go_sem,d0,aD];rw[if_pos (by simpa using d0)];apply cI (Fp h.app am cb);have Z:=Hl r.In;have bd:(C0 r.In).Nodup:=Z.nodup_iff.2 hn;have ce:(C0 r.In).length<=12:=by rw[Z.length_eq];exact am
  have D:∀{T':aK}{u:RP},Wr (T++[some (.box o.A),some (.box x.A)]) s r T' u (((C0 r.In).filter λd=>eI r d==o.Member).foldl lN r)->∃s',Wr T s r T' s' ((r.In.filter λd=>eI r d==o.Member).foldl lN r):=by
   intro T' u W
   have q:=λ(ds:B_)(hp:ds.Perm r.In)(hd:ds.Nodup)=>foldGoes (n:=o.Member) (ds.filter λd=>eI r d==o.Member) r (hd.filter _) (λd bj=>by
    obtain⟨h1,h2⟩:=gR.1 bj
    exact⟨hp.mem_iff.1 h1,ou⟩)
   rw[q _ Z bd]at W;rw[q _ (.refl _) hn];exact⟨u,(Wr.ofApp h W).trans (RH (Z.filter _) W.at')⟩
  generalize C0 r.In=ds at *
  simp only[go_sem,aP]
  refine kL (λn st=>∃i,i<=ds.length/\n=ds.length-i/\∃(T1:aK)(u:RP),Wr (T++[some (.box o.A),some (.box x.A)]) s r T1 u (((ds.take i).filter λd=>eI r d==o.Member).foldl lN r) /\
   st=⟨T.length,[(71,iv i),(70,iv ds.length),(69,rG ds),(4,.ptr T.length 0),(0,.ptr s.root 0)],T1⟩) ds.length ⟨0,pR _,rfl,_,s,Wr.refl h.app,rfl⟩ ?_
  rintro n st ⟨i,F,ch,T1,u,f,rfl⟩;rcases eD i ds.length with C|cl;have ws:=fQ i o_;have g0:(ds.map λn=>[iv n])[i]?=some [iv ds[i]]:=aO _ ds i C;have t0:T1[T.length]?=some (some (.box o.A)):=f.keep0 h aD;have ft:(ds.take (i+1)).filter (λd=>eI r d==o.Member)=(ds.take i).filter (λd=>eI r d==o.Member)++if(eI r ds[i]==o.Member)=true then [ds[i]] else []:=by rw[lB C,Mf,List.filter_cons,List.filter_nil]
  obtain⟨bf,be,bk⟩:=D7 ((ds.take i).filter λd=>eI r d==o.Member) r hn w.nn;have ap:=kE (G:=G) f.at' ds[i];rw[KU bk,f.root]at ap;have ay:=uK (G:=G) f.at' bf be ds[i];rw[f.root]at ay;simp only[go_sem,aT C,g0,t0];apply cI ap;cases hq:(eI r ds[i]==o.Member);rw[hq,if_neg d_,jO]at ft;simp only[go_sem,hq,t0,ws];exact⟨ds.length-(i+1),o_,i+1,o_,rfl,_,u,by rw[ft];exact f,rfl⟩;rw[hq,if_pos rfl]at ft;simp only[go_sem,hq,t0];apply jA ay;rintro y T' ⟨s2,W2⟩;simp only[go_sem,ws];exact⟨ds.length-(i+1),o_,i+1,o_,rfl,_,s2,by rw[ft,Hy];exact f.trans W2,rfl⟩;obtain rfl:i=ds.length:=o_;rw[dE]at f;simp only[go_sem,aS (bP _)];exact D f;simp only[go_sem,d0,aD];rw[if_neg (by simpa using d0)];apply jA (uK h.app hn w.nn _);rintro y T' ⟨u,f⟩;simp only[go_sem];exact⟨u,Wr.ofApp h f⟩;simp only[go_sem];cases k5:(o.Kind==5);rotate_left;have B:BS r o x=if jL r o.Member<0 then r else {r with L:=r.L.set (jL r o.Member).toNat { (r.L.getD (jL r o.Member).toNat default) with Role:=o.Role} }:=dp
  rw[B];rcases yX h o.Member with⟨bt,br,j5,h5,aj,aq,ax,aw,bq,bn,cn⟩|⟨bt,br,h5,aj,aq⟩
  have a5:=λX:aK=>aF (X:=X) h5;have Q:=λX:aK=>aF (X:=X) bn.mem;simp only[go_sem,R,a5,aj,bq,Q,aD];rw[aq,if_neg (o_:¬(j5:Int)<0),nI,nH ax];obtain⟨u,f⟩:=(h.app (X:=[some (.box o.A),some (.box x.A)])).setRole (T':=(T++[some (AObj.box o.A),some (AObj.box x.A)]).set s.ms[j5].1 (some (.box [iv o.Role,if r.L[j5].Is=true then .ptr s.ms[j5].2.1 0 else .v (.pointer none)]))) ax aw (role:=o.Role) s_ (λj P t=>kx) (by rw[dS (Q _)]);exact⟨u,Wr.ofApp h f⟩;have a5:=λX:aK=>aF (X:=X) h5;simp only[go_sem,R,a5,aj,aD];rw[if_pos o_];exact⟨s,(Wr.refl h).app⟩;simp only[go_sem];cases k9:(o.Kind==9);rotate_left;have B:BS r o x=BN r o x:=by rw[BS,if_neg d6,if_neg sa,if_neg sg,if_neg kg,if_pos k9]
  rw[B];have Q:=λX:aK=>aF (X:=X) hM.mem;have e2:BN r o x={r with L:=r.L.set j ⟨r.L[j].N,r.L[j].Role,true,x,o.Guards,o.Need,o.Wait,false,0⟩,V:=Fh {r with L:=r.L.set j ⟨r.L[j].N,r.L[j].Role,true,x,o.Guards,o.Need,o.Wait,false,0⟩} }:=by rw[BN];simp only[hm];rw[if_neg (o_:¬(j:Int)<0),nI,nH P]
  rw[e2];have cc:=Ct (G:=G) (o.Guards.map λn=>[iv n]) I_;have hV:∀i(F:i<r.L.length),i≠j->r.L[i].Is=true->∀v:VM,v.Of=r.L[i].ID->(v∈Fh {r with L:=r.L.set j ⟨r.L[j].N,r.L[j].Role,true,x,o.Guards,o.Need,o.Wait,false,0⟩}↔v∈r.V):=by intro i F t hI v hv;refine O0 (r:={r with L:=r.L.set j ⟨r.L[j].N,r.L[j].Role,true,x,o.Guards,o.Need,o.Wait,false,0⟩}) (m:=r.L[i]) (List.mem_iff_getElem.2 ⟨i,by simpa using F,?_⟩) hI hv;simp only[List.getElem_set_ne (Ne.symm t)]
  have hX:∀v∈Fh {r with L:=r.L.set j ⟨r.L[j].N,r.L[j].Role,true,x,o.Guards,o.Need,o.Wait,false,0⟩},v.Of≠x:=λv cd=>hv v (gR.1 cd).1;have lm:=dB hM.mem
  have D:=λ(Y:aK)(g v:Nat)(hg:T.length<=g)(hv:T.length<=v)(ck:g≠v)(h1:Y[g-T.length]?=some (some (.box [iv x.a,iv x.b,.v (.int .u64 x.c),rG o.Guards,iv o.Need,iv o.Wait,.mp v,.v (.bool false),iv 0])))(h2:Y[v-T.length]?=some (some (.map true [] [] [] 0)))=>
   h.setGuard (T':=(T++Y).set s.ms[j].1 (some (.box [iv r.L[j].Role,.ptr g 0]))) P ca (x:=x) (gs:=o.Guards) (need:=o.Need) (wait:=o.Wait) (g:=g) (v:=v) s_ (λi F t=>by rw[aY (Ne.symm t),mY F]) hg hv ck (dS (Q _)) (by rw[aY o_,Mc hg];exact h1) (by rw[aY o_,Mc hv];exact h2) hV hX
  simp only[go_sem,aD,aR,Id.A_def,eB,jC,dM];refine⟨?_,?_⟩;apply cX cc;simp only[go_sem,Q,aD,aR,eB,jC,dM,dZ,sE,gQ];refine D _ (T.length+3) (T.length+2) o_ o_ o_ ?_ ?_;rw[(o_:T.length+3-T.length=3)];rfl;rw[(o_:T.length+2-T.length=2)];rfl;apply cX cc;simp only[go_sem,Q,aD,aR,eB,jC,dM,dZ,sE,gQ];refine D _ (T.length+3) (T.length+2) o_ o_ o_ ?_ ?_;rw[(o_:T.length+3-T.length=3)];rfl;rw[(o_:T.length+2-T.length=2)];rfl;simp only[go_sem];cases I:(o.Kind==11);rotate_left
  ·have B:BS r o x=iQ r o:=P_;rw[B];have hg:=xB (G:=G) (h.app (X:=[some (.box o.A),some (.box x.A)])) w o;simp only[go_sem,aD];apply cI hg;rcases Hr r o.Of with⟨H,q2⟩|⟨i,F,H,q2,q3⟩
   have e2:gP r o=(0,25):=by rw[gP,kD];simp only[H];rfl
   have e3:iQ r o=r:=by rw[iQ,kD];simp only[H];rfl
   rw[e3,e2];simp only[go_sem];exact⟨s,(Wr.refl h).app⟩
   ·cases hb:decide (o.By∈r.L[i].Guards);have e2:gP r o=(0,14):=by rw[gP,lO F H,hb];rfl
    have e3:iQ r o=r:=ax;rw[e3,e2];simp only[go_sem];exact⟨s,(Wr.refl h).app⟩
    ·have e2:gP r o=(r.L[i].N,0):=by rw[gP,lO F H,hb,q3];rfl
     have e3:iQ r o={r with V:=r.V.filter (λv=>!mQ o v)++[qA o r.V]}:=ax;rw[e3,e2];have z:r.L[i].Is=true:=by rw[Vt,zJ]at q2;exact q2.1
     have ab:r.L[i].ID=o.Of:=by rw[Vt,zJ]at q2;exact of_decide_eq_true q2.2
     rcases yX h r.L[i].N with⟨bu,bs,k,h3,ak,ar,hk,bg,bb,al,bm⟩|⟨bu,bs,h3,ak,ar⟩
     rotate_left;exfalso;have hg:=mN (λm:MM=>m.N==r.L[i].N) r.L;have:(r.L.any λm=>m.N==r.L[i].N)=true:=CX.2 ⟨_,eQ F,s_⟩;rw[this]at hg;have:=of_decide_eq_true hg;unfold jL at ar;omega;obtain rfl:=w.nn k i hk F bm;have a3:=λX:aK=>aF (X:=X) h3;have b3:=λX:aK=>aF (X:=X) al.mem;have b4:=λX:aK=>aF (X:=X) (al.grd z);obtain⟨l,bv,cv,ae,az,hl,ai⟩:=al.vch z;have an:=ae;unfold KO at an;have Q:=λX:aK=>aF (X:=X) an;have aa:∀v,v∈l↔v∈r.V/\v.Of=o.Of:=λv=>by rw[hl,ab]
     have E:=S3 o.By o.Device l 0;have lv:=dB ae
     have ac:∀j(P:j<r.L.length),j≠k->r.L[j].Is=true->∀v:VM,v.Of=r.L[j].ID->(v∈r.V.filter (λv=>!mQ o v)++[qA o r.V]↔v∈r.V):=λj P t hI v hv=>
      O5 (λe=>t (w.uniq j k P hk hI z (e.trans ab.symm))) hv
     have D:∀l2 M K,(∀v,v∈l2↔v∈r.V.filter (λv=>!mQ o v)++[qA o r.V]/\v.Of=o.Of)->Bs l2.length M K->(l2.map λv=>(v.By,v.Device)).Nodup->∀X:aK,∃s',Wr T s r ((T++X).set s.ms[k].2.2 (some (KO l2 M K))) s' {r with V:=r.V.filter (λv=>!mQ o v)++[qA o r.V]}:=e_
     cases e4:l.findIdx? (λv=>o.By==v.By&&o.Device==v.Device) with
     |none=>
      rw[e4]at E;simp only[xD]at E;obtain⟨n1,n2,n3⟩:=O3 aa ai e4;simp only[go_sem,R,a3,ak,bb,b3,b4,Q,z,CR,aD,dH,dD,eB,jC,dM,E,undef];have:=D (l++[qA o r.V]) (bv++[cv]) (cv+1) n2 (by rw[dZ];exact az.suc) n3 [some (.box o.A),some (.box x.A),some (.box [iv o.By,iv o.Device])];rw[KO,n1,bZ,bZ]at this;rw[n1];exact this
     | some n=>
      rw[e4]at E;simp only[iX,mG]at E;obtain⟨hn,J,_⟩:=Ad.1 e4;simp only[zJ,beq_iff_eq]at J;obtain⟨n1,n2,n3⟩:=O4 wv.nd aa ai hn J.1 J.2;have bo:(l.map λv=>iv v.At)[n]?=some (iv l[n].At):=aO _ l n hn;simp only[go_sem,R,a3,ak,bb,b3,b4,Q,z,CR,aD,dH,dD,eB,jC,dM,E,bo,undef];refine aL (λC=>?_) (λC=>?_);have C:=of_decide_eq_true C;simp only[go_sem,b4,Q,CR,aD,dH,E];have:=D (l.set n (qA o r.V)) bv cv n2 (by rw[cL];exact az) (by rw[n3];exact ai) [some (.box o.A),some (.box x.A),some (.box [iv o.By,iv o.Device])];have ek:(l.set n (qA o r.V)).map (λv=>[Value.int .i64 v.By,Value.int .i64 v.Device])=l.map λv=>[Value.int .i64 v.By,Value.int .i64 v.Device]:=X_;rw[KO,ek,Ba,n1,(o_:min o.At l[n].At=o.At)]at this;rw[n1,(o_:min o.At l[n].At=o.At)];exact this;have C:=of_decide_eq_false C;have ao:l.set n (qA o r.V)=l:=by
       have:qA o r.V=l[n]:=du;rw[this,List.set_getElem_self]
      simp only[go_sem];refine⟨s,Wr.ofApp h ((h.app).setV λj P hI v hv=>?_)⟩;by_cases t:j=k;subst t;have:=n2 v;rw[ao,aa]at this;have ho:v.Of=o.Of:=hv.trans ab;exact⟨λh1=>(this.2 ⟨h1,ho⟩).1,λh1=>(this.1 ⟨h1,ho⟩).1⟩;exact ac j P t hI v hv
  simp only[go_sem];cases U:(o.Kind==12);rotate_left;have B:BS r o x=if(r.L[j].Is&&decide (r.L[j].ID=o.Of))=true then {r with L:=r.L.set j {r.L[j]with Obj:=true,Last:=max r.L[j].Last o.At} } else r:=by rw[BS,if_neg d6,if_neg sa,if_neg sg,if_neg kg,if_neg ae,if_neg (by simp[I]),if_pos U];simp only[hm];rw[if_neg (o_:¬(j:Int)<0),nI,nH P]
  have Q:=λX:aK=>aF (X:=X) hM.mem;cases z:r.L[j].Is;simp only[go_sem,Q,z,undef];rw[B,z,if_neg s_];exact⟨s,(Wr.refl h).app⟩;have b6:=λX:aK=>aF (X:=X) (hM.grd z);have hb:=Id.beq r.L[j].ID o.Of;cases bc:decide (r.L[j].ID=o.Of);simp only[go_sem,aD,Q,b6,z,CR,hb,bc,Id.A_def];rw[B,z,bc,if_neg s_];exact⟨s,(Wr.refl h).app⟩;have nf:s.ms[j].2.1≠T.length:=by have:=dB (hM.grd z);omega
  have b7:=λX o=>dS (o:=o) (b6 X);have b8:=λ(X:aK) o=>aY (T:=T++X) (o:=o) nf;simp only[go_sem,aD,Q,b6,b7,b8,z,CR,hb,bc,Id.A_def,List.set_set];rw[B,z,bc,if_pos (show(true&&true)=true from rfl)];obtain⟨u,f⟩:=(h.app (X:=[some (AObj.box o.A),some (AObj.box x.A)])).setObj (T':=(T++[some (AObj.box o.A),some (AObj.box x.A)]).set s.ms[j].2.1 (some (.box (CR {r.L[j]with Obj:=true,Last:=max r.L[j].Last o.At} s.ms[j].2.2)))) P ca z (b:=true) (la:=max r.L[j].Last o.At) s_ (λj P t=>kx) (by rw[dS (b6 _)]);have em:max r.L[j].Last o.At=if o.At>r.L[j].Last then o.At else r.L[j].Last:=sm
  refine⟨u,?_⟩;rw[em]at f⊢;exact Wr.ofApp h f;simp only[go_sem];cases ad:(o.Kind==13);rotate_left
  ·simp only[go_sem,aD];apply cI (AN h.app w.uniq _);rcases Hr r o.Of with⟨H,q2⟩|⟨i,F,H,q2,q3⟩
   have B:BS r o x=r:=S_;rw[B];simp only[go_sem,q2,gt_iff_lt,undef];exact⟨s,(Wr.refl h).app⟩
   ·have hN:=w.pos _ (eQ F);have B:BS r o x=if(decide (o.Old∈r.In)&&(eI r o.Old==r.L[i].N&&eI r o.Device==r.L[i].N))=true then lN (mU r o.Device (sD r (eI r o.Device))) o.Old else r:=v_
    rw[B];have ba:decide (r.L[i].N>0)=true:=decide_eq_true (bz _ (eQ F));generalize r.L[i].N=n at *
    obtain⟨bi,ci,hI,_⟩:=h.inn;unfold tK at hI;have aI:=λX:aK=>aF (X:=X) hI;have hf:=iW o.Old r.In 0;rcases K4 r.In o.Old with⟨q,e,hq,ah⟩|⟨e,ah⟩
    rotate_left;rw[e]at hf;simp only[xD]at hf;simp only[go_sem,q3,ba,R,aI,hf,aD,undef];rw[decide_eq_false ah,if_neg s_];exact⟨s,(Wr.refl h).app⟩;rw[e]at hf;simp only[iX,mG]at hf;have bp:(r.In.map λ_=>AV.v (.bool true))[q]?=some (.v (.bool true)):=by rw[gE,jN hq];rfl
    simp only[go_sem,q3,ba,R,aI,hf,bp,aD];rw[decide_eq_true ah,mF];apply cI (af _ _);cases c1:(eI r o.Old==n);simp only[go_sem,c1,undef,lR];exact⟨s,(Wr.refl h).app⟩;simp only[go_sem,c1,aD];apply cI (af _ _);cases c2:(eI r o.Device==n);simp only[go_sem,c2];exact⟨s,(Wr.refl h).app⟩;simp only[go_sem,c2,aD];apply cI (af _ _);simp only[go_sem,aD];apply cI (B5 h.app _);simp only[go_sem,aD];apply jA (rX h.app _ _);rintro y T' ⟨u,f⟩;have t0:T'[T.length]?=some (some (.box o.A)):=f.keep0 h aD;have hg:=uK (G:=G) f.at' (D6 hn _ _) (KS w.nn _ _) o.Old;rw[f.root]at hg;simp only[go_sem,t0];apply jA hg;rintro y T' ⟨s2,W2⟩;simp only[go_sem];exact⟨s2,Wr.ofApp h (f.trans W2)⟩
  simp only[go_sem];have B:BS r o x=r:=K_;rw[B];exact⟨s,(Wr.refl h).app⟩
 ·have a2:=λX:aK=>aF (X:=X) h2;simp only[go_sem,R,a2,bh,aD];cases O:(o.Kind==1);rotate_left;have B:BS r o x=if 0<r.In.length\/0<r.Gone.length\/eI r o.By=0 then r else {mU r o.By 3 with Back:=o.Need}:=by rw[BS,if_pos O]
  rw[B];obtain⟨lw,bw,cw,hw,cm,cj,av,cg⟩:=h.was;unfold tK at hw;have a3:=λX:aK=>aF (X:=X) hw;cases c1:((lw.length:Int)==0);simp only[go_sem,R,a3,aP,c1,undef];rw[if_pos];exact⟨s,(Wr.refl h).app⟩;have:lw≠[]:=λe=>by rw[e]at c1;simp at c1
  rw[Ne,av]at this;rcases JX r.In.length with h1|h1;rcases JX r.Gone.length with h3|h3;exact absurd ⟨Ae h1,Ae h3⟩ this;exact .inr (.inl h3);exact .inl h1;simp only[go_sem,R,a3,aP,c1,aD];have au:lw=[]:=Ae (by simpa using c1);obtain⟨i0,g0⟩:=av.1 au;apply cI (rW h.app _);cases b1:lZ r o.By;simp only[go_sem];have:eI r o.By=0:=U_;rw[if_pos (.inr (.inr this))];exact⟨s,(Wr.refl h).app⟩;simp only[go_sem,aD];apply jA (rX h.app _ _);rintro y T' ⟨u,f⟩;have r1:=f.at'.root;have t0:T'[T.length]?=some (some (.box o.A)):=f.keep0 h aD;rw[f.root]at r1;simp only[go_sem,t0,r1];rw[if_neg (by rw[i0,g0];have:=(C3 b1).2.2;simp;omega)];have W2:=f.at'.setBack (T':=T'.set s.root (some (.box [.mp u.c,.mp u.i,.mp u.w,.mp u.m,iv o.Need]))) (b:=o.Need) s_ (λj P t=>by rw[f.root]at t;rw[aY (Ne.symm t)]) (by rw[f.root,dS r1]);exact⟨u,Wr.ofApp h (f.trans W2)⟩;simp only[go_sem];cases S:(o.Kind==2);rotate_left;have B:BS r o x=mU r o.Device o.Role:=by rw[BS,if_neg d6,if_pos S]
  rw[B];simp only[go_sem,aD];apply jA (rX h.app _ _);rintro y T' ⟨u,f⟩;simp only[go_sem];exact⟨u,Wr.ofApp h f⟩;simp only[go_sem];cases k3:(o.Kind==3);rotate_left;have B:BS r o x=(if o.Device=0 then r.In.filter (λd=>eI r d==o.Member) else [o.Device]).foldl lN r:=by rw[BS,if_neg d6,if_neg sa,if_pos k3]
  rw[B];cases d0:(o.Device !=0);simp only[go_sem,d0,aD];rw[if_pos (by simpa using d0)];apply cI (Fp h.app am cb);have Z:=Hl r.In;have bd:(C0 r.In).Nodup:=Z.nodup_iff.2 hn;have ce:(C0 r.In).length<=12:=by rw[Z.length_eq];exact am
  have D:∀{T':aK}{u:RP},Wr (T++[some (.box o.A),some (.box x.A)]) s r T' u (((C0 r.In).filter λd=>eI r d==o.Member).foldl lN r)->∃s',Wr T s r T' s' ((r.In.filter λd=>eI r d==o.Member).foldl lN r):=by
   intro T' u W
   have q:=λ(ds:B_)(hp:ds.Perm r.In)(hd:ds.Nodup)=>foldGoes (n:=o.Member) (ds.filter λd=>eI r d==o.Member) r (hd.filter _) (λd bj=>by
    obtain⟨h1,h2⟩:=gR.1 bj
    exact⟨hp.mem_iff.1 h1,ou⟩)
   rw[q _ Z bd]at W;rw[q _ (.refl _) hn];exact⟨u,(Wr.ofApp h W).trans (RH (Z.filter _) W.at')⟩
  generalize C0 r.In=ds at *
  simp only[go_sem,aP]
  refine kL (λn st=>∃i,i<=ds.length/\n=ds.length-i/\∃(T1:aK)(u:RP),Wr (T++[some (.box o.A),some (.box x.A)]) s r T1 u (((ds.take i).filter λd=>eI r d==o.Member).foldl lN r) /\
   st=⟨T.length,[(71,iv i),(70,iv ds.length),(69,rG ds),(4,.ptr T.length 0),(0,.ptr s.root 0)],T1⟩) ds.length ⟨0,pR _,rfl,_,s,Wr.refl h.app,rfl⟩ ?_
  rintro n st ⟨i,F,ch,T1,u,f,rfl⟩;rcases eD i ds.length with C|cl;have ws:=fQ i o_;have g0:(ds.map λn=>[iv n])[i]?=some [iv ds[i]]:=aO _ ds i C;have t0:T1[T.length]?=some (some (.box o.A)):=f.keep0 h aD;have ft:(ds.take (i+1)).filter (λd=>eI r d==o.Member)=(ds.take i).filter (λd=>eI r d==o.Member)++if(eI r ds[i]==o.Member)=true then [ds[i]] else []:=by rw[lB C,Mf,List.filter_cons,List.filter_nil]
  obtain⟨bf,be,bk⟩:=D7 ((ds.take i).filter λd=>eI r d==o.Member) r hn w.nn;have ap:=kE (G:=G) f.at' ds[i];rw[KU bk,f.root]at ap;have ay:=uK (G:=G) f.at' bf be ds[i];rw[f.root]at ay;simp only[go_sem,aT C,g0,t0];apply cI ap;cases hq:(eI r ds[i]==o.Member);rw[hq,if_neg d_,jO]at ft;simp only[go_sem,hq,t0,ws];exact⟨ds.length-(i+1),o_,i+1,o_,rfl,_,u,by rw[ft];exact f,rfl⟩;rw[hq,if_pos rfl]at ft;simp only[go_sem,hq,t0];apply jA ay;rintro y T' ⟨s2,W2⟩;simp only[go_sem,ws];exact⟨ds.length-(i+1),o_,i+1,o_,rfl,_,s2,by rw[ft,Hy];exact f.trans W2,rfl⟩;obtain rfl:i=ds.length:=o_;rw[dE]at f;simp only[go_sem,aS (bP _)];exact D f;simp only[go_sem,d0,aD];rw[if_neg (by simpa using d0)];apply jA (uK h.app hn w.nn _);rintro y T' ⟨u,f⟩;simp only[go_sem];exact⟨u,Wr.ofApp h f⟩;simp only[go_sem];cases k5:(o.Kind==5);rotate_left;have B:BS r o x=if jL r o.Member<0 then r else {r with L:=r.L.set (jL r o.Member).toNat { (r.L.getD (jL r o.Member).toNat default) with Role:=o.Role} }:=dp
  rw[B];rcases yX h o.Member with⟨bt,br,j5,h5,aj,aq,ax,aw,bq,bn,cn⟩|⟨bt,br,h5,aj,aq⟩
  have a5:=λX:aK=>aF (X:=X) h5;have Q:=λX:aK=>aF (X:=X) bn.mem;simp only[go_sem,R,a5,aj,bq,Q,aD];rw[aq,if_neg (o_:¬(j5:Int)<0),nI,nH ax];obtain⟨u,f⟩:=(h.app (X:=[some (.box o.A),some (.box x.A)])).setRole (T':=(T++[some (AObj.box o.A),some (AObj.box x.A)]).set s.ms[j5].1 (some (.box [iv o.Role,if r.L[j5].Is=true then .ptr s.ms[j5].2.1 0 else .v (.pointer none)]))) ax aw (role:=o.Role) s_ (λj P t=>kx) (by rw[dS (Q _)]);exact⟨u,Wr.ofApp h f⟩;have a5:=λX:aK=>aF (X:=X) h5;simp only[go_sem,R,a5,aj,aD];rw[if_pos o_];exact⟨s,(Wr.refl h).app⟩;simp only[go_sem];cases k9:(o.Kind==9);rotate_left;have B:BS r o x=r:=by rw[BS,if_neg d6,if_neg sa,if_neg sg,if_neg kg,if_pos k9,BN];simp only[hm];rw[if_pos d_]
  rw[B];simp only[go_sem];exact⟨s,(Wr.refl h).app⟩;simp only[go_sem];cases I:(o.Kind==11);rotate_left
  ·have B:BS r o x=iQ r o:=P_;rw[B];have hg:=xB (G:=G) (h.app (X:=[some (.box o.A),some (.box x.A)])) w o;simp only[go_sem,aD];apply cI hg;rcases Hr r o.Of with⟨H,q2⟩|⟨i,F,H,q2,q3⟩
   have e2:gP r o=(0,25):=by rw[gP,kD];simp only[H];rfl
   have e3:iQ r o=r:=by rw[iQ,kD];simp only[H];rfl
   rw[e3,e2];simp only[go_sem];exact⟨s,(Wr.refl h).app⟩
   ·cases hb:decide (o.By∈r.L[i].Guards);have e2:gP r o=(0,14):=by rw[gP,lO F H,hb];rfl
    have e3:iQ r o=r:=ax;rw[e3,e2];simp only[go_sem];exact⟨s,(Wr.refl h).app⟩
    ·have e2:gP r o=(r.L[i].N,0):=by rw[gP,lO F H,hb,q3];rfl
     have e3:iQ r o={r with V:=r.V.filter (λv=>!mQ o v)++[qA o r.V]}:=ax;rw[e3,e2];have z:r.L[i].Is=true:=by rw[Vt,zJ]at q2;exact q2.1
     have ab:r.L[i].ID=o.Of:=by rw[Vt,zJ]at q2;exact of_decide_eq_true q2.2
     rcases yX h r.L[i].N with⟨bu,bs,k,h3,ak,ar,hk,bg,bb,al,bm⟩|⟨bu,bs,h3,ak,ar⟩
     rotate_left;exfalso;have hg:=mN (λm:MM=>m.N==r.L[i].N) r.L;have:(r.L.any λm=>m.N==r.L[i].N)=true:=CX.2 ⟨_,eQ F,s_⟩;rw[this]at hg;have:=of_decide_eq_true hg;unfold jL at ar;omega;obtain rfl:=w.nn k i hk F bm;have a3:=λX:aK=>aF (X:=X) h3;have b3:=λX:aK=>aF (X:=X) al.mem;have b4:=λX:aK=>aF (X:=X) (al.grd z);obtain⟨l,bv,cv,ae,az,hl,ai⟩:=al.vch z;have an:=ae;unfold KO at an;have Q:=λX:aK=>aF (X:=X) an;have aa:∀v,v∈l↔v∈r.V/\v.Of=o.Of:=λv=>by rw[hl,ab]
     have E:=S3 o.By o.Device l 0;have lv:=dB ae
     have ac:∀j(P:j<r.L.length),j≠k->r.L[j].Is=true->∀v:VM,v.Of=r.L[j].ID->(v∈r.V.filter (λv=>!mQ o v)++[qA o r.V]↔v∈r.V):=λj P t hI v hv=>
      O5 (λe=>t (w.uniq j k P hk hI z (e.trans ab.symm))) hv
     have D:∀l2 M K,(∀v,v∈l2↔v∈r.V.filter (λv=>!mQ o v)++[qA o r.V]/\v.Of=o.Of)->Bs l2.length M K->(l2.map λv=>(v.By,v.Device)).Nodup->∀X:aK,∃s',Wr T s r ((T++X).set s.ms[k].2.2 (some (KO l2 M K))) s' {r with V:=r.V.filter (λv=>!mQ o v)++[qA o r.V]}:=e_
     cases e4:l.findIdx? (λv=>o.By==v.By&&o.Device==v.Device) with
     |none=>
      rw[e4]at E;simp only[xD]at E;obtain⟨n1,n2,n3⟩:=O3 aa ai e4;simp only[go_sem,R,a3,ak,bb,b3,b4,Q,z,CR,aD,dH,dD,eB,jC,dM,E,undef];have:=D (l++[qA o r.V]) (bv++[cv]) (cv+1) n2 (by rw[dZ];exact az.suc) n3 [some (.box o.A),some (.box x.A),some (.box [iv o.By,iv o.Device])];rw[KO,n1,bZ,bZ]at this;rw[n1];exact this
     | some n=>
      rw[e4]at E;simp only[iX,mG]at E;obtain⟨hn,J,_⟩:=Ad.1 e4;simp only[zJ,beq_iff_eq]at J;obtain⟨n1,n2,n3⟩:=O4 wv.nd aa ai hn J.1 J.2;have bo:(l.map λv=>iv v.At)[n]?=some (iv l[n].At):=aO _ l n hn;simp only[go_sem,R,a3,ak,bb,b3,b4,Q,z,CR,aD,dH,dD,eB,jC,dM,E,bo,undef];refine aL (λC=>?_) (λC=>?_);have C:=of_decide_eq_true C;simp only[go_sem,b4,Q,CR,aD,dH,E];have:=D (l.set n (qA o r.V)) bv cv n2 (by rw[cL];exact az) (by rw[n3];exact ai) [some (.box o.A),some (.box x.A),some (.box [iv o.By,iv o.Device])];have ek:(l.set n (qA o r.V)).map (λv=>[Value.int .i64 v.By,Value.int .i64 v.Device])=l.map λv=>[Value.int .i64 v.By,Value.int .i64 v.Device]:=X_;rw[KO,ek,Ba,n1,(o_:min o.At l[n].At=o.At)]at this;rw[n1,(o_:min o.At l[n].At=o.At)];exact this;have C:=of_decide_eq_false C;have ao:l.set n (qA o r.V)=l:=by
       have:qA o r.V=l[n]:=du;rw[this,List.set_getElem_self]
      simp only[go_sem];refine⟨s,Wr.ofApp h ((h.app).setV λj P hI v hv=>?_)⟩;by_cases t:j=k;subst t;have:=n2 v;rw[ao,aa]at this;have ho:v.Of=o.Of:=hv.trans ab;exact⟨λh1=>(this.2 ⟨h1,ho⟩).1,λh1=>(this.1 ⟨h1,ho⟩).1⟩;exact ac j P t hI v hv
  simp only[go_sem];cases U:(o.Kind==12);rotate_left;have B:BS r o x=r:=by rw[BS,if_neg d6,if_neg sa,if_neg sg,if_neg kg,if_neg ae,if_neg (by simp[I]),if_pos U];simp only[hm];rw[if_pos d_]
  rw[B];simp only[go_sem,undef];exact⟨s,(Wr.refl h).app⟩;simp only[go_sem];cases ad:(o.Kind==13);rotate_left
  ·simp only[go_sem,aD];apply cI (AN h.app w.uniq _);rcases Hr r o.Of with⟨H,q2⟩|⟨i,F,H,q2,q3⟩
   have B:BS r o x=r:=S_;rw[B];simp only[go_sem,q2,gt_iff_lt,undef];exact⟨s,(Wr.refl h).app⟩
   ·have hN:=w.pos _ (eQ F);have B:BS r o x=if(decide (o.Old∈r.In)&&(eI r o.Old==r.L[i].N&&eI r o.Device==r.L[i].N))=true then lN (mU r o.Device (sD r (eI r o.Device))) o.Old else r:=v_
    rw[B];have ba:decide (r.L[i].N>0)=true:=decide_eq_true (bz _ (eQ F));generalize r.L[i].N=n at *
    obtain⟨bi,ci,hI,_⟩:=h.inn;unfold tK at hI;have aI:=λX:aK=>aF (X:=X) hI;have hf:=iW o.Old r.In 0;rcases K4 r.In o.Old with⟨q,e,hq,ah⟩|⟨e,ah⟩
    rotate_left;rw[e]at hf;simp only[xD]at hf;simp only[go_sem,q3,ba,R,aI,hf,aD,undef];rw[decide_eq_false ah,if_neg s_];exact⟨s,(Wr.refl h).app⟩;rw[e]at hf;simp only[iX,mG]at hf;have bp:(r.In.map λ_=>AV.v (.bool true))[q]?=some (.v (.bool true)):=by rw[gE,jN hq];rfl
    simp only[go_sem,q3,ba,R,aI,hf,bp,aD];rw[decide_eq_true ah,mF];apply cI (af _ _);cases c1:(eI r o.Old==n);simp only[go_sem,c1,undef,lR];exact⟨s,(Wr.refl h).app⟩;simp only[go_sem,c1,aD];apply cI (af _ _);cases c2:(eI r o.Device==n);simp only[go_sem,c2];exact⟨s,(Wr.refl h).app⟩;simp only[go_sem,c2,aD];apply cI (af _ _);simp only[go_sem,aD];apply cI (B5 h.app _);simp only[go_sem,aD];apply jA (rX h.app _ _);rintro y T' ⟨u,f⟩;have t0:T'[T.length]?=some (some (.box o.A)):=f.keep0 h aD;have hg:=uK (G:=G) f.at' (D6 hn _ _) (KS w.nn _ _) o.Old;rw[f.root]at hg;simp only[go_sem,t0];apply jA hg;rintro y T' ⟨s2,W2⟩;simp only[go_sem];exact⟨s2,Wr.ofApp h (f.trans W2)⟩
  simp only[go_sem];have B:BS r o x=r:=K_;rw[B];exact⟨s,(Wr.refl h).app⟩
end
section
variable{T:aK}
def aOO{bs c:V_}(g:c.Nodup)(d:∀b∈c,b∈bs){e:Nat}(j:e<bs.length)(f:bs[e]∉c):
 (c++[bs[e]]).Nodup/\(∀b∈c++[bs[e]],b∈bs)/\bs.length-(c++[bs[e]]).length<bs.length-c.length:=by
 have h1:(c++[bs[e]]).Nodup:=by rw[vQ];exact⟨g,s_,λa k b i=>by rw[cA.1 i];rintro rfl;exact f k⟩
 have h2:∀b∈c++[bs[e]],b∈bs:=λb i=>by rcases cG.1 i with h|h;exact d b h;rw[cA.1 h];exact eQ j
 have h3:=h1.length_le_of_subset h2;refine⟨h1,h2,?_⟩;rw[dZ,GT]at h3⊢;omega
def aPL{i j:Nat}{l m:B_}{bs bs':V_}{h cl':Nat}(q:T[i]?=some (some (tK l bs h)))(p:T[j]?=some (some (tK m bs' cl')))(g:Bs l.length bs h)(C:l.length=m.length)(B:∀d∈l,d∈m):
 aA PQ G aBB [.mp i,.mp j] T λr L=>r=.v (.bool true)/\L=T:=by
 apply eH aES;unfold tK at q p;have y:=λX:aK=>aF (X:=X) q;have K:=λX:aK=>aF (X:=X) p;have J:=λX:aK=>kU (y X);simp only[go_sem,q,p,aP,C,bne_self_eq_false];apply kL (λk w=>∃a:V_,a.Nodup/\(∀b∈a,b∈bs)/\k=bs.length-a.length/\w=⟨T.length,[(15,.ptr T.length 0),(1,.mp j)],T++[some (.mit (some i) h a h)]⟩) bs.length ⟨[],s_,s_,rfl,rfl⟩;rintro k w ⟨a,o,f,D,rfl⟩;simp only[go_sem];refine VD (i:=T.length) (j:=i) (kU aD) (J _) (cN _) g.lt (by simp[g.len]) (by simp[g.len]) (λx=>?_) λe u n=>?_;simp only[go_sem,aH];have c:e<l.length:=by rw[<-g.len];exact u
 obtain⟨c1,c2,c3⟩:=aOO o f u n;have s:=VE g.nd u;have H:(l.map iK)[e]?=some (iK l[e]):=by rw[gE,jN c];rfl
 have E:(l.map λ_=>AV.v (.bool true))[e]?=some (.v (.bool true)):=by rw[gE,jN c];rfl
 obtain⟨A,I,z⟩:=aG3 (B _ (eQ c));have t:=iW l[e] m 0;rw[I]at t;have F:(m.map λ_=>AV.v (.bool true))[A]?=some (.v (.bool true)):=by rw[gE,jN z];rfl
 simp only[iX,mG]at t;simp only[go_sem,cU,aD,y,K,Ke,s,H,E,iY,t,F];exact⟨_,by rw[D];exact c3,_,c1,c2,rfl,rfl⟩
def aQT(a b:Int):LF true [.int .i64,.int .i64] (.ag [iv a,iv b])=some [.int .i64 a,.int .i64 b]:=Z_
def aOv(a b:Int):∀(l:List VM)(i:Nat),eR [.int .i64,.int .i64] [.int .i64 a,.int .i64 b] (l.map λv=>[.int .i64 v.By,.int .i64 v.Device]) i=some ((l.findIdx? λv=>a==v.By&&b==v.Device).map (· + i))
 |[],_=>rfl
 | v::l,i=>by
  simp only[fG,eR,rJ,and_self,if_true,yH,List.findIdx?_cons];have:=aOv a b l (i+1);cases h:(a==v.By&&b==v.Device);simp only[this,jJ,if_false]
  cases l.findIdx? (λv=>a==v.By&&b==v.Device) with
  |none=>rfl
  |some j=>simp;omega
  simp
def aRe{l m:List VM}(d:∀v∈l,v∈m)(c:(m.map λv=>(v.By,v.Device)).Nodup){v:VM}(b:v∈l):∃j,(m.findIdx? λu=>v.By==u.By&&v.Device==u.Device)=some j/\∃h:j<m.length,m[j]=v:=by
 have h1:=d v b
 cases e:m.findIdx? (λu=>v.By==u.By&&v.Device==u.Device) with
 |none=>exact absurd (Md.1 e v h1) s_|some j=>
  obtain⟨a,h2,_⟩:=Ad.1 e;refine⟨j,rfl,a,?_⟩;obtain⟨k,f,rfl⟩:=List.mem_iff_getElem.1 h1;simp only[zJ,beq_iff_eq]at h2;have g:j=k:=(C9 (h₀:=H_) (h₁:=ko) c).1 (by simp[h2.1,h2.2]);subst g;rfl
def aQc{i j:Nat}{l m:List VM}{bs bs':V_}{c cl':Nat}(s:T[i]?=some (some (KO l bs c)))(q:T[j]?=some (some (KO m bs' cl')))(g:Bs l.length bs c)(I:l.length=m.length)(H:∀v∈l,v∈m)(o:(m.map λv=>(v.By,v.Device)).Nodup):
 aA PQ G aBA [.mp i,.mp j] T λr Q=>r=.v (.bool true)/\Q=T:=by
 apply eH aCW;unfold KO at s q;have B:=λX:aK=>aF (X:=X) s;have P:=λX:aK=>aF (X:=X) q;have O:=λX:aK=>kU (B X);simp only[go_sem,s,q,aP,I,bne_self_eq_false];refine kL (λk z=>∃(a:V_)(X:aK),X[0]?=some (some (.mit (some i) c a c))/\a.Nodup/\(∀b∈a,b∈bs)/\k=bs.length-a.length/\z=⟨T.length,[(15,.ptr T.length 0),(1,.mp j)],T++X⟩) bs.length ⟨[],_,rfl,s_,s_,rfl,rfl⟩ ?_;rintro k z ⟨a,X,y,p,f,J,rfl⟩;have D:(T++X)[T.length]?=some (some (.mit (some i) c a c)):=by rw[show T.length=T.length+0 from rfl,aZ];exact y
 simp only[go_sem];refine VD (i:=T.length) (j:=i) (kU D) (O _) (cN _) g.lt (by simp[g.len]) (by simp[g.len]) (λA=>?_) λe w n=>?_;simp only[go_sem,aH];have d:e<l.length:=by rw[<-g.len];exact w
 obtain⟨c1,c2,c3⟩:=aOO p f w n;have t:=VE g.nd w;have M:(l.map λv:VM=>[Value.int .i64 v.By,Value.int .i64 v.Device])[e]?=some [.int .i64 l[e].By,.int .i64 l[e].Device]:=by rw[gE,jN d];rfl
 have K:(l.map λv:VM=>iv v.At)[e]?=some (iv l[e].At):=by rw[gE,jN d];rfl
 obtain⟨F,N,E,v0⟩:=aRe H o (eQ d);have u:=aOv l[e].By l[e].Device m 0;rw[N]at u;have L:(m.map λv:VM=>iv v.At)[F]?=some (iv l[e].At):=by rw[gE,jN E,v0];rfl
 have h:(X.set 0 (some (.mit (some i) c (a++[bs[e]]) c)))[0]?=some (some (.mit (some i) c (a++[bs[e]]) c)):=dS y;simp only[iX,mG]at u;rw[show T.length=T.length+0 from rfl,cP];generalize X.set 0 (some (.mit (some i) c (a++[bs[e]]) c))=Y at *
 have C:(T++Y)[T.length]?=some (some (.mit (some i) c (a++[bs[e]]) c)):=by rw[show T.length=T.length+0 from rfl,aZ];exact h
 have x:=λZ:aK=>aF (X:=Z) h;generalize l[e]=v at *
 simp only[go_sem,mG,nY,B,P,h,C,x,Ke,t,M,K,iY,u,L,aQT,bne_self_eq_false];exact⟨_,by rw[J];exact c3,_,_,x _,c1,c2,rfl,rfl⟩
def aQd(l:B_)(e:l.length<=100000):aA PQ G aF0 [rG l,rG l] [] λr d=>r=.v (.bool true)/\d=[]:=by refine aC aJM ?_;simp only[go_sem,rG,aP,bne_self_eq_false];refine aQ l.length (λi=>⟨0,[(0,rG l),(1,rG l),(12,iv l.length),(13,iv i)],[]⟩) (λ_=>True) ?_ trivial ?_ ?_;simp only[go_sem,rG];intro i a _;have b:=fQ i o_;have c:(l.map λn=>[iv n])[i]?=some [iv l[i]]:=aO _ l i a;simp only[go_sem,rG,aP,aT a,c,bne_self_eq_false,b];intro _;simp only[go_sem,rG,aP,aS (bP _)]
end
section
variable{T:aK}{s:RP}{r:RM}
def aP8 {i b:Nat} {l:B_} {bs:V_} {c:Nat} {vs:O_} (I:vs.length=l.length) (hi:T[i]?=some (some (.map false (l.map iK) vs bs c))) (P:T[b]?=some (some (.box [.mp i]))) (f:Bs l.length bs c) (hl:l.length<=1000):
 aA PQ G kP [.v (.slice none 0 0),.cl aAD [.ptr b 0]] T (aHb T l):=by
 apply fT vT;simp only[go_sem,aD,cU,eB,jC,dM];refine NX rfl (vZ aC1) λr k1 k2 H F=>?_;simp only[go_sem,eB,jC,dM];refine F4 (post:=λ_ T'=>∃(X:aK)(k:Nat)(out:B_),T'=T++X/\out.Perm l/\X[0]?=some (some (.box [.own (T.length+k)]))/\X[k]?=some (some (.arr 1 (out.map λn=>[iv n])))/\X[2]?=some (some (.lp r [(2,.ptr T.length 0)]))) (aB _) (fT aC1 ?_) ?_;have R:=λX:aK=>aF (X:=X) hi;have a2:=λX:aK=>aF (X:=X) P;simp only[go_sem,R,a2,eB,jC,dM]
 refine kL (λn st=>∃(a:V_)(out:B_),a.Nodup/\(∀b∈a,b∈bs)/\n=bs.length-a.length/\out.Perm (((l.zip bs).filter λq=>decide (q.2∈a)).map (·.1)) /\
  ∃(X:aK)(k:Nat),X[0]?=some (some (.box [.own (T.length+k)]))/\X[k]?=some (some (.arr 1 (out.map λn=>[iv n])))/\X[2]?=some (some (.lp r [(2,.ptr T.length 0)]))/\X[3]?=some (some (.mit (some i) c a c)) /\
   st=⟨T.length+3,[(5,.ptr (T.length+3) 0),(0,.yl (T.length+2))],T++X⟩) bs.length ⟨[],[],s_,s_,rfl,s_,_,1,rfl,rfl,rfl,rfl,rfl⟩ ?_
 rintro n st ⟨a,out,K,m,hn,hJ,X,k,x0,U,u,V,rfl⟩;simp only[go_sem];refine VD (i:=T.length+3) (j:=i) (kU (by rw[aZ];exact V)) (kU (R _)) (cN _) f.lt (by simp[f.len]) (by rw[I,f.len]) (λs=>?_) λe he p=>?_;simp only[go_sem];refine⟨X,k,out,rfl,hJ.trans (.of_eq ?_),x0,U,u⟩;have e1:(l.zip bs).map (·.1)=l:=by rw[List.map_fst_zip];have:=f.len;omega
 conv=>rhs;rw[<-e1]
 refine congrArg _ (Gm.2 λq hq=>?_);have:q.2∈a:=s _ (List.of_mem_zip (show(q.1,q.2)∈l.zip bs from hq)).2;simp[this];have ad:e<l.length:=by have:=f.len;omega
 have O:=VE f.nd he;have gk:(l.map iK)[e]?=some (iK l[e]):=s_;have gv:vs[e]?=some (vs[e]'o_):=jN o_;have ac:3≠k:=f_;have M:2≠k:=f_;have N:0≠k:=f_;have S:(X.set 3 (some (.mit (some i) c (a++[bs[e]]) c)))[3]?=some (some (.mit (some i) c (a++[bs[e]]) c)):=dS V;have t:(X.set 3 (some (.mit (some i) c (a++[bs[e]]) c)))[2]?=some (some (.lp r [(2,.ptr T.length 0)])):=t_;have y0:(X.set 3 (some (.mit (some i) c (a++[bs[e]]) c)))[0]?=some (some (.box [.own (T.length+k)])):=t_;have yk:(X.set 3 (some (.mit (some i) c (a++[bs[e]]) c)))[k]?=some (some (.arr 1 (out.map λn=>[iv n]))):=t_;generalize hY:X.set 3 (some (.mit (some i) c (a++[bs[e]]) c))=Y at y0 t S yk;simp only[go_sem,aZ,cP,hY,S,R,Ke,O,gk,gv,iY];apply F _ _ _ _ _ (kU (by rw[aZ];exact t)) rfl;have w0:(Y.set 2 none)[0]?=some (some (.box [.own (T.length+k)])):=t_;have z:(Y.set 2 none)[k]?=some (some (.arr 1 (out.map λn=>[iv n]))):=t_;have ol:out.length+1<=maxLen/\(out.length+1)*8<=140737488355328:=G_;have d:(a++[bs[e]]).Nodup/\(∀b∈a++[bs[e]],b∈bs)/\bs.length-(a++[bs[e]]).length<n:=by
  have L:(a++[bs[e]]).Nodup:=vQ.2 ⟨K,s_,λx hx y H e'=>p (by rw[cA]at H;rw[<-H,<-e'];exact hx)⟩;have d:∀b∈a++[bs[e]],b∈bs:=λb f=>(cG.1 f).elim (m b) λh=>ky;have aa:=List.Nodup.length_le_of_subset L d;simp_all;omega
 have J:(out++[l[e]]).Perm (((l.zip bs).filter λq=>decide (q.2∈a++[bs[e]])).map (·.1)):=by
  have D:(l[e],bs[e])∈l.zip bs:=by grind[List.mem_iff_getElem,List.length_zip]
  have E:(l.zip bs).map (·.2)=bs:=by rw[List.map_snd_zip];have:=f.len;omega
  have:=(D8 (by rw[E];exact f.nd) D p).map (·.1);grind
 have z2:(Y.set 2 none)[3]?=some (some (.mit (some i) c (a++[bs[e]]) c)):=t_;have g:(Y.set 2 none).length=Y.length:=cL;have Q:=dB t;have s2:(Y.set 2 none)[2]?=some none:=dS t;generalize hZ:Y.set 2 none=Z at w0 z z2 g s2;rw[<-g]at Q;have w:=λW:aK=>aF (X:=W) z;have C:=λW:aK=>aF (X:=W) w0;have ab:=dB z;have B:=λW:aK=>(aY (T:=Z++W) (o:=none) (Ne.symm N)).trans (C W);have A:=λW W':aK=>aF (X:=W') (B W);simp only[go_sem,aZ,cP,fF,iR,hZ,A,w0,aP,<-g,eB,w,ol.1,ol.2];refine⟨_,d.2.2,_,out++[l[e]],d.1,d.2.1,rfl,J,_,Z.length+1,?_,?_,?_,?_,rfl⟩;simp;grind;grind;grind;rintro y T' ⟨X,k,out,rfl,hp,x0,U,u⟩;have z0:(X.set 2 none)[0]?=some (some (.box [.own (T.length+k)])):=t_;have M:2≠k:=f_;have zk:(X.set 2 none)[k]?=some (some (.arr 1 (out.map λn=>[iv n]))):=t_;simp only[go_sem,aZ,cP,fF,u,k1,k2,aFa,z0];exact⟨aH,_,out,hp,rfl,o_,by rw[aZ];exact zk⟩
def aPU{i b:Nat}{l:B_}{bs:V_}{d:Nat}{vs:O_}(a:vs.length=l.length)(g:T[i]?=some (some (.map false (l.map iK) vs bs d)))(c:T[b]?=some (some (.box [.mp i])))(h:Bs l.length bs d)(f:l.length<=1000):
 aA PQ G qU [.cl aAD [.ptr b 0]] T (aHb T l):=by
 apply fT Ck;simp only[go_sem];apply jA (aP8 a g c h f);rintro r j e;simp only[go_sem];exact e
def aQe{i b:Nat}{l:B_}{bs:V_}{p:Nat}{vs:O_}(f:vs.length=l.length)(w:T[i]?=some (some (.map false (l.map iK) vs bs p)))(j:T[b]?=some (some (.box [.mp i])))(z:Bs l.length bs p)(B:l.length<=12)(A:∀d∈l,0<=d):
 aA PQ G sI [.cl aAD [.ptr b 0]] T λr q=>(∃k o,(k=1/\o=(C0 l).map λn=>[iv n])/\r=.ls k o)/\q=T:=by
 refine aA.keepLs (fT Di ?_);simp only[go_sem];apply jA (aPU f w j z o_);rintro r q ⟨t,k,out,c,rfl,m,e⟩;obtain⟨a,rfl⟩:∃a:V_,out=a.map λn:Nat=>(n:Int):=oo;have h:a.length<=12:=by have:=c.length_eq;rw[aP]at this;omega
 have v:=dB e;simp only[go_sem];refine aG (args2:=[.own 0]) (T2:=[some (.arr 1 (nl a))]) [k] (aB _) s_ c_ ?_ ?_ (aEi a h) ?_;simp only[go_sem];simp only[go_sem,e];rfl;rintro y T2 ⟨s,⟨g,u⟩,rfl⟩;simp only[go_sem];refine⟨?_,k,1,_,rfl,m,dS e,rfl,?_⟩;rw[List.take_set_of_le m];exact t;rw[VG ((g.map _).trans c) u,rI];rfl
def aLR(h:RollAt T s r)(n:r.L.length<=12)(j:∀m∈r.L,0<=m.N):aA PQ G aEV [.ptr s.root 0] T λy a=>y=rG (C0 (r.L.map (·.N)))/\a=T:=by
 apply S2 aLJ (λe=>by simpa only[Rp,rG]using e);obtain⟨bs,v,i,q⟩:=h.mems;have t:(r.L.map λm=>iK m.N)=(r.L.map (·.N)).map iK:=by rw[rI];rfl
 rw[t]at i;have c:(s.ms.map λp=>AV.ptr p.1 0).length=(r.L.map (·.N)).length:=by simp[h.mslen]
 have g:Bs (r.L.map (·.N)).length bs v:=by simpa using q
 have h1:=h.root;simp only[go_sem,h1];refine F4 (post:=λy a=>∃b X,y=.cl aAD [.ptr b 0]/\a=T++X/\a[b]?=some (some (.box [.mp s.m]))) (aB _) (fT aET ?_) ?_;simp only[go_sem];simp;rintro y a ⟨b,X,rfl,rfl,f⟩;simp only[go_sem];apply jA (aQe c (aF i) f g (by simpa using n) (λd o=>by obtain⟨m,l,rfl⟩:=dF.1 o;exact j m l));rintro y a ⟨⟨k,w,⟨rfl,rfl⟩,rfl⟩,u⟩;obtain rfl:=u.symm;simp only[go_sem,aH]
end
def aNT{α:Type}[DecidableEq α]{l m:List α}(b:l.Nodup)(a:m.Nodup)(h:∀x,x∈l↔x∈m):l.length=m.length:=((aBH b a).2 h).length_eq
def aOw{α a:Type}{f:α->a}{l:List α}(h:(l.map f).Nodup):l.Nodup:=List.Pairwise.of_map (S:=(· ≠ ·)) f (λ_ _ h e=>h (congrArg f e)) h
def gpt(m:MM)(p:Nat×Nat×Nat):AV:=if m.Is then .ptr p.2.1 0 else .v (.pointer none)
section
variable{T:aK}{s s':RP}{r:RM}
def aOP{V:List VM}{m:MM}{p q:Nat×Nat×Nat}(h:MemAt T V p m)(h':MemAt T V q m)(n:m.Guards.length<=100000):
 aA PQ G aH9 [gpt m p,gpt m q] T λy g=>y=.v (.bool true)/\g=T:=by
 apply eH aLS;cases e:m.Is;simp only[go_sem,gpt,e,dE];have b:=h.grd e;have a:=h'.grd e;obtain⟨l,bs,w,v1,t,f,i⟩:=h.vch e;obtain⟨u,s,r,v2,x,d,c⟩:=h'.vch e;have k:=aNT (aOw i) (aOw c) λv=>(f v).trans (d v).symm;have c1:=aQd (G:=G) m.Guards n;have c2:=aQc (G:=G) v1 v2 t k (λv j=>(d v).2 ((f v).1 j)) c;unfold CR at b a;simp only[go_sem,gpt,e,b,a,beq_self_eq_true,decide_true];apply cX c1;simp only[go_sem,b,a,beq_self_eq_true];apply jA c2;rintro y g ⟨rfl,o⟩;obtain rfl:=o.symm;simp only[go_sem,b,a,beq_self_eq_true,dE]
def aQf{V:List VM}{m:MM}{p q:Nat×Nat×Nat}(h:MemAt T V p m)(h':MemAt T V q m)(d:m.Guards.length<=100000):
 aA PQ G aEQ [.ptr p.1 0,.ptr q.1 0] T λy c=>y=.v (.bool true)/\c=T:=by
 apply eH aLL;have b:=h.mem;have a:=h'.mem;rw[show(if m.Is=true then AV.ptr p.2.1 0 else .v (.pointer none))=gpt m p from rfl]at b;rw[show(if m.Is=true then AV.ptr q.2.1 0 else .v (.pointer none))=gpt m q from rfl]at a;simp only[go_sem,b,a,beq_self_eq_true];apply jA (aOP h h' d);rintro y c ⟨rfl,e⟩;obtain rfl:=e.symm;simp only[go_sem,dE]
def aQU{l:List MM}(b:∀(i j:Nat)(d:i<l.length)(c:j<l.length),l[i].N=l[j].N->i=j){e:Nat}(a:e<l.length):(l.map (·.N)).findIdx? (λy=>l[e].N==y)=some e:=by rw[Ad];refine⟨H_,s_,λj c=>?_⟩;simp only[zL,beq_iff_eq];intro h;have:=b e j a o_ h;omega
def aQg(h:RollAt T s r)(h':RollAt T s' r)(D:r.nn)(F:∀m∈r.L,m.Guards.length<=100000):
 aA PQ G aAO [.mp s.m,.mp s'.m,.cl aEQ []] T λy S=>y=.v (.bool true)/\S=T:=by
 apply eH aBD;obtain⟨bs,B,z,f⟩:=h.mems;obtain⟨P,O,x,H⟩:=h'.mems;have C:=λX:aK=>aF (X:=X) z;have R:=λX:aK=>aF (X:=X) x;have Q:=λX:aK=>kU (C X);have l:=h.mslen;have w:=h'.mslen;simp only[go_sem,z,x,aP,bne_self_eq_false];apply kL (λk u=>∃a:V_,a.Nodup/\(∀b∈a,b∈bs)/\k=bs.length-a.length/\u=⟨T.length,[(17,.ptr T.length 0),(1,.mp s'.m),(2,.cl aEQ [])],T++[some (.mit (some s.m) B a B)]⟩) bs.length ⟨[],s_,s_,rfl,rfl⟩;rintro k u ⟨a,o,d,E,rfl⟩;simp only[go_sem];refine VD (i:=T.length) (j:=s.m) (kU aD) (Q _) (cN _) f.lt (by simp[f.len]) (by simp[f.len,l]) (λA=>?_) λe t n=>?_;simp only[go_sem,aH];have c:e<r.L.length:=by rw[<-f.len];exact t
 obtain⟨c1,c2,c3⟩:=aOO o d t n;have q:=VE f.nd t;have M:(r.L.map λm=>iK m.N)[e]?=some (iK r.L[e].N):=by rw[gE,jN c];rfl
 have J:(s.ms.map λp=>AV.ptr p.1 0)[e]?=some (.ptr (s.ms[e]'o_).1 0):=by rw[gE,jN o_];rfl
 have K:(s'.ms.map λp=>AV.ptr p.1 0)[e]?=some (.ptr (s'.ms[e]'o_).1 0):=by rw[gE,jN o_];rfl
 have g:=iW r.L[e].N (r.L.map (·.N)) 0;rw[aQU D c,rI]at g;replace g:eR [.int .i64] (iK r.L[e].N) (r.L.map λm=>iK m.N) 0=some (some e):=g;have I:=λX:aK=>aQf (G:=G) ((h.app (X:=X)).each e c o_) ((h'.app (X:=X)).each e c o_) (F _ (eQ c));simp only[go_sem,cU,aD,C,R,Ke,q,M,J,iY,g,K];apply cI (I _);simp only[go_sem];exact⟨_,by rw[E];exact c3,_,c1,c2,rfl,rfl⟩
def aP9(h:RollAt T s r)(h':RollAt T s' r)(o:r.nn)(z:∀m∈r.L,m.Guards.length<=100000):
 aA PQ G aIz [.ptr s.root 0,.ptr s'.root 0] T λy b=>y=.v (.bool true)/\b=T:=by
 apply eH aM2;have g:=h.root;have f:=h'.root;obtain⟨H,F,w,t⟩:=h.inn;obtain⟨E,C,u,q⟩:=h'.inn;obtain⟨l,bw,cw,w1,n,i,_,j⟩:=h.was;obtain⟨p,D,B,w2,k,a,_,c⟩:=h'.was;have x:l.length=p.length:=aNT j c λd=>(i d).trans (a d).symm;have c1:=aPL (G:=G) w u t rfl (λ_ h=>h);have c2:=aPL (G:=G) w1 w2 n x (λd A=>(a d).2 ((i d).1 A));have c3:=aQg (G:=G) h h' o z;simp only[go_sem,g,f];apply jA c1;rintro y b ⟨rfl,e⟩;obtain rfl:=e.symm;simp only[go_sem,g,f];apply jA c2;rintro y b ⟨rfl,e⟩;obtain rfl:=e.symm;simp only[go_sem,g,f,beq_self_eq_true];apply jA c3;rintro y b ⟨rfl,e⟩;obtain rfl:=e.symm;simp only[go_sem,dE]
end
end Hud
