import Derived.Test.YtdichbeaekjibaaGreatDoorLib22
set_option linter.all false
set_option maxHeartbeats 40000000
namespace Hud
open Go
variable{G:L_}
def RJ{T X:aK}:(T++X).take (T.length+X.length)=T++X:=sG s_
section
variable{T:aK}{s:RP}{r:RM}
def Xc(f:Nat)(cs:O_)(m:Int->Bool)(l:B_)(k:l.length<2^63-1)(h:∀x∈l,aA PQ G f (iv x::cs) T λr d=>r=.v (.bool (m x))/\d=T):
 aA PQ G gY [rG l,.cl f cs] T λr d=>r=iv (qX m l)/\d=T:=by
 apply eH nU;simp only[go_sem,aP];refine O7 l.length (λi=>⟨T.length,[(8,iv i),(7,iv l.length),(0,rG l),(1,.cl f cs)],T⟩) (λi=>∀j(a:j<l.length),j<i->m l[j]=false) ?_ U_ ?_ ?_;rfl;intro i b c;have g:(l.map λn=>[iv n])[i]?=some [iv l[i]]:=aO _ l i b;simp only[go_sem,aT b,g];apply cI (h _ (eQ b))
 cases e:m l[i]with
 |false=>
  simp only[go_sem,fQ i o_];grind
 |true=>
  simp only[go_sem];rw[mC b c e];simp
 intro c;simp only[go_sem,aS (bP _)];rw[lD λj a=>c j a a];simp
def Xd(f:Nat)(cs:O_)(m:Int->Bool)(l:B_)(b:l.length<2^63-1)(h:∀x∈l,aA PQ G f (iv x::cs) T λr a=>r=.v (.bool (m x))/\a=T):
 aA PQ G dI [rG l,.cl f cs] T λr a=>r=.v (.bool (l.any m))/\a=T:=by
 apply eH lV;simp only[go_sem];apply cI (Xc f cs m l b h);simp only[go_sem,ge_iff_le,mN];simp
def a6P(r:RM)(o:OpM):Int:=if o.Guards.all (λd=>decide (d∈r.In))=true then 0 else 17
def aIt(h:RollAt T s r)(o:OpM)(m:Int)(q:o.Guards.length<=1000):aA PQ G wX [.ptr s.root 0,.ag o.A,iv m] T λx k=>x=iv (a6P r o)/\k=T:=by
 apply eH KL;unfold a6P;have i:∀(X:aK)(b:Nat),(T++X)[b]?=some (some (.box [.ptr s.root 0]))->∀d∈o.Guards,aA PQ G tQ [iv d,.ptr b 0] (T++X) λl k=>l=.v (.bool (!decide (d∈r.In)))/\k=T++X:=by
  intro X b c d _;apply eH Ho;have h1:=(h.app (X:=X)).root;obtain⟨bs,t,h2,_⟩:=(h.app (X:=X)).inn;have a:=iW d r.In 0;unfold tK at h2;rcases K4 r.In d with⟨j,e,p,g⟩|⟨e,g⟩
  rw[e]at a;simp only[iX,mG]at a;have n:(r.In.map λ_=>AV.v (.bool true))[j]?=some (.v (.bool true)):=u_;simp only[go_sem,c,h1,h2,a,n,RJ,decide_eq_true g];rw[e]at a;simp only[xD]at a;simp only[go_sem,c,h1,h2,a,RJ,decide_eq_false g]
 simp only[go_sem,aR,eB,jC,dM];apply cI (Xd tQ _ (λd=>!decide (d∈r.In)) o.Guards o_ (i _ T.length aD));have f:(o.Guards.any λd=>!decide (d∈r.In))=!(o.Guards.all λd=>decide (d∈r.In)):=m_;cases c:(o.Guards.all λd=>decide (d∈r.In));rw[c]at f;simp only[go_sem,f,aH];rw[c]at f;simp only[go_sem,f,aH]
def a8P(r:RM)(o:OpM):Int :=
 if(gP r o).2≠0 then(gP r o).2 else
 if(!decide (o.Old∈r.In)||eI r o.Old !=(gP r o).1)=true then 17 else
 if(!lZ r o.Device||eI r o.Device !=(gP r o).1)=true then 17 else
 if((Ll r (gP r o).1 o.Device).2==0&&decide (o.At<(Ll r (gP r o).1 o.Device).1))=true then 27 else(Ll r (gP r o).1 o.Device).2
def aIu(h:RollAt T s r)(w:r.wf)(p:r.wv)(o:OpM)(m:Int):aA PQ G wZ [.ptr s.root 0,.ag o.A,iv m] T λx y=>x=iv (a8P r o)/\y=T:=by
 apply eH KN;unfold a8P;have n:=λX:aK=>aF (X:=X) h.root;obtain⟨bs,B,hI,_⟩:=h.inn;have g:=λX:aK=>aF (X:=X) hI;unfold tK at g;have b:=iW o.Old r.In 0;simp only[go_sem,aD];apply cI (xB h.app w o);generalize gP r o=q at *
 cases c:(q.2 !=0);rotate_left;simp only[go_sem,c,aH];simp_all;have u:q.2=0:=oy;rw[if_neg (by simpa using u)];rcases K4 r.In o.Old with⟨j,e,z,a⟩|⟨e,a⟩
 rotate_left;rw[e]at b;simp only[xD]at b;simp only[go_sem,c,n,g,b,aD,decide_eq_false a,undef,aH];rw[e]at b;simp only[iX,mG]at b;have t:(r.In.map λ_=>AV.v (.bool true))[j]?=some (.v (.bool true)):=u_;simp only[go_sem,c,n,g,b,t,aD];apply cI (kE h.app _);cases l:(eI r o.Old !=q.1);rotate_left;simp only[go_sem,l,decide_eq_true a,lI,EH,EB,aH];simp only[go_sem,l,aD];apply cI (rW h.app _);cases C:lZ r o.Device;simp only[go_sem,undef,decide_eq_true a,lI,EH,EB,aH];simp only[go_sem,aD];apply cI (kE h.app _);cases k:(eI r o.Device !=q.1);rotate_left;simp only[go_sem,k,decide_eq_true a,lI,EH,EB,aH];simp only[go_sem,k,aD];apply cI (Xb h.app w.need p _ _);generalize Ll r q.1 o.Device=d at *
 cases i:(d.2==0);simp only[go_sem,i,undef,decide_eq_true a,lI,EH,EB,aH];simp only[go_sem,i,aD];refine aL (λf=>?_) (λf=>?_);simp only[go_sem,f,decide_eq_true a,lI,EH,EB,aH];simp only[go_sem,f,decide_eq_true a,lI,EH,EB,aH]
end
def Hv(f:Nat):AV:=.v (.func (.func f) #[] #[])
def lP:O_:=[.v .nilFunc,.v .nilFunc,Hv wS,Hv wT,.v .nilFunc,Hv wU,Hv wV,.v .nilFunc,Hv wW,Hv wX,Hv mB,Hv wY,Hv mB,Hv wZ]
def AK(G:L_):Prop:=G NY=some lP
def aKt{r:RM}{o:OpM}(h:(kD r o).2=0):Lm r o.Of=(r.L.getD (kD r o).1.toNat default).N:=by
 rcases Hr r o.Of with⟨a,_⟩|⟨i,b,a,_,c⟩
 grind[kD];rw[lO b a]at h⊢;grind
def aIv{r:RM}{o:OpM}(b:o.Kind=11):C1 r o=a7P r o:=by unfold C1 a7P gP;by_cases a:(kD r o).2=0;have c:=aKt a;simp_all;simp_all
def aIw{r:RM}{o:OpM}(b:o.Kind=13):C1 r o=a8P r o:=by unfold C1 a8P gP;by_cases a:(kD r o).2=0;have c:=aKt a;grind;simp_all
section
variable{T:aK}{s:RP}{r:RM}{D:D_}{cs:List CardM}
def O8(z:AK G)(h:RollAt T s r)(l:RGood D cs r)(R:CardsG cs)(o:OpM)(x:Id)(J:o.Guards.length<=1000):aA PQ G tM [.ptr s.root 0,.ag o.A,.ag x.A] T λy O=>y=iv (mT r o)/\O=T:=by
 apply eH Hn;have t:=λX:aK=>aF (X:=X) h.root;have b:G 0=some lP:=z;have M:G NY=some lP:=z;have g:=λX d=>kE (G:=G) (h.app (X:=X)) d;simp only[go_sem,aD,eB,jC,dM];cases C:(o.Kind==1);rotate_left;have f:mT r o=if(eI r o.By==0)=true then 17 else if 0<r.In.length\/0<r.Gone.length then 5 else 0:=by grind[mT]
 rw[f];simp only[go_sem,aD];apply cI (g _ _);cases u:(eI r o.By==0);obtain⟨P,bw,cw,E,L,F,H⟩:=h.was;have B:=λX:aK=>aF (X:=X) E;unfold tK at B;simp only[go_sem,u,t,B,aP];refine aL (λk=>?_) (λk=>?_);have k:=of_decide_eq_true k;simp only[go_sem,aH];rw[if_pos];grind;have k:=of_decide_eq_false k;simp only[go_sem,aH];simp_all;simp only[go_sem,u,aH];simp only[go_sem];obtain⟨bs,S,hI,_⟩:=h.inn;have q:=λX:aK=>aF (X:=X) hI;unfold tK at q;have i:=iW o.By r.In 0;rcases K4 r.In o.By with⟨j,e,Q,m⟩|⟨e,m⟩
 rotate_left;rw[e]at i;simp only[xD]at i;simp only[go_sem,t,q,i,aD,aH];grind[mT];rw[e]at i;simp only[iX,mG]at i;have N:(r.In.map λ_=>AV.v (.bool true))[j]?=some (.v (.bool true)):=u_;simp only[go_sem,t,q,i,N,aD];have I:o.Kind≠1:=by simpa using C
 have p:o.Kind<0\/14<=o.Kind\/o.Kind=0\/o.Kind=4\/o.Kind=7\/o.Kind=2\/o.Kind=3\/o.Kind=5\/o.Kind=6\/o.Kind=8\/o.Kind=9\/o.Kind=10\/o.Kind=11\/o.Kind=12\/o.Kind=13:=o_;rcases p with c|c|c|c|c|c|c|c|c|c|c|c|c|c|c;have f:mT r o=0:=by grind[mT]
 rw[f];simp only[go_sem,decide_eq_true c,undef,aH];have f:mT r o=0:=by grind[mT]
 rw[f];have K:decide (o.Kind<0)=false:=decide_eq_false o_;have n:decide (o.Kind>=14)=true:=decide_eq_true c;simp only[go_sem,aD,K,ge_iff_le,n,undef,aH];have f:mT r o=0:=by grind[mT]
 rw[f];have w:lP[0]?=some (.v .nilFunc):=rfl;simp only[go_sem,aD,c,b,lP,ge_iff_le,aH];have f:mT r o=0:=by grind[mT]
 rw[f];have w:lP[4]?=some (.v .nilFunc):=rfl;simp only[go_sem,aD,c,b,lP,ge_iff_le,aH];have f:mT r o=0:=by grind[mT]
 rw[f];have w:lP[7]?=some (.v .nilFunc):=rfl;simp only[go_sem,aD,c,b,lP,ge_iff_le,aH];have f:mT r o=a1P r o (eI r o.By):=by grind[mT,a1P]
 have a:=λX:aK=>aIj (G:=G) (h.app (X:=X)) o (eI r o.By);rw[f];simp only[go_sem,aD,c,b,lP,Hv,ge_iff_le];apply cI (g _ _);simp only[go_sem,aD,c,b,lP,Hv];apply cI (a _);simp only[go_sem,aH];have f:mT r o=JI r o (eI r o.By) (sD r (eI r o.By)==3):=by grind[mT]
 have a:=λX:aK=>aIk (G:=G) (h.app (X:=X)) o (eI r o.By);rw[f];simp only[go_sem,aD,c,b,lP,Hv,ge_iff_le];apply cI (g _ _);simp only[go_sem,aD,c,b,lP,Hv];apply cI (a _);simp only[go_sem,aH];have f:mT r o=a3P r o (eI r o.By):=by grind[mT,a3P]
 have a:=λX:aK=>aIl (G:=G) (h.app (X:=X)) o (eI r o.By);rw[f];simp only[go_sem,aD,c,b,lP,Hv,ge_iff_le];apply cI (g _ _);simp only[go_sem,aD,c,b,lP,Hv];apply cI (a _);simp only[go_sem,aH];have f:mT r o=a4P r (eI r o.By):=by grind[mT,a4P]
 have a:=λX:aK=>aIm (G:=G) (h.app (X:=X)) o (eI r o.By);rw[f];simp only[go_sem,aD,c,b,lP,Hv,ge_iff_le];apply cI (g _ _);simp only[go_sem,aD,c,b,lP,Hv];apply cI (a _);simp only[go_sem,aH];have f:mT r o=a5P r o (eI r o.By):=by grind[mT,a5P]
 have a:=λX:aK=>aIn (G:=G) (h.app (X:=X)) o (eI r o.By);rw[f];simp only[go_sem,aD,c,b,lP,Hv,ge_iff_le];apply cI (g _ _);simp only[go_sem,aD,c,b,lP,Hv];apply cI (a _);simp only[go_sem,aH];have f:mT r o=a6P r o:=by grind[mT,a6P]
 have a:=λX:aK=>aIt (G:=G) (h.app (X:=X)) o (eI r o.By) J;rw[f];simp only[go_sem,aD,c,b,lP,Hv,ge_iff_le];apply cI (g _ _);simp only[go_sem,aD,c,b,lP,Hv];apply cI (a _);simp only[go_sem,aH];have f:mT r o=aBa r o (eI r o.By):=by grind[mT,aBa]
 have a:=λX:aK=>Oy (G:=G) (h.app (X:=X)) o (eI r o.By);rw[f];simp only[go_sem,aD,c,b,lP,Hv,ge_iff_le];apply cI (g _ _);simp only[go_sem,aD,c,b,lP,Hv];apply cI (a _);simp only[go_sem,aH];have f:mT r o=a7P r o:=by unfold mT;simp only[c,decide_eq_true m];exact aIv c
 have a:=λX:aK=>aIo (G:=G) (h.app (X:=X)) l.wf o (eI r o.By);rw[f];simp only[go_sem,aD,c,b,lP,Hv,ge_iff_le];apply cI (g _ _);simp only[go_sem,aD,c,b,lP,Hv];apply cI (a _);simp only[go_sem,aH];have f:mT r o=aBa r o (eI r o.By):=by grind[mT,aBa]
 have a:=λX:aK=>Oy (G:=G) (h.app (X:=X)) o (eI r o.By);rw[f];simp only[go_sem,aD,c,b,lP,Hv,ge_iff_le];apply cI (g _ _);simp only[go_sem,aD,c,b,lP,Hv];apply cI (a _);simp only[go_sem,aH];have f:mT r o=a8P r o:=by unfold mT;simp only[c,decide_eq_true m];exact aIw c
 have a:=λX:aK=>aIu (G:=G) (h.app (X:=X)) l.wf l.wv o (eI r o.By);rw[f];simp only[go_sem,aD,c,b,lP,Hv,ge_iff_le];apply cI (g _ _);simp only[go_sem,aD,c,b,lP,Hv];apply cI (a _);simp only[go_sem,aH]
end
def D8 {α:Type} {a:V_}:∀{L:List (α×Nat)}{p:α×Nat},(L.map (·.2)).Nodup->p∈L->p.2∉a ->
 (L.filter λq=>decide (q.2∈a++[p.2])).Perm (p::L.filter λq=>decide (q.2∈a))
 | q::L,p,d,b,g=>by
  rw[fG,BU]at d;rcases cS.1 b with rfl|b;have e:(L.filter λq=>decide (q.2∈a++[p.2]))=L.filter λq=>decide (q.2∈a):=by refine List.filter_congr λq i=>?_;grind
  simp_all;have c:q.2≠p.2:=λh=>d.1 (by rw[h];exact List.mem_map_of_mem (f:=(·.2)) b);have ih:=D8 d.2 b g;rw[List.filter_cons,List.filter_cons];have e:decide (q.2∈a++[p.2])=decide (q.2∈a):=by simp[c]
  rw[e];cases decide (q.2∈a);simpa using ih;simp only[if_true];exact(ih.cons q).trans (List.Perm.swap _ _ _)
section
variable{T:aK}{s:RP}{r:RM}
def aHb(T:aK)(l:B_)(r:AV)(T':aK):Prop:=T'.take T.length=T/\∃(k:Nat)(out:B_),out.Perm l/\r=.own k/\T.length<=k/\T'[k]?=some (some (.arr 1 (out.map λn=>[iv n])))
def VK {i b:Nat} {l:B_} {bs:V_} {c:Nat} (hi:T[i]?=some (some (tK l bs c))) (O:T[b]?=some (some (.box [.mp i]))) (f:Bs l.length bs c) (hl:l.length<=1000):
 aA PQ G kP [.v (.slice none 0 0),.cl bT [.ptr b 0]] T (aHb T l):=by
 apply fT vT;unfold tK at hi;simp only[go_sem,aD,cU,eB,jC,dM];refine NX rfl (vZ jV) λr k1 k2 H F=>?_;simp only[go_sem,eB,jC,dM];refine F4 (post:=λ_ T'=>∃(X:aK)(k:Nat)(out:B_),T'=T++X/\out.Perm l/\X[0]?=some (some (.box [.own (T.length+k)]))/\X[k]?=some (some (.arr 1 (out.map λn=>[iv n])))/\X[2]?=some (some (.lp r [(2,.ptr T.length 0)]))) (aB _) (fT jV ?_) ?_;have Q:=λX:aK=>aF (X:=X) hi;have a2:=λX:aK=>aF (X:=X) O;simp only[go_sem,Q,a2,eB,jC,dM]
 refine kL (λn st=>∃(a:V_)(out:B_),a.Nodup/\(∀b∈a,b∈bs)/\n=bs.length-a.length/\out.Perm (((l.zip bs).filter λq=>decide (q.2∈a)).map (·.1)) /\
  ∃(X:aK)(k:Nat),X[0]?=some (some (.box [.own (T.length+k)]))/\X[k]?=some (some (.arr 1 (out.map λn=>[iv n])))/\X[2]?=some (some (.lp r [(2,.ptr T.length 0)]))/\X[3]?=some (some (.mit (some i) c a c)) /\
   st=⟨T.length+3,[(5,.ptr (T.length+3) 0),(0,.yl (T.length+2))],T++X⟩) bs.length ⟨[],[],s_,s_,rfl,s_,_,1,rfl,rfl,rfl,rfl,rfl⟩ ?_
 rintro n st ⟨a,out,J,m,hn,hJ,X,k,V,S,u,U,rfl⟩;simp only[go_sem];refine VD (i:=T.length+3) (j:=i) (kU (by rw[aZ];exact U)) (kU (Q _)) (cN _) f.lt (by simp[f.len]) (by simp[f.len]) (λs=>?_) λe he p=>?_;simp only[go_sem];refine⟨X,k,out,rfl,hJ.trans (.of_eq ?_),V,S,u⟩;have e1:(l.zip bs).map (·.1)=l:=by rw[List.map_fst_zip];have:=f.len;omega
 conv=>rhs;rw[<-e1]
 refine congrArg _ (Gm.2 λq hq=>?_);have:q.2∈a:=s _ (List.of_mem_zip (show(q.1,q.2)∈l.zip bs from hq)).2;simp[this];have ad:e<l.length:=by have:=f.len;omega
 have N:=VE f.nd he;have gk:(l.map iK)[e]?=some (iK l[e]):=s_;have gv:(l.map λ_=>AV.v (.bool true))[e]?=some (.v (.bool true)):=u_;have ac:3≠k:=m_;have L:2≠k:=m_;have M:0≠k:=m_;have R:(X.set 3 (some (.mit (some i) c (a++[bs[e]]) c)))[3]?=some (some (.mit (some i) c (a++[bs[e]]) c)):=dS U;have t:(X.set 3 (some (.mit (some i) c (a++[bs[e]]) c)))[2]?=some (some (.lp r [(2,.ptr T.length 0)])):=u_;have y0:(X.set 3 (some (.mit (some i) c (a++[bs[e]]) c)))[0]?=some (some (.box [.own (T.length+k)])):=u_;have yk:(X.set 3 (some (.mit (some i) c (a++[bs[e]]) c)))[k]?=some (some (.arr 1 (out.map λn=>[iv n]))):=u_;generalize hY:X.set 3 (some (.mit (some i) c (a++[bs[e]]) c))=Y at y0 t R yk;simp only[go_sem,aZ,cP,hY,R,Q,Ke,N,gk,gv,iY];apply F _ _ _ _ _ (kU (by rw[aZ];exact t)) rfl;have w0:(Y.set 2 none)[0]?=some (some (.box [.own (T.length+k)])):=u_;have z:(Y.set 2 none)[k]?=some (some (.arr 1 (out.map λn=>[iv n]))):=u_;have ol:out.length+1<=maxLen/\(out.length+1)*8<=140737488355328:=by have h1:=hJ.length_eq;rw[aP]at h1;have h2:=List.length_filter_le (λq:Int×Nat=>decide (q.2∈a)) (l.zip bs);rw[List.length_zip]at h2;unfold maxLen;omega
 have d:(a++[bs[e]]).Nodup/\(∀b∈a++[bs[e]],b∈bs)/\bs.length-(a++[bs[e]]).length<n:=by
  have K:(a++[bs[e]]).Nodup:=vQ.2 ⟨J,s_,λx hx y H e'=>p (by rw[cA]at H;rw[<-H,<-e'];exact hx)⟩;have d:∀b∈a++[bs[e]],b∈bs:=λb f=>(cG.1 f).elim (m b) λh=>by rw[cA.1 h];exact eQ he
  have aa:=List.Nodup.length_le_of_subset K d;simp_all;omega
 have I:(out++[l[e]]).Perm (((l.zip bs).filter λq=>decide (q.2∈a++[bs[e]])).map (·.1)):=by
  have D:(l[e],bs[e])∈l.zip bs:=by grind[List.mem_iff_getElem,List.length_zip]
  have E:(l.zip bs).map (·.2)=bs:=by rw[List.map_snd_zip];have:=f.len;omega
  have:=(D8 (by rw[E];exact f.nd) D p).map (·.1);grind
 have z2:(Y.set 2 none)[3]?=some (some (.mit (some i) c (a++[bs[e]]) c)):=u_;have g:(Y.set 2 none).length=Y.length:=cL;have P:=dB t;have s2:(Y.set 2 none)[2]?=some none:=dS t;generalize hZ:Y.set 2 none=Z at w0 z z2 g s2;rw[<-g]at P;have w:=λW:aK=>aF (X:=W) z;have C:=λW:aK=>aF (X:=W) w0;have ab:=dB z;have B:=λW:aK=>(aY (T:=Z++W) (o:=none) (Ne.symm M)).trans (C W);have A:=λW W':aK=>aF (X:=W') (B W);simp only[go_sem,aZ,cP,fF,iR,hZ,A,w0,aP,<-g,eB,w,ol.1,ol.2];refine⟨_,d.2.2,_,out++[l[e]],d.1,d.2.1,rfl,I,_,Z.length+1,?_,?_,?_,?_,rfl⟩;simp;grind;grind;grind;rintro y T' ⟨X,k,out,rfl,hp,V,S,u⟩;have z0:(X.set 2 none)[0]?=some (some (.box [.own (T.length+k)])):=u_;have L:2≠k:=m_;have zk:(X.set 2 none)[k]?=some (some (.arr 1 (out.map λn=>[iv n]))):=u_;simp only[go_sem,aZ,cP,fF,u,k1,k2,aFa,z0];exact⟨aH,_,out,hp,rfl,o_,by rw[aZ];exact zk⟩
def aBd{i b:Nat}{l:B_}{bs:V_}{c:Nat}(f:T[i]?=some (some (tK l bs c)))(a:T[b]?=some (some (.box [.mp i])))(g:Bs l.length bs c)(e:l.length<=1000):
 aA PQ G qU [.cl bT [.ptr b 0]] T (aHb T l):=by
 apply fT Ck;simp only[go_sem];apply jA (VK f a g e);rintro r h d;simp only[go_sem];exact d
def aEn{i b:Nat}{l:B_}{bs:V_}{o:Nat}(v:T[i]?=some (some (tK l bs o)))(h:T[b]?=some (some (.box [.mp i])))(w:Bs l.length bs o)(A:l.length<=12)(z:∀d∈l,0<=d):
 aA PQ G sI [.cl bT [.ptr b 0]] T λr p=>(∃k m,(k=1/\m=(C0 l).map λn=>[iv n])/\r=.ls k m)/\p=T:=by
 refine aA.keepLs (fT Di ?_);simp only[go_sem];apply jA (aBd v h w o_);rintro r p ⟨s,k,out,c,rfl,j,e⟩;obtain⟨a,rfl⟩:∃a:V_,out=a.map λn:Nat=>(n:Int):=by refine⟨out.map Int.toNat,?_⟩;rw[rI];refine(List.map_id' _).symm.trans (aM2 λx e=>?_);grind
 have g:a.length<=12:=by have:=c.length_eq;rw[aP]at this;omega
 have u:=dB e;simp only[go_sem];refine aG (args2:=[.own 0]) (T2:=[some (.arr 1 (nl a))]) [k] (aB _) s_ c_ ?_ ?_ (aEi a g) ?_;simp only[go_sem];simp only[go_sem,e];rfl;rintro y T2 ⟨q,⟨f,t⟩,rfl⟩;simp only[go_sem];refine⟨?_,k,1,_,rfl,j,dS e,rfl,?_⟩;rw[List.take_set_of_le j];exact s;rw[VG ((f.map _).trans c) t,rI];rfl
def Fp(h:RollAt T s r)(g:r.In.length<=12)(f:∀d∈r.In,0<=d):aA PQ G sH [.ptr s.root 0] T λy a=>y=rG (C0 r.In)/\a=T:=by refine S2 D3 (λe=>by simpa only[Rp,rG]using e) ?_;obtain⟨bs,o,j,l⟩:=h.inn;have h1:=h.root;simp only[go_sem,h1];refine F4 (post:=λy a=>∃b X,y=.cl bT [.ptr b 0]/\a=T++X/\a[b]?=some (some (.box [.mp s.i]))) (aB _) (fT sS ?_) ?_;simp only[go_sem];simp;rintro y a ⟨b,X,rfl,rfl,c⟩;simp only[go_sem];apply jA (aEn (aF j) c l g f);rintro y a ⟨⟨k,n,⟨rfl,rfl⟩,rfl⟩,m⟩;obtain rfl:=m.symm;simp only[go_sem,aH]
end
def Wr.keep{T X T':aK}{s s':RP}{r b:RM}{i:Nat}{o:Option AObj}(W:Wr (T++X) s r T' s' b)(h:RollAt T s r)(a:(T++X)[T.length+i]?=some o):T'[T.length+i]?=some o:=by rw[W.same _ (dB a) λc=>absurd (h.lt c) o_];exact a
def Wr.keep0{T X T':aK}{s s':RP}{r a:RM}{o:Option AObj}(W:Wr (T++X) s r T' s' a)(h:RollAt T s r)(b:(T++X)[T.length]?=some o):T'[T.length]?=some o:=W.keep (i:=0) h b
section
variable{T T':aK}{s:RP}{r:RM}
def Xe(h:RollAt T s r){k:Nat}(b:k<r.L.length)(a:k<s.ms.length):(G1 s.ms[k] r.L[k]).Nodup:=by have:=h.nd.own k;rwa[D4 b a]at this
def RollAt.setRole(h:RollAt T s r){k:Nat}(m:k<r.L.length)(f:k<s.ms.length){role:Int}(t:T.length<=T'.length)(o:∀j,j<T.length->j≠s.ms[k].1->T'[j]?=T[j]?)
 (w:T'[s.ms[k].1]?=some (some (.box [iv role,if r.L[k].Is then .ptr s.ms[k].2.1 0 else .v (.pointer none)]))):∃p,Wr T s r T' p {r with L:=r.L.set k {r.L[k]with Role:=role} }:=by
 have n:=h.each k m f;have i:=Xe h m f;have z:G1 s.ms[k] {r.L[k]with Role:=role}=G1 s.ms[k] r.L[k]:=rfl;have y:r.L[k].Is=true->s.ms[k].2.1≠s.ms[k].1/\s.ms[k].2.2≠s.ms[k].1:=by grind[G1,List.nodup_cons]
 refine⟨_,h.setM m f (p':=s.ms[k]) (m':={r.L[k]with Role:=role}) (V':=r.V) t (λj u g=>o j u λe=>g (by rw[e];unfold G1;split<;>simp)) rfl rfl ⟨w,λe=>?_,λe=>?_⟩ (by rw[z];exact i) (λx q=>.inl q) λ_ _ _ _ _ _=>Iff.rfl⟩;replace e:r.L[k].Is=true:=e;rw[o _ (dB (n.grd e)) (y e).1];exact n.grd e;replace e:r.L[k].Is=true:=e;obtain⟨l,bs,A,a,b,c,d⟩:=n.vch e;grind
def RollAt.setGuard(h:RollAt T s r){k g v:Nat}(m:k<r.L.length)(d:k<s.ms.length){x:Id}{gs:B_}{need wait:Int}{V':List VM}(p:T.length<=T'.length)(z:∀j,j<T.length->j≠s.ms[k].1->T'[j]?=T[j]?)(E:T.length<=g)(D:T.length<=v)(q:g≠v)
 (t:T'[s.ms[k].1]?=some (some (.box [iv r.L[k].Role,.ptr g 0]))) (l:T'[g]?=some (some (.box [iv x.a,iv x.b,.v (.int .u64 x.c),rG gs,iv need,iv wait,.mp v,.v (.bool false),iv 0]))) (f:T'[v]?=some (some (.map true [] [] [] 0)))
 (u:∀j(n:j<r.L.length),j≠k->r.L[j].Is=true->∀v:VM,v.Of=r.L[j].ID->(v∈V'↔v∈r.V)) (C:∀v∈V',v.Of≠x):∃o,Wr T s r T' o {r with L:=r.L.set k ⟨r.L[k].N,r.L[k].Role,true,x,gs,need,wait,false,0⟩,V:=V'}:=by
 have A:=dB (h.each k m d).mem;refine⟨_,h.setM m d (p':=(s.ms[k].1,g,v)) (m':=⟨r.L[k].N,r.L[k].Role,true,x,gs,need,wait,false,0⟩) (V':=V') p (λj n i=>z j n λe=>i (by rw[e];unfold G1;split<;>simp)) rfl rfl ⟨t,λ_=>l,λ_=>⟨[],[],0,f,⟨rfl,s_,s_⟩,λw=>?_,s_⟩⟩ ?_ (λy B=>?_) u⟩;simp_all;simp only[G1,if_true,BU,cS,pP,or_false,not_or,Mm,and_true,not_false_eq_true];omega;grind[G1]
def RollAt.setObj(h:RollAt T s r){k:Nat}(n:k<r.L.length)(f:k<s.ms.length)(hI:r.L[k].Is=true){b:Bool}{la:Int}(v:T.length<=T'.length)(p:∀j,j<T.length->j≠s.ms[k].2.1->T'[j]?=T[j]?)
 (y:T'[s.ms[k].2.1]?=some (some (.box (CR {r.L[k]with Obj:=b,Last:=la} s.ms[k].2.2)))):∃t,Wr T s r T' t {r with L:=r.L.set k {r.L[k]with Obj:=b,Last:=la} }:=by
 have o:=h.each k n f;have g:=Xe h n f;have z:G1 s.ms[k] {r.L[k]with Obj:=b,Last:=la}=G1 s.ms[k] r.L[k]:=rfl;have q:G1 s.ms[k] r.L[k]=[s.ms[k].1,s.ms[k].2.1,s.ms[k].2.2]:=by rw[G1,if_pos hI]
 have m:=g;rw[q]at m;simp only[BU,cS,pP,or_false,not_or]at m;refine⟨_,h.setM n f (p':=s.ms[k]) (m':={r.L[k]with Obj:=b,Last:=la}) (V':=r.V) v (λj w i=>p j w λe=>i (by rw[e,q];simp)) rfl rfl ⟨?_,λ_=>y,λe=>?_⟩ (by rw[z];exact g) (λx u=>.inl u) λ_ _ _ _ _ _=>Iff.rfl⟩;rw[p _ (dB o.mem) m.1.1];exact o.mem;obtain⟨l,bs,A,a,b,c,d⟩:=o.vch hI;grind
def RollAt.setVch(h:RollAt T s r){k:Nat}(g:k<r.L.length)(a:k<s.ms.length)(hI:r.L[k].Is=true){V':List VM}(u:T.length<=T'.length)(i:∀j,j<T.length->j≠s.ms[k].2.2->T'[j]?=T[j]?)
 (t:∃l bs o,T'[s.ms[k].2.2]?=some (some (KO l bs o))/\Bs l.length bs o/\(∀v,v∈l↔v∈V'/\v.Of=r.L[k].ID)/\(l.map λv=>(v.By,v.Device)).Nodup)
 (w:∀j(m:j<r.L.length),j≠k->r.L[j].Is=true->∀v:VM,v.Of=r.L[j].ID->(v∈V'↔v∈r.V)):∃p,Wr T s r T' p {r with V:=V'}:=by
 have d:=h.each k g a;have b:=Xe h g a;have n:G1 s.ms[k] r.L[k]=[s.ms[k].1,s.ms[k].2.1,s.ms[k].2.2]:=by rw[G1,if_pos hI]
 have c:=b;rw[n]at c;simp only[BU,cS,pP,or_false,not_or]at c;have W:=h.setM g a (T':=T') (p':=s.ms[k]) (m':=r.L[k]) (V':=V') u (λj m f=>i j m λe=>f (by rw[e,n];simp)) rfl rfl ⟨by rw[i _ (dB d.mem) c.1.2];exact d.mem,λe=>by rw[i _ (dB (d.grd e)) c.2.1];exact d.grd e,λ_=>t⟩ b (λx q=>.inl q) w;grind[List.set_getElem_self]
end
section
variable{T:aK}{s:RP}{r:RM}
def RK (h:RollAt T s r) (w:r.wf) (hn:r.In.Nodup) (hp:∀d,0<=eI r d) (am:r.In.length<=12) (cb:∀d∈r.In,0<=d) (o:OpM) (x:Id) (ho:o.Guards.length<=1000) (hv:∀v∈r.V,v.Of≠x) (wv:r.wv) (bz:∀m∈r.L,0<m.N):aA PQ G Am [.ptr s.root 0,.ag o.A,.ag x.A] T λy T'=>∃s',Wr T s r T' s' (BS r o x):=by
 apply fT JJ;have R:=λX:aK=>aF (X:=X) h.root;have cr:=λ(X:aK) Y=>aF (X:=Y) (R X);have af:=λX d=>kE (G:=G) (h.app (X:=X)) d;simp only[go_sem,aD,R,eB,jC,dM];apply cI (af _ _);have cp:∀X,(∃s',Wr (T++X) s r (T++X) s' r):=λX=>⟨s,Wr.refl h.app⟩
 have cq:=h.was;rcases yX h (eI r o.By) with⟨co,cn,j,h2,bh,hm,P,ca,gv,hM,_⟩|⟨co,cn,h2,bh,hm⟩
 ·have a2:=λX:aK=>aF (X:=X) h2;simp only[go_sem,R,a2,bh,gv,aD];cases O:(o.Kind==1);rotate_left;have B:BS r o x=if 0<r.In.length\/0<r.Gone.length\/eI r o.By=0 then r else {mU r o.By 3 with Back:=o.Need}:=by rw[BS,if_pos O]
  rw[B];obtain⟨lw,bw,cw,hw,cl,ch,av⟩:=h.was;unfold tK at hw;have a3:=λX:aK=>aF (X:=X) hw;cases c1:((lw.length:Int)==0);simp only[go_sem,R,a3,aP,c1,undef];rw[if_pos];exact⟨s,(Wr.refl h).app⟩;have:lw≠[]:=λe=>by rw[e]at c1;simp at c1
  rw[Ne,av]at this;rcases JX r.In.length with h1|h1;rcases JX r.Gone.length with h3|h3;exact absurd ⟨Ae h1,Ae h3⟩ this;exact .inr (.inl h3);exact .inl h1;simp only[go_sem,R,a3,aP,c1,aD];have au:lw=[]:=Ae (by simpa using c1);obtain⟨i0,g0⟩:=av.1 au;apply cI (rW h.app _);cases b1:lZ r o.By;simp only[go_sem];have:eI r o.By=0:=T_;rw[if_pos (.inr (.inr this))];exact⟨s,(Wr.refl h).app⟩;simp only[go_sem,aD];apply jA (rX h.app _ _);rintro y T' ⟨u,f⟩;have r1:=f.at'.root;have t0:T'[T.length]?=some (some (.box o.A)):=f.keep0 h aD;rw[f.root]at r1;simp only[go_sem,t0,r1];rw[if_neg (by rw[i0,g0];have:=(C3 b1).2.2;simp;omega)];have W2:=f.at'.setBack (T':=T'.set s.root (some (.box [.mp u.c,.mp u.i,.mp u.w,.mp u.m,iv o.Need]))) (b:=o.Need) s_ (λj P t=>by rw[f.root]at t;rw[aY (Ne.symm t)]) (by rw[f.root,dS r1]);exact⟨u,Wr.ofApp h (f.trans W2)⟩;simp only[go_sem];cases S:(o.Kind==2);rotate_left;have B:BS r o x=mU r o.Device o.Role:=by rw[BS,if_neg dx,if_pos S]
  rw[B];simp only[go_sem,aD];apply jA (rX h.app _ _);rintro y T' ⟨u,f⟩;simp only[go_sem];exact⟨u,Wr.ofApp h f⟩;simp only[go_sem];cases k3:(o.Kind==3);rotate_left;have B:BS r o x=(if o.Device=0 then r.In.filter (λd=>eI r d==o.Member) else [o.Device]).foldl lN r:=by rw[BS,if_neg dx,if_neg sk,if_pos k3]
  rw[B];cases d0:(o.Device !=0);simp only[go_sem,d0,aD];rw[if_pos (by simpa using d0)];apply cI (Fp h.app am cb);have Z:=Hl r.In;have bd:(C0 r.In).Nodup:=Z.nodup_iff.2 hn;have ce:(C0 r.In).length<=12:=by rw[Z.length_eq];exact am
  have D:∀{T':aK}{u:RP},Wr (T++[some (.box o.A),some (.box x.A)]) s r T' u (((C0 r.In).filter λd=>eI r d==o.Member).foldl lN r)->∃s',Wr T s r T' s' ((r.In.filter λd=>eI r d==o.Member).foldl lN r):=by
   intro T' u W
   have q:=λ(ds:B_)(hp:ds.Perm r.In)(hd:ds.Nodup)=>foldGoes (n:=o.Member) (ds.filter λd=>eI r d==o.Member) r (hd.filter _) (λd bj=>by
    obtain⟨h1,h2⟩:=gR.1 bj
    exact⟨hp.mem_iff.1 h1,oo⟩)
   rw[q _ Z bd]at W;rw[q _ (.refl _) hn];exact⟨u,(Wr.ofApp h W).trans (RH (Z.filter _) W.at')⟩
  generalize C0 r.In=ds at *
  simp only[go_sem,aP]
  refine kL (λn st=>∃i,i<=ds.length/\n=ds.length-i/\∃(T1:aK)(u:RP),Wr (T++[some (.box o.A),some (.box x.A)]) s r T1 u (((ds.take i).filter λd=>eI r d==o.Member).foldl lN r) /\
   st=⟨T.length,[(71,iv i),(70,iv ds.length),(69,rG ds),(4,.ptr T.length 0),(0,.ptr s.root 0)],T1⟩) ds.length ⟨0,pR _,rfl,_,s,Wr.refl h.app,rfl⟩ ?_
  rintro n st ⟨i,F,cg,T1,u,f,rfl⟩;rcases eD i ds.length with C|ck;have ws:=fQ i o_;have g0:(ds.map λn=>[iv n])[i]?=some [iv ds[i]]:=aO _ ds i C;have t0:T1[T.length]?=some (some (.box o.A)):=f.keep0 h aD;have ft:(ds.take (i+1)).filter (λd=>eI r d==o.Member)=(ds.take i).filter (λd=>eI r d==o.Member)++if(eI r ds[i]==o.Member)=true then [ds[i]] else []:=by rw[lB C,Mf,List.filter_cons,List.filter_nil]
  obtain⟨bf,be,bk⟩:=D7 ((ds.take i).filter λd=>eI r d==o.Member) r hn w.nn;have ap:=kE (G:=G) f.at' ds[i];rw[KU bk,f.root]at ap;have ay:=uK (G:=G) f.at' bf be ds[i];rw[f.root]at ay;simp only[go_sem,aT C,g0,t0];apply cI ap;cases hq:(eI r ds[i]==o.Member);rw[hq,if_neg d_,jO]at ft;simp only[go_sem,hq,t0,ws];exact⟨ds.length-(i+1),o_,i+1,o_,rfl,_,u,by rw[ft];exact f,rfl⟩;rw[hq,if_pos rfl]at ft;simp only[go_sem,hq,t0];apply jA ay;rintro y T' ⟨s2,W2⟩;simp only[go_sem,ws];exact⟨ds.length-(i+1),o_,i+1,o_,rfl,_,s2,by rw[ft,Hy];exact f.trans W2,rfl⟩;obtain rfl:i=ds.length:=o_;rw[dE]at f;simp only[go_sem,aS (bP _)];exact D f;simp only[go_sem,d0,aD];rw[if_neg (by simpa using d0)];apply jA (uK h.app hn w.nn _);rintro y T' ⟨u,f⟩;simp only[go_sem];exact⟨u,Wr.ofApp h f⟩;simp only[go_sem];cases k5:(o.Kind==5);rotate_left;have B:BS r o x=if jL r o.Member<0 then r else {r with L:=r.L.set (jL r o.Member).toNat { (r.L.getD (jL r o.Member).toNat default) with Role:=o.Role} }:=dm
  rw[B];rcases yX h o.Member with⟨bt,br,j5,h5,aj,aq,ax,aw,bq,bn,cm⟩|⟨bt,br,h5,aj,aq⟩
  have a5:=λX:aK=>aF (X:=X) h5;have Q:=λX:aK=>aF (X:=X) bn.mem;simp only[go_sem,R,a5,aj,bq,Q,aD];rw[aq,if_neg (o_:¬(j5:Int)<0),nI,nH ax];obtain⟨u,f⟩:=(h.app (X:=[some (.box o.A),some (.box x.A)])).setRole (T':=(T++[some (AObj.box o.A),some (AObj.box x.A)]).set s.ms[j5].1 (some (.box [iv o.Role,if r.L[j5].Is=true then .ptr s.ms[j5].2.1 0 else .v (.pointer none)]))) ax aw (role:=o.Role) s_ (λj P t=>kj) (by rw[dS (Q _)]);exact⟨u,Wr.ofApp h f⟩;have a5:=λX:aK=>aF (X:=X) h5;simp only[go_sem,R,a5,aj,aD];rw[if_pos o_];exact⟨s,(Wr.refl h).app⟩;simp only[go_sem];cases k9:(o.Kind==9);rotate_left;have B:BS r o x=BN r o x:=by rw[BS,if_neg dx,if_neg sk,if_neg sr,if_neg s8,if_pos k9]
  rw[B];have Q:=λX:aK=>aF (X:=X) hM.mem;have e2:BN r o x={r with L:=r.L.set j ⟨r.L[j].N,r.L[j].Role,true,x,o.Guards,o.Need,o.Wait,false,0⟩,V:=Fh {r with L:=r.L.set j ⟨r.L[j].N,r.L[j].Role,true,x,o.Guards,o.Need,o.Wait,false,0⟩} }:=by rw[BN];simp only[hm];rw[if_neg (o_:¬(j:Int)<0),nI,nH P]
  rw[e2];have cc:=Ct (G:=G) (o.Guards.map λn=>[iv n]) I_;have hV:∀i(F:i<r.L.length),i≠j->r.L[i].Is=true->∀v:VM,v.Of=r.L[i].ID->(v∈Fh {r with L:=r.L.set j ⟨r.L[j].N,r.L[j].Role,true,x,o.Guards,o.Need,o.Wait,false,0⟩}↔v∈r.V):=by intro i F t hI v hv;refine O0 (r:={r with L:=r.L.set j ⟨r.L[j].N,r.L[j].Role,true,x,o.Guards,o.Need,o.Wait,false,0⟩}) (m:=r.L[i]) (List.mem_iff_getElem.2 ⟨i,by simpa using F,?_⟩) hI hv;simp only[List.getElem_set_ne (Ne.symm t)]
  have hX:∀v∈Fh {r with L:=r.L.set j ⟨r.L[j].N,r.L[j].Role,true,x,o.Guards,o.Need,o.Wait,false,0⟩},v.Of≠x:=λv cd=>hv v (gR.1 cd).1;have lm:=dB hM.mem
  have D:=λ(Y:aK)(g v:Nat)(hg:T.length<=g)(hv:T.length<=v)(cj:g≠v)(h1:Y[g-T.length]?=some (some (.box [iv x.a,iv x.b,.v (.int .u64 x.c),rG o.Guards,iv o.Need,iv o.Wait,.mp v,.v (.bool false),iv 0])))(h2:Y[v-T.length]?=some (some (.map true [] [] [] 0)))=>
   h.setGuard (T':=(T++Y).set s.ms[j].1 (some (.box [iv r.L[j].Role,.ptr g 0]))) P ca (x:=x) (gs:=o.Guards) (need:=o.Need) (wait:=o.Wait) (g:=g) (v:=v) s_ (λi F t=>by rw[aY (Ne.symm t),mY F]) hg hv cj (dS (Q _)) (by rw[aY o_,Mc hg];exact h1) (by rw[aY o_,Mc hv];exact h2) hV hX
  simp only[go_sem,aD,aR,Id.A_def,eB,jC,dM];refine⟨?_,?_⟩;apply cX cc;simp only[go_sem,Q,aD,aR,eB,jC,dM,dZ,sE,gQ];refine D _ (T.length+3) (T.length+2) o_ o_ o_ ?_ ?_;rw[(o_:T.length+3-T.length=3)];rfl;rw[(o_:T.length+2-T.length=2)];rfl;apply cX cc;simp only[go_sem,Q,aD,aR,eB,jC,dM,dZ,sE,gQ];refine D _ (T.length+3) (T.length+2) o_ o_ o_ ?_ ?_;rw[(o_:T.length+3-T.length=3)];rfl;rw[(o_:T.length+2-T.length=2)];rfl;simp only[go_sem];cases I:(o.Kind==11);rotate_left
  ·have B:BS r o x=iQ r o:=P_;rw[B];have hg:=xB (G:=G) (h.app (X:=[some (.box o.A),some (.box x.A)])) w o;simp only[go_sem,aD];apply cI hg;rcases Hr r o.Of with⟨H,q2⟩|⟨i,F,H,q2,q3⟩
   have e2:gP r o=(0,25):=by rw[gP,kD];simp only[H];rfl
   have e3:iQ r o=r:=by rw[iQ,kD];simp only[H];rfl
   rw[e3,e2];simp only[go_sem];exact⟨s,(Wr.refl h).app⟩
   ·cases hb:decide (o.By∈r.L[i].Guards);have e2:gP r o=(0,14):=by rw[gP,lO F H,hb];rfl
    have e3:iQ r o=r:=ae;rw[e3,e2];simp only[go_sem];exact⟨s,(Wr.refl h).app⟩
    ·have e2:gP r o=(r.L[i].N,0):=by rw[gP,lO F H,hb,q3];rfl
     have e3:iQ r o={r with V:=r.V.filter (λv=>!mQ o v)++[qA o r.V]}:=ae;rw[e3,e2];have z:r.L[i].Is=true:=by rw[Vt,zJ]at q2;exact q2.1
     have ab:r.L[i].ID=o.Of:=by rw[Vt,zJ]at q2;exact of_decide_eq_true q2.2
     rcases yX h r.L[i].N with⟨bu,bs,k,h3,ak,ar,hk,bg,bb,al,bm⟩|⟨bu,bs,h3,ak,ar⟩
     rotate_left;exfalso;have hg:=mN (λm:MM=>m.N==r.L[i].N) r.L;have:(r.L.any λm=>m.N==r.L[i].N)=true:=CX.2 ⟨_,eQ F,s_⟩;rw[this]at hg;have:=of_decide_eq_true hg;unfold jL at ar;omega;obtain rfl:=w.nn k i hk F bm;have a3:=λX:aK=>aF (X:=X) h3;have b3:=λX:aK=>aF (X:=X) al.mem;have b4:=λX:aK=>aF (X:=X) (al.grd z);obtain⟨l,bv,cv,ae,az,hl,ai⟩:=al.vch z;have an:=ae;unfold KO at an;have Q:=λX:aK=>aF (X:=X) an;have aa:∀v,v∈l↔v∈r.V/\v.Of=o.Of:=λv=>by rw[hl,ab]
     have E:=S3 o.By o.Device l 0;have lv:=dB ae
     have ac:∀j(P:j<r.L.length),j≠k->r.L[j].Is=true->∀v:VM,v.Of=r.L[j].ID->(v∈r.V.filter (λv=>!mQ o v)++[qA o r.V]↔v∈r.V):=λj P t hI v hv=>
      O5 (λe=>t (w.uniq j k P hk hI z (e.trans ab.symm))) hv
     have D:∀l2 M K,(∀v,v∈l2↔v∈r.V.filter (λv=>!mQ o v)++[qA o r.V]/\v.Of=o.Of)->Bs l2.length M K->(l2.map λv=>(v.By,v.Device)).Nodup->∀X:aK,∃s',Wr T s r ((T++X).set s.ms[k].2.2 (some (KO l2 M K))) s' {r with V:=r.V.filter (λv=>!mQ o v)++[qA o r.V]}:=e_
     cases e4:l.findIdx? (λv=>o.By==v.By&&o.Device==v.Device) with
     |none=>
      rw[e4]at E;simp only[xD]at E;obtain⟨n1,n2,n3⟩:=O3 aa ai e4;simp only[go_sem,R,a3,ak,bb,b3,b4,Q,z,CR,aD,dH,dD,eB,jC,dM,E,undef];have:=D (l++[qA o r.V]) (bv++[cv]) (cv+1) n2 (by rw[dZ];exact az.suc) n3 [some (.box o.A),some (.box x.A),some (.box [iv o.By,iv o.Device])];rw[KO,n1,bZ,bZ]at this;rw[n1];exact this
     | some n=>
      rw[e4]at E;simp only[iX,mG]at E;obtain⟨hn,J,_⟩:=Ad.1 e4;simp only[zJ,beq_iff_eq]at J;obtain⟨n1,n2,n3⟩:=O4 wv.nd aa ai hn J.1 J.2;have bo:(l.map λv=>iv v.At)[n]?=some (iv l[n].At):=aO _ l n hn;simp only[go_sem,R,a3,ak,bb,b3,b4,Q,z,CR,aD,dH,dD,eB,jC,dM,E,bo,undef];refine aL (λC=>?_) (λC=>?_);have C:=of_decide_eq_true C;simp only[go_sem,b4,Q,CR,aD,dH,E];have:=D (l.set n (qA o r.V)) bv cv n2 (by rw[cL];exact az) (by rw[n3];exact ai) [some (.box o.A),some (.box x.A),some (.box [iv o.By,iv o.Device])];have ek:(l.set n (qA o r.V)).map (λv=>[Value.int .i64 v.By,Value.int .i64 v.Device])=l.map λv=>[Value.int .i64 v.By,Value.int .i64 v.Device]:=W_;rw[KO,ek,Ba,n1,(o_:min o.At l[n].At=o.At)]at this;rw[n1,(o_:min o.At l[n].At=o.At)];exact this;have C:=of_decide_eq_false C;have ao:l.set n (qA o r.V)=l:=by
       have:qA o r.V=l[n]:=du;rw[this,List.set_getElem_self]
      simp only[go_sem];refine⟨s,Wr.ofApp h ((h.app).setV λj P hI v hv=>?_)⟩;by_cases t:j=k;subst t;have:=n2 v;rw[ao,aa]at this;have ho:v.Of=o.Of:=hv.trans ab;exact⟨λh1=>(this.2 ⟨h1,ho⟩).1,λh1=>(this.1 ⟨h1,ho⟩).1⟩;exact ac j P t hI v hv
  simp only[go_sem];cases U:(o.Kind==12);rotate_left;have B:BS r o x=if(r.L[j].Is&&decide (r.L[j].ID=o.Of))=true then {r with L:=r.L.set j {r.L[j]with Obj:=true,Last:=max r.L[j].Last o.At} } else r:=by rw[BS,if_neg dx,if_neg sk,if_neg sr,if_neg s8,if_neg k0,if_neg (by simp[I]),if_pos U];simp only[hm];rw[if_neg (o_:¬(j:Int)<0),nI,nH P]
  have Q:=λX:aK=>aF (X:=X) hM.mem;cases z:r.L[j].Is;simp only[go_sem,Q,z,undef];rw[B,z,if_neg s_];exact⟨s,(Wr.refl h).app⟩;have b6:=λX:aK=>aF (X:=X) (hM.grd z);have hb:=Id.beq r.L[j].ID o.Of;cases bc:decide (r.L[j].ID=o.Of);simp only[go_sem,aD,Q,b6,z,CR,hb,bc,Id.A_def];rw[B,z,bc,if_neg s_];exact⟨s,(Wr.refl h).app⟩;have nf:s.ms[j].2.1≠T.length:=by have:=dB (hM.grd z);omega
  have b7:=λX o=>dS (o:=o) (b6 X);have b8:=λ(X:aK) o=>aY (T:=T++X) (o:=o) nf;simp only[go_sem,aD,Q,b6,b7,b8,z,CR,hb,bc,Id.A_def,List.set_set];rw[B,z,bc,if_pos (show(true&&true)=true from rfl)];obtain⟨u,f⟩:=(h.app (X:=[some (AObj.box o.A),some (AObj.box x.A)])).setObj (T':=(T++[some (AObj.box o.A),some (AObj.box x.A)]).set s.ms[j].2.1 (some (.box (CR {r.L[j]with Obj:=true,Last:=max r.L[j].Last o.At} s.ms[j].2.2)))) P ca z (b:=true) (la:=max r.L[j].Last o.At) s_ (λj P t=>kj) (by rw[dS (b6 _)]);have em:max r.L[j].Last o.At=if o.At>r.L[j].Last then o.At else r.L[j].Last:=sa
  refine⟨u,?_⟩;rw[em]at f⊢;exact Wr.ofApp h f;simp only[go_sem];cases ad:(o.Kind==13);rotate_left
  ·simp only[go_sem,aD];apply cI (AN h.app w.uniq _);rcases Hr r o.Of with⟨H,q2⟩|⟨i,F,H,q2,q3⟩
   have B:BS r o x=r:=S_;rw[B];simp only[go_sem,q2,gt_iff_lt,undef];exact⟨s,(Wr.refl h).app⟩
   ·have hN:=w.pos _ (eQ F);have B:BS r o x=if(decide (o.Old∈r.In)&&(eI r o.Old==r.L[i].N&&eI r o.Device==r.L[i].N))=true then lN (mU r o.Device (sD r (eI r o.Device))) o.Old else r:=x_
    rw[B];have ba:decide (r.L[i].N>0)=true:=decide_eq_true (bz _ (eQ F));generalize r.L[i].N=n at *
    obtain⟨bi,ci,hI,_⟩:=h.inn;unfold tK at hI;have aI:=λX:aK=>aF (X:=X) hI;have hf:=iW o.Old r.In 0;rcases K4 r.In o.Old with⟨q,e,hq,ah⟩|⟨e,ah⟩
    rotate_left;rw[e]at hf;simp only[xD]at hf;simp only[go_sem,q3,ba,R,aI,hf,aD,undef];rw[decide_eq_false ah,if_neg s_];exact⟨s,(Wr.refl h).app⟩;rw[e]at hf;simp only[iX,mG]at hf;have bp:(r.In.map λ_=>AV.v (.bool true))[q]?=some (.v (.bool true)):=by rw[gE,jN hq];rfl
    simp only[go_sem,q3,ba,R,aI,hf,bp,aD];rw[decide_eq_true ah,mF];apply cI (af _ _);cases c1:(eI r o.Old==n);simp only[go_sem,c1,undef,lR];exact⟨s,(Wr.refl h).app⟩;simp only[go_sem,c1,aD];apply cI (af _ _);cases c2:(eI r o.Device==n);simp only[go_sem,c2];exact⟨s,(Wr.refl h).app⟩;simp only[go_sem,c2,aD];apply cI (af _ _);simp only[go_sem,aD];apply cI (B5 h.app _);simp only[go_sem,aD];apply jA (rX h.app _ _);rintro y T' ⟨u,f⟩;have t0:T'[T.length]?=some (some (.box o.A)):=f.keep0 h aD;have hg:=uK (G:=G) f.at' (D6 hn _ _) (KS w.nn _ _) o.Old;rw[f.root]at hg;simp only[go_sem,t0];apply jA hg;rintro y T' ⟨s2,W2⟩;simp only[go_sem];exact⟨s2,Wr.ofApp h (f.trans W2)⟩
  simp only[go_sem];have B:BS r o x=r:=K_;rw[B];exact⟨s,(Wr.refl h).app⟩
 ·have a2:=λX:aK=>aF (X:=X) h2;simp only[go_sem,R,a2,bh,aD];cases O:(o.Kind==1);rotate_left;have B:BS r o x=if 0<r.In.length\/0<r.Gone.length\/eI r o.By=0 then r else {mU r o.By 3 with Back:=o.Need}:=by rw[BS,if_pos O]
  rw[B];obtain⟨lw,bw,cw,hw,cl,ch,av⟩:=h.was;unfold tK at hw;have a3:=λX:aK=>aF (X:=X) hw;cases c1:((lw.length:Int)==0);simp only[go_sem,R,a3,aP,c1,undef];rw[if_pos];exact⟨s,(Wr.refl h).app⟩;have:lw≠[]:=λe=>by rw[e]at c1;simp at c1
  rw[Ne,av]at this;rcases JX r.In.length with h1|h1;rcases JX r.Gone.length with h3|h3;exact absurd ⟨Ae h1,Ae h3⟩ this;exact .inr (.inl h3);exact .inl h1;simp only[go_sem,R,a3,aP,c1,aD];have au:lw=[]:=Ae (by simpa using c1);obtain⟨i0,g0⟩:=av.1 au;apply cI (rW h.app _);cases b1:lZ r o.By;simp only[go_sem];have:eI r o.By=0:=T_;rw[if_pos (.inr (.inr this))];exact⟨s,(Wr.refl h).app⟩;simp only[go_sem,aD];apply jA (rX h.app _ _);rintro y T' ⟨u,f⟩;have r1:=f.at'.root;have t0:T'[T.length]?=some (some (.box o.A)):=f.keep0 h aD;rw[f.root]at r1;simp only[go_sem,t0,r1];rw[if_neg (by rw[i0,g0];have:=(C3 b1).2.2;simp;omega)];have W2:=f.at'.setBack (T':=T'.set s.root (some (.box [.mp u.c,.mp u.i,.mp u.w,.mp u.m,iv o.Need]))) (b:=o.Need) s_ (λj P t=>by rw[f.root]at t;rw[aY (Ne.symm t)]) (by rw[f.root,dS r1]);exact⟨u,Wr.ofApp h (f.trans W2)⟩;simp only[go_sem];cases S:(o.Kind==2);rotate_left;have B:BS r o x=mU r o.Device o.Role:=by rw[BS,if_neg dx,if_pos S]
  rw[B];simp only[go_sem,aD];apply jA (rX h.app _ _);rintro y T' ⟨u,f⟩;simp only[go_sem];exact⟨u,Wr.ofApp h f⟩;simp only[go_sem];cases k3:(o.Kind==3);rotate_left;have B:BS r o x=(if o.Device=0 then r.In.filter (λd=>eI r d==o.Member) else [o.Device]).foldl lN r:=by rw[BS,if_neg dx,if_neg sk,if_pos k3]
  rw[B];cases d0:(o.Device !=0);simp only[go_sem,d0,aD];rw[if_pos (by simpa using d0)];apply cI (Fp h.app am cb);have Z:=Hl r.In;have bd:(C0 r.In).Nodup:=Z.nodup_iff.2 hn;have ce:(C0 r.In).length<=12:=by rw[Z.length_eq];exact am
  have D:∀{T':aK}{u:RP},Wr (T++[some (.box o.A),some (.box x.A)]) s r T' u (((C0 r.In).filter λd=>eI r d==o.Member).foldl lN r)->∃s',Wr T s r T' s' ((r.In.filter λd=>eI r d==o.Member).foldl lN r):=by
   intro T' u W
   have q:=λ(ds:B_)(hp:ds.Perm r.In)(hd:ds.Nodup)=>foldGoes (n:=o.Member) (ds.filter λd=>eI r d==o.Member) r (hd.filter _) (λd bj=>by
    obtain⟨h1,h2⟩:=gR.1 bj
    exact⟨hp.mem_iff.1 h1,oo⟩)
   rw[q _ Z bd]at W;rw[q _ (.refl _) hn];exact⟨u,(Wr.ofApp h W).trans (RH (Z.filter _) W.at')⟩
  generalize C0 r.In=ds at *
  simp only[go_sem,aP]
  refine kL (λn st=>∃i,i<=ds.length/\n=ds.length-i/\∃(T1:aK)(u:RP),Wr (T++[some (.box o.A),some (.box x.A)]) s r T1 u (((ds.take i).filter λd=>eI r d==o.Member).foldl lN r) /\
   st=⟨T.length,[(71,iv i),(70,iv ds.length),(69,rG ds),(4,.ptr T.length 0),(0,.ptr s.root 0)],T1⟩) ds.length ⟨0,pR _,rfl,_,s,Wr.refl h.app,rfl⟩ ?_
  rintro n st ⟨i,F,cg,T1,u,f,rfl⟩;rcases eD i ds.length with C|ck;have ws:=fQ i o_;have g0:(ds.map λn=>[iv n])[i]?=some [iv ds[i]]:=aO _ ds i C;have t0:T1[T.length]?=some (some (.box o.A)):=f.keep0 h aD;have ft:(ds.take (i+1)).filter (λd=>eI r d==o.Member)=(ds.take i).filter (λd=>eI r d==o.Member)++if(eI r ds[i]==o.Member)=true then [ds[i]] else []:=by rw[lB C,Mf,List.filter_cons,List.filter_nil]
  obtain⟨bf,be,bk⟩:=D7 ((ds.take i).filter λd=>eI r d==o.Member) r hn w.nn;have ap:=kE (G:=G) f.at' ds[i];rw[KU bk,f.root]at ap;have ay:=uK (G:=G) f.at' bf be ds[i];rw[f.root]at ay;simp only[go_sem,aT C,g0,t0];apply cI ap;cases hq:(eI r ds[i]==o.Member);rw[hq,if_neg d_,jO]at ft;simp only[go_sem,hq,t0,ws];exact⟨ds.length-(i+1),o_,i+1,o_,rfl,_,u,by rw[ft];exact f,rfl⟩;rw[hq,if_pos rfl]at ft;simp only[go_sem,hq,t0];apply jA ay;rintro y T' ⟨s2,W2⟩;simp only[go_sem,ws];exact⟨ds.length-(i+1),o_,i+1,o_,rfl,_,s2,by rw[ft,Hy];exact f.trans W2,rfl⟩;obtain rfl:i=ds.length:=o_;rw[dE]at f;simp only[go_sem,aS (bP _)];exact D f;simp only[go_sem,d0,aD];rw[if_neg (by simpa using d0)];apply jA (uK h.app hn w.nn _);rintro y T' ⟨u,f⟩;simp only[go_sem];exact⟨u,Wr.ofApp h f⟩;simp only[go_sem];cases k5:(o.Kind==5);rotate_left;have B:BS r o x=if jL r o.Member<0 then r else {r with L:=r.L.set (jL r o.Member).toNat { (r.L.getD (jL r o.Member).toNat default) with Role:=o.Role} }:=dm
  rw[B];rcases yX h o.Member with⟨bt,br,j5,h5,aj,aq,ax,aw,bq,bn,cm⟩|⟨bt,br,h5,aj,aq⟩
  have a5:=λX:aK=>aF (X:=X) h5;have Q:=λX:aK=>aF (X:=X) bn.mem;simp only[go_sem,R,a5,aj,bq,Q,aD];rw[aq,if_neg (o_:¬(j5:Int)<0),nI,nH ax];obtain⟨u,f⟩:=(h.app (X:=[some (.box o.A),some (.box x.A)])).setRole (T':=(T++[some (AObj.box o.A),some (AObj.box x.A)]).set s.ms[j5].1 (some (.box [iv o.Role,if r.L[j5].Is=true then .ptr s.ms[j5].2.1 0 else .v (.pointer none)]))) ax aw (role:=o.Role) s_ (λj P t=>kj) (by rw[dS (Q _)]);exact⟨u,Wr.ofApp h f⟩;have a5:=λX:aK=>aF (X:=X) h5;simp only[go_sem,R,a5,aj,aD];rw[if_pos o_];exact⟨s,(Wr.refl h).app⟩;simp only[go_sem];cases k9:(o.Kind==9);rotate_left;have B:BS r o x=r:=by rw[BS,if_neg dx,if_neg sk,if_neg sr,if_neg s8,if_pos k9,BN];simp only[hm];rw[if_pos d_]
  rw[B];simp only[go_sem];exact⟨s,(Wr.refl h).app⟩;simp only[go_sem];cases I:(o.Kind==11);rotate_left
  ·have B:BS r o x=iQ r o:=P_;rw[B];have hg:=xB (G:=G) (h.app (X:=[some (.box o.A),some (.box x.A)])) w o;simp only[go_sem,aD];apply cI hg;rcases Hr r o.Of with⟨H,q2⟩|⟨i,F,H,q2,q3⟩
   have e2:gP r o=(0,25):=by rw[gP,kD];simp only[H];rfl
   have e3:iQ r o=r:=by rw[iQ,kD];simp only[H];rfl
   rw[e3,e2];simp only[go_sem];exact⟨s,(Wr.refl h).app⟩
   ·cases hb:decide (o.By∈r.L[i].Guards);have e2:gP r o=(0,14):=by rw[gP,lO F H,hb];rfl
    have e3:iQ r o=r:=ae;rw[e3,e2];simp only[go_sem];exact⟨s,(Wr.refl h).app⟩
    ·have e2:gP r o=(r.L[i].N,0):=by rw[gP,lO F H,hb,q3];rfl
     have e3:iQ r o={r with V:=r.V.filter (λv=>!mQ o v)++[qA o r.V]}:=ae;rw[e3,e2];have z:r.L[i].Is=true:=by rw[Vt,zJ]at q2;exact q2.1
     have ab:r.L[i].ID=o.Of:=by rw[Vt,zJ]at q2;exact of_decide_eq_true q2.2
     rcases yX h r.L[i].N with⟨bu,bs,k,h3,ak,ar,hk,bg,bb,al,bm⟩|⟨bu,bs,h3,ak,ar⟩
     rotate_left;exfalso;have hg:=mN (λm:MM=>m.N==r.L[i].N) r.L;have:(r.L.any λm=>m.N==r.L[i].N)=true:=CX.2 ⟨_,eQ F,s_⟩;rw[this]at hg;have:=of_decide_eq_true hg;unfold jL at ar;omega;obtain rfl:=w.nn k i hk F bm;have a3:=λX:aK=>aF (X:=X) h3;have b3:=λX:aK=>aF (X:=X) al.mem;have b4:=λX:aK=>aF (X:=X) (al.grd z);obtain⟨l,bv,cv,ae,az,hl,ai⟩:=al.vch z;have an:=ae;unfold KO at an;have Q:=λX:aK=>aF (X:=X) an;have aa:∀v,v∈l↔v∈r.V/\v.Of=o.Of:=λv=>by rw[hl,ab]
     have E:=S3 o.By o.Device l 0;have lv:=dB ae
     have ac:∀j(P:j<r.L.length),j≠k->r.L[j].Is=true->∀v:VM,v.Of=r.L[j].ID->(v∈r.V.filter (λv=>!mQ o v)++[qA o r.V]↔v∈r.V):=λj P t hI v hv=>
      O5 (λe=>t (w.uniq j k P hk hI z (e.trans ab.symm))) hv
     have D:∀l2 M K,(∀v,v∈l2↔v∈r.V.filter (λv=>!mQ o v)++[qA o r.V]/\v.Of=o.Of)->Bs l2.length M K->(l2.map λv=>(v.By,v.Device)).Nodup->∀X:aK,∃s',Wr T s r ((T++X).set s.ms[k].2.2 (some (KO l2 M K))) s' {r with V:=r.V.filter (λv=>!mQ o v)++[qA o r.V]}:=e_
     cases e4:l.findIdx? (λv=>o.By==v.By&&o.Device==v.Device) with
     |none=>
      rw[e4]at E;simp only[xD]at E;obtain⟨n1,n2,n3⟩:=O3 aa ai e4;simp only[go_sem,R,a3,ak,bb,b3,b4,Q,z,CR,aD,dH,dD,eB,jC,dM,E,undef];have:=D (l++[qA o r.V]) (bv++[cv]) (cv+1) n2 (by rw[dZ];exact az.suc) n3 [some (.box o.A),some (.box x.A),some (.box [iv o.By,iv o.Device])];rw[KO,n1,bZ,bZ]at this;rw[n1];exact this
     | some n=>
      rw[e4]at E;simp only[iX,mG]at E;obtain⟨hn,J,_⟩:=Ad.1 e4;simp only[zJ,beq_iff_eq]at J;obtain⟨n1,n2,n3⟩:=O4 wv.nd aa ai hn J.1 J.2;have bo:(l.map λv=>iv v.At)[n]?=some (iv l[n].At):=aO _ l n hn;simp only[go_sem,R,a3,ak,bb,b3,b4,Q,z,CR,aD,dH,dD,eB,jC,dM,E,bo,undef];refine aL (λC=>?_) (λC=>?_);have C:=of_decide_eq_true C;simp only[go_sem,b4,Q,CR,aD,dH,E];have:=D (l.set n (qA o r.V)) bv cv n2 (by rw[cL];exact az) (by rw[n3];exact ai) [some (.box o.A),some (.box x.A),some (.box [iv o.By,iv o.Device])];have ek:(l.set n (qA o r.V)).map (λv=>[Value.int .i64 v.By,Value.int .i64 v.Device])=l.map λv=>[Value.int .i64 v.By,Value.int .i64 v.Device]:=W_;rw[KO,ek,Ba,n1,(o_:min o.At l[n].At=o.At)]at this;rw[n1,(o_:min o.At l[n].At=o.At)];exact this;have C:=of_decide_eq_false C;have ao:l.set n (qA o r.V)=l:=by
       have:qA o r.V=l[n]:=du;rw[this,List.set_getElem_self]
      simp only[go_sem];refine⟨s,Wr.ofApp h ((h.app).setV λj P hI v hv=>?_)⟩;by_cases t:j=k;subst t;have:=n2 v;rw[ao,aa]at this;have ho:v.Of=o.Of:=hv.trans ab;exact⟨λh1=>(this.2 ⟨h1,ho⟩).1,λh1=>(this.1 ⟨h1,ho⟩).1⟩;exact ac j P t hI v hv
  simp only[go_sem];cases U:(o.Kind==12);rotate_left;have B:BS r o x=r:=by rw[BS,if_neg dx,if_neg sk,if_neg sr,if_neg s8,if_neg k0,if_neg (by simp[I]),if_pos U];simp only[hm];rw[if_pos d_]
  rw[B];simp only[go_sem,undef];exact⟨s,(Wr.refl h).app⟩;simp only[go_sem];cases ad:(o.Kind==13);rotate_left
  ·simp only[go_sem,aD];apply cI (AN h.app w.uniq _);rcases Hr r o.Of with⟨H,q2⟩|⟨i,F,H,q2,q3⟩
   have B:BS r o x=r:=S_;rw[B];simp only[go_sem,q2,gt_iff_lt,undef];exact⟨s,(Wr.refl h).app⟩
   ·have hN:=w.pos _ (eQ F);have B:BS r o x=if(decide (o.Old∈r.In)&&(eI r o.Old==r.L[i].N&&eI r o.Device==r.L[i].N))=true then lN (mU r o.Device (sD r (eI r o.Device))) o.Old else r:=x_
    rw[B];have ba:decide (r.L[i].N>0)=true:=decide_eq_true (bz _ (eQ F));generalize r.L[i].N=n at *
    obtain⟨bi,ci,hI,_⟩:=h.inn;unfold tK at hI;have aI:=λX:aK=>aF (X:=X) hI;have hf:=iW o.Old r.In 0;rcases K4 r.In o.Old with⟨q,e,hq,ah⟩|⟨e,ah⟩
    rotate_left;rw[e]at hf;simp only[xD]at hf;simp only[go_sem,q3,ba,R,aI,hf,aD,undef];rw[decide_eq_false ah,if_neg s_];exact⟨s,(Wr.refl h).app⟩;rw[e]at hf;simp only[iX,mG]at hf;have bp:(r.In.map λ_=>AV.v (.bool true))[q]?=some (.v (.bool true)):=by rw[gE,jN hq];rfl
    simp only[go_sem,q3,ba,R,aI,hf,bp,aD];rw[decide_eq_true ah,mF];apply cI (af _ _);cases c1:(eI r o.Old==n);simp only[go_sem,c1,undef,lR];exact⟨s,(Wr.refl h).app⟩;simp only[go_sem,c1,aD];apply cI (af _ _);cases c2:(eI r o.Device==n);simp only[go_sem,c2];exact⟨s,(Wr.refl h).app⟩;simp only[go_sem,c2,aD];apply cI (af _ _);simp only[go_sem,aD];apply cI (B5 h.app _);simp only[go_sem,aD];apply jA (rX h.app _ _);rintro y T' ⟨u,f⟩;have t0:T'[T.length]?=some (some (.box o.A)):=f.keep0 h aD;have hg:=uK (G:=G) f.at' (D6 hn _ _) (KS w.nn _ _) o.Old;rw[f.root]at hg;simp only[go_sem,t0];apply jA hg;rintro y T' ⟨s2,W2⟩;simp only[go_sem];exact⟨s2,Wr.ofApp h (f.trans W2)⟩
  simp only[go_sem];have B:BS r o x=r:=K_;rw[B];exact⟨s,(Wr.refl h).app⟩
end
def aA.lift{P:Program}{G:L_}{f:FuncId}{args args2:O_}{T T2:aK}{R:AV}(L:V_)(d:L.Nodup)(m:∀i∈L,i<T.length)(j:xF L args=args2)(k:GX L T=T2)(g:IF L T.length T L T2=T)(l:gF R=[])
 (e:aA P G f args2 T2 λr a=>r=R/\a=T2):aA P G f args T λr a=>r=R/\a=T:=by
 have c:IG P G f args T λr a=>r=R/\a=T:=by refine⟨args,aB _,.inl ⟨L,d,m,?_⟩⟩;subst j k;apply e.mono;rintro r a ⟨rfl,rfl⟩;exact⟨Yo l,g⟩
 exact λh p w b n hI o=>Ei c n hI o
structure GAt(T:aK)(p:Nat×Nat×Nat)(g:PGM):Prop where
 a:T[p.1]?=some (some (.box [.ls 5 (g.cards.map CardM.A),.mp p.2.1,.own p.2.2]))
 b:T[p.2.1]?=some (some (MG g.I))
 c:T[p.2.2]?=some (some (.arr 35 (g.nodes.map ND.A)))
 n1:p.1≠p.2.1
 n2:p.1≠p.2.2
 n3:p.2.1≠p.2.2
def GAt.app{T X:aK}{p:Nat×Nat×Nat}{g:PGM}(h:GAt T p g):GAt (T++X) p g:=⟨aF h.a,aF h.b,aF h.c,h.n1,h.n2,h.n3⟩
def GAt.mono{T T':aK}{p:Nat×Nat×Nat}{g:PGM}(h:GAt T p g)(d:∀i,i=p.1\/i=p.2.1\/i=p.2.2->T'[i]?=T[i]?):GAt T' p g :=
 ⟨by rw[d _ (.inl rfl)];exact h.a,by rw[d _ (.inr (.inl rfl))];exact h.b,by rw[d _ (.inr (.inr rfl))];exact h.c,h.n1,h.n2,h.n3⟩
def gL(p:Nat×Nat×Nat):V_:=[p.1,p.2.1,p.2.2]
def JN{T:aK}{i:Nat}{o:Option AObj}(h:T[i]?=some o):T.set i o=T:=by obtain⟨a,rfl⟩:=sV.1 h;simp
def aHc{p:Nat×Nat×Nat}(c:p.1≠p.2.1)(b:p.1≠p.2.2)(a:p.2.1≠p.2.2):TO (gL p) p.1=some 0/\TO (gL p) p.2.1=some 1/\TO (gL p) p.2.2=some 2:=by grind[gL,TO,List.idxOf?]
section
variable{P:Program}{G:L_}{f:FuncId}{args args2:O_}{T:aK}{p:Nat×Nat×Nat}{g:PGM}{R:AV}
def GAt.nd(h:GAt T p g):(gL p).Nodup:=by simp[gL,h.n1,h.n2,h.n3]
def GAt.lt(h:GAt T p g):∀i∈gL p,i<T.length:=by intro i d;simp only[gL,cS,pP,or_false]at d;rcases d with rfl|rfl|rfl;exact(sV.1 h.a).1;exact(sV.1 h.b).1;exact(sV.1 h.c).1
def aIx(L:V_)(f:Nat->Int)(l:V_):xF L (l.map λi=>iv (f i))=l.map λi=>iv (f i):=yM (Eu λ_=>rfl)
def aIy(L:V_)(n:Nat)(f:Nat->Int)(l:V_):EJ L n (l.map λi=>iv (f i))=l.map λi=>iv (f i):=HJ (Eu λ_=>rfl)
def GAt.rn(h:GAt T p g):GX (gL p) T=TG 0 g:=by obtain⟨m,f,d⟩:=aHc h.n1 h.n2 h.n3;have l:=kU h.a;have k:=kU h.b;have j:=kU h.c;have e:GX (gL p) T=[p.1,p.2.1,p.2.2].map λi=>(cR T i).bind (YQ (gL p)):=rfl;rw[e];simp only[fG,uP,l,k,j,H6,YQ,MG,xF,Bd,f,d,TG,aIx,pQ]
def GAt.bk(h:GAt T p g):IF (gL p) T.length T (gL p) (TG 0 g)=T:=by
 have e:IF (gL p) T.length T (gL p) (TG 0 g)=((T.set p.1 (DC (gL p) T.length (some (.box [.ls 5 (g.cards.map CardM.A),.mp (0+1),.own (0+2)])))).set p.2.1 (DC (gL p) T.length (some (MG g.I)))).set p.2.2 (DC (gL p) T.length (some (.arr 35 (g.nodes.map ND.A)))):=rfl;rw[e];have i:DC (gL p) T.length (some (.box [.ls 5 (g.cards.map CardM.A),.mp (0+1),.own (0+2)]))=some (.box [.ls 5 (g.cards.map CardM.A),.mp p.2.1,.own p.2.2]):=Y_;have f:DC (gL p) T.length (some (MG g.I))=some (MG g.I):=by simp only[DC,MG,aIy]
 have d:DC (gL p) T.length (some (.arr 35 (g.nodes.map ND.A)))=some (.arr 35 (g.nodes.map ND.A)):=rfl;rw[i,f,d,JN h.a,JN h.b,JN h.c]
def GAt.lift(h:GAt T p g)(c:xF (gL p) args=args2)(d:gF R=[])(b:aA P G f args2 (TG 0 g) λr a=>r=R/\a=TG 0 g):aA P G f args T λr a=>r=R/\a=T :=
 aA.lift (gL p) h.nd h.lt c h.rn h.bk d b
def gL0(h:GAt T p g):TO (gL p) p.1=some 0:=(aHc h.n1 h.n2 h.n3).1
end
section
variable{T:aK}{p:Nat×Nat×Nat}{g:PGM}
def JO(h:GAt T p g)(a:g.ok)(x y:Id):aA PQ G eZ [.ptr p.1 0,.ag x.A,.ag y.A] T λr b=>r=.v (.bool (oH g x y))/\b=T :=
 h.lift ke rfl (aDR g a x y)
def S4(h:GAt T p g)(a:g.ok):aA PQ G kJ [.ptr p.1 0] T λr b=>r=.ls 5 (g.cards.map CardM.A)/\b=T :=
 h.lift (by simp only[xF,Bd,gL0 h]) rfl (aAZ g a)
def S5(h:GAt T p g)(b:g.ok)(x:Id)(a:x∈g.I):aA PQ G bY [.ptr p.1 0,.ag x.A] T λr c=>r=.tup [.ag (g.nd x).o.A,.v (.bool true)]/\c=T :=
 h.lift ke (by simp only[gF,iZ,OpM.ids0,jO]) (aDQ g b x a)
def MW(h:GAt T p g)(x:Id)(a:x∉g.I):aA PQ G bY [.ptr p.1 0,.ag x.A] T λr b=>r=.tup [.ag P1,.v (.bool false)]/\b=T :=
 h.lift ke rfl (aAY g x a)
def aG9(h:GAt T p g)(c:g.ok)(l:D_)(a:l.Nodup)(b:l.length<=60000):aA PQ G mJ [.ptr p.1 0,ids l] T λr d=>r=ids (eO g l)/\d=T :=
 h.lift (by simp only[xF,Bd,gL0 h,ids]) rfl (ZK g c l a b)
def aIA(h:GAt T p g)(a:g.ok)(o:OpM)(d:Int):aA PQ G Bj [.ptr p.1 0,.ag o.A,iv d] T λr b=>r=.v (.bool (U6 g.cards o d))/\b=T :=
 h.lift (by simp only[xF,Bd,gL0 h,yM o.ids0]) rfl (aFS g a o d)
end
section
variable{T:aK}{p:Nat×Nat×Nat}{g:PGM}
def GQ (h:GAt T p g) (w:g.ok) (x y:Id):aA PQ G mI [.ptr p.1 0,.ag x.A,.ag y.A] T λr C=>r=.v (.bool (lA g x y))/\C=T:=by
 apply eH Lb;have B:=λX x y=>JO (G:=G) (h.app (X:=X)) w x y;have u:=Id.beq x y;have i:∀{X:aK}{a b c d:Option AObj},(T++a::b::c::d::X)[T.length+3]?=some d:=by intros;simp
 have t:∀{X:aK}{a b c d e:Option AObj},(T++a::b::c::d::X).set (T.length+3) e=T++a::b::c::e::X:=by intros;simp
 by_cases h1:x∈g.I
 ·have z:=λX=>S5 (G:=G) (h.app (X:=X)) w x h1;by_cases h2:y∈g.I
  ·have q:=λX=>S5 (G:=G) (h.app (X:=X)) w y h2;have n:=λX=>aIA (G:=G) (h.app (X:=X)) w (g.nd x).o (g.nd y).o.By;have s:lA g x y=(!decide (x=y)&&(!oH g y x&&(!oH g x y&&Oh g.cards (g.nd x).o (g.nd y).o))):=by grind[lA]
   rw[s];clear s;generalize(g.nd x).o=a at *
   generalize(g.nd y).o=b at *
   simp only[go_sem,aD,eB,jC,dM,Id.A_def];apply cI (z _);simp only[go_sem,aR,dH,dD,eB,jC,dM];apply cI (q _);cases c1:decide (x=y);rotate_left;simp only[go_sem,aD,aR,i,t,eB,jC,dM,u,c1,undef,aH];simp only[go_sem,aD,aR,i,t,eB,jC,dM,u,c1];apply cI (B _ y x);cases c2:oH g y x;rotate_left;simp only[go_sem,undef,aH];simp only[go_sem,aD,aR,jC,dM];apply cI (B _ x y);cases c3:oH g x y;rotate_left;simp only[go_sem,aH];simp only[go_sem,dH];unfold Oh;have l:=Id.beq a.Of b.Of;have j:=Id.beq b.Of a.Of;cases D:(a.Kind==3);cases f:(a.Kind==13);cases k:(a.Kind==12);simp only[go_sem,f,k,aH];cases m:(b.Kind==13);simp only[go_sem,i,f,k,m,undef,aH];cases q2:decide (b.Of=a.Of);simp only[go_sem,dH,i,Id.A_def,f,k,m,q2,j,undef,aH];simp only[go_sem,dH,i,Id.A_def,f,k,m,q2,j,aH];cases m:(b.Kind==12);simp only[go_sem,dH,i,jC,dM,f,m,undef];apply cI (n _);simp only[go_sem,aH,sF,mF,Ea,lR,EI,Ed];cases q2:decide (a.Of=b.Of);simp only[go_sem,dH,i,jC,dM,Id.A_def,f,m,q2,l];apply cI (n _);simp only[go_sem,aH,sF,mF,Ea,EI,Ed];simp only[go_sem,dH,i,Id.A_def,f,m,q2,l,undef,aH];have f:(a.Kind==13)=false:=u_;simp only[go_sem,dH,i,jC,dM,f,undef];apply cI (n _);simp only[go_sem,aH,sF,mF,EI,Ed];rw[f];rfl
  have q:=λX=>MW (G:=G) (h.app (X:=X)) y h2;have s:lA g x y=false:=by grind[lA]
  rw[s];generalize(g.nd x).o=a at *
  simp only[go_sem,aD,eB,jC,dM,Id.A_def];apply cI (z _);simp only[go_sem,aR,dH,dD,eB,jC,dM,undef];apply cI (q _);simp only[go_sem,i,t,eB,jC,dM,undef,aH,P1]
 have z:=λX=>MW (G:=G) (h.app (X:=X)) x h1;have s:lA g x y=false:=by grind[lA]
 rw[s];by_cases h2:y∈g.I;have q:=λX=>S5 (G:=G) (h.app (X:=X)) w y h2;generalize(g.nd y).o=b at *
 simp only[go_sem,aD,eB,jC,dM,Id.A_def];apply cI (z _);simp only[go_sem,aR,dH,dD,eB,jC,dM,undef,P1];apply cI (q _);simp only[go_sem,i,t,eB,jC,dM,undef,aH];have q:=λX=>MW (G:=G) (h.app (X:=X)) y h2;simp only[go_sem,aD,eB,jC,dM,Id.A_def];apply cI (z _);simp only[go_sem,aR,dH,dD,eB,jC,dM,undef,P1];apply cI (q _);simp only[go_sem,i,t,eB,jC,dM,undef,aH,P1]
end
def ZO(g:PGM)(r:RM)(y:Id):RM:=BS r (g.nd y).o y
def Lo(g:PGM)(some:D_)(x:Id):RM:=(some.filter λy=>oH g y x).foldl (ZO g) (RM.new g.cards)
structure GGood(g:PGM):Prop where
 ok:g.ok
 chk:∀n∈g.nodes,vF n.o=0
 cards:CardsG g.cards
 idb:∀n∈g.nodes,n.id.b<=2^62
def aEo{g:PGM}{x:Id}(a:x∈g.I):g.nd x∈g.nodes:=by
 obtain⟨j,e,l,_⟩:=dG a;have b:j<g.nodes.length:=by simpa[PGM.I]using l
 rw[RA e,rH,jN b];simp
def GGood.op{g:PGM}(h:GGood g){x:Id}(a:x∈g.I):OpGood (g.nd x).o/\(g.nd x).o.ok:=⟨aIr (h.chk _ (aEo a)),h.ok.ops _ (aEo a)⟩
def B6{g:PGM}(h:GGood g):∀(l:D_){D:D_}{r:RM},RGood D g.cards r->(∀x∈l,x∈g.I)->(l++D).Nodup->RGood (l.reverse++D) g.cards (l.foldl (ZO g) r)
 |[],_,_,d,_,_=>d
 | x::l,D,r,d,j,c=>by
  rw[jC,BU]at c;have h1:=d.do' h.cards (h.op (j x EV)).1 (x:=x) (λf=>c.1 (List.mem_append_right _ f))
  have h2:=B6 h l h1 (λy m=>j y (GU _ m)) (by
   rw[vQ]at c⊢;refine⟨c.2.1,BU.2 ⟨λf=>c.1 (List.mem_append_right _ f),c.2.2.1⟩,λa k b i e=>?_⟩;rcases cS.1 i with rfl|i;subst e;exact c.1 (List.mem_append_left _ k)
   exact c.2.2.2 a k b i e)
  rw[CW,List.reverse_cons,eB];exact h2
structure Above(T T':aK)(s:RP)(r:RM):Prop where
 at':RollAt T' s r
 ext:∃X,T'=T++X
 fp:∀i,aB7 s r i->T.length<=i
def aIB{T T':aK}(a:T.length<=T'.length)(h:∀i,i<T.length->T'[i]?=T[i]?):∃X,T'=T++X:=by
 refine⟨T'.drop T.length,?_⟩;have:T=T'.take T.length:=by refine EW λi=>?_;grind
 conv=>lhs;rw[<-LC T.length T']
 rw[<-this]
def Above.wr{T d T2 X:aK}{s b:RP}{r c:RM}(h:Above T d s r)(w:Wr (d++X) s r T2 b c):Above T T2 b c:=by obtain⟨Y,rfl⟩:=h.ext;refine⟨w.at',aIB ?_ λi a=>?_,λi a=>?_⟩;have:=w.len;simp only[dZ]at this;omega;rw[w.same i sc λe=>absurd (h.fp i e) o_,eB,mY a];rcases w.fp i a with h1|h1;exact h.fp i h1;simp_all;omega
def Above.app{T a X:aK}{s:RP}{r:RM}(h:Above T a s r):Above T (a++X) s r:=h.wr (Wr.refl h.at'.app)
section
variable{T:aK}{p:Nat×Nat×Nat}{g:PGM}{l:Nat}{row v f:AV}
def aKu(h:GAt T p g)(d:GGood g)(hl:T[l]?=some (some (.box [.ptr p.1 0,row,v,f])))(ss:D_)(H:∀x∈ss,x∈g.I)(L:ss.Nodup)(x:Id):
 aA PQ G pD [.ptr l 0,ids ss,.ag x.A] T λy T'=>∃s,y=.ptr s.root 0/\Above T T' s (Lo g ss x):=by
 apply fT BG;have S:=λX:aK=>aF (X:=X) hl;simp only[go_sem,S,jC,dM,ids];apply cI (S4 (h.app) d.ok);simp only[go_sem];apply jA (O1 g.cards (by have:=d.cards.len;omega) d.cards.nd);rintro y T' ⟨E,rfl,J,⟨X0,rfl⟩,P⟩;simp only[go_sem,aP];have B:Above (T++[some (.box x.A)]) (T++[some (.box x.A)]++X0) E (RM.new g.cards):=⟨J,⟨X0,rfl⟩,P⟩
 have O:∀i,RGood (((ss.take i).filter λy=>oH g y x).reverse++[]) g.cards (((ss.take i).filter λy=>oH g y x).foldl (ZO g) (RM.new g.cards)):=λi=>by refine B6 d _ (RGood.new d.cards) (λy hy=>H y (C8 (gR.1 hy).1)) ?_;rw[jO];exact(L.sublist (List.take_sublist _ _)).sublist List.filter_sublist
 have aa:ss.length<=200:=by have:=List.Nodup.length_le_of_subset L H;have h2:=d.ok.n;simp only[PGM.I,aP]at this;omega
 refine kL (λn V=>∃i,i<=ss.length/\n=ss.length-i/\∃(U:aK)(t:RP),t.root=E.root/\Above (T++[some (.box x.A)]) U t (((ss.take i).filter λy=>oH g y x).foldl (ZO g) (RM.new g.cards)) /\
  V=⟨T.length,[(20,iv i),(19,iv ss.length),(18,ids ss),(7,.ptr E.root 0),(5,.ptr T.length 0),(0,.ptr l 0)],U⟩) ss.length ⟨0,pR _,rfl,_,E,rfl,B,rfl⟩ ?_
 rintro n V ⟨i,hi,ab,U,t,b,u,rfl⟩;rcases eD i ss.length with c|ac;rotate_left;obtain rfl:i=ss.length:=o_;rw[dE]at u;simp only[go_sem,aS (bP _)];refine⟨t,by rw[b],u.at',?_,λj N=>?_⟩;obtain⟨X,hX⟩:=u.ext;exact⟨_,by rw[hX,eB]⟩;have:=u.fp j N;rw[dZ]at this;omega;have F:=fQ i o_;have w:=H _ (eQ c);have g0:(ss.map Id.A)[i]?=some ss[i].A:=aO _ ss i c;have D:(ss.take (i+1)).filter (λy=>oH g y x)=(ss.take i).filter (λy=>oH g y x)++if oH g ss[i] x=true then [ss[i]] else []:=by rw[lB c,Mf,List.filter_cons,List.filter_nil]
 have a:=O i;have hz:ss[i]∉(ss.take i).filter λy=>oH g y x:=λM=>by obtain⟨j,N,e⟩:=List.mem_iff_getElem.1 (gR.1 M).1;rw[eC]at N;rw[List.getElem_take]at e;have:j=i:=(C9 (h₀:=o_) (h₁:=c) L).1 e;omega
 generalize((ss.take i).filter λy=>oH g y x)=done at *
 have q:=u;obtain⟨X,rfl⟩:=u.ext;simp only[go_sem,aT c,g0,ids,aZ,cP,fF,iR,oX,sW,yG,S,Id.A_def,eB,jC,dM,Nat.reduceAdd];apply cI (JO (h.app) d.ok ss[i] x);cases Y:oH g ss[i] x;rw[Y,if_neg d_,jO]at D;simp only[go_sem,F];refine⟨ss.length-(i+1),o_,i+1,o_,rfl,_,t,b,?_,rfl⟩;rw[D];have:=q.app (X:=[some (.box ss[i].A)]);simpa only[eB,jC,dM,Id.A_def]using this
 ·rw[Y,if_pos rfl]at D;simp only[go_sem,aZ,fF,oX,sW,S,eB,jC,dM,sY,Nat.reduceAdd];have cE:=λX=>S5 (G:=G) (h.app (X:=X)) d.ok ss[i] w;generalize ss[i]=z at *
  have hR:=λZ:aK=>(q.app (X:=Z)).at';have K:=d.op w;have C:=a.nodup12 d.cards
  have k:=λZ:aK=>RK (G:=G) (hR Z) a.wf a.inn (aEk (by rw[a.cards];exact d.cards)) C.1 C.2 (g.nd z).o z (by have:=K.1.gl;omega) (λv hv e=>by
   obtain⟨m,M,hI,R,_⟩:=a.vof v hv;have:=a.gid m M hI;rw[R,e,jO,List.mem_reverse]at this
   exact hz this) a.wv a.pos
  rw[b]at k;have Q:∀{Z T':aK}{r:RP},Wr (T++[some (.box x.A)]++X++Z) t (done.foldl (ZO g) (RM.new g.cards)) T' r (BS (done.foldl (ZO g) (RM.new g.cards)) (g.nd z).o z)->Above (T++[some (.box x.A)]) T' r ((done++[z]).foldl (ZO g) (RM.new g.cards)):=λW=>by rw[Hy];exact q.wr W
  simp only[eB,jC,dM,Id.A_def]at k Q;refine⟨?_,?_⟩;apply cI (cE _);simp only[go_sem,aZ,cP,fF,oX,sW,yG,eB,jC,dM,sY,Nat.reduceAdd];apply jA (k _);rintro y T' ⟨r,W⟩;simp only[go_sem,F];exact⟨ss.length-(i+1),o_,i+1,o_,rfl,_,r,W.root.trans b,by rw[D];exact Q W,rfl⟩;apply cI (cE _);simp only[go_sem,aZ,cP,fF,oX,sW,yG,jC,dM,Nat.reduceAdd];apply jA (k _);rintro y T' ⟨r,W⟩;simp only[go_sem,F];exact⟨ss.length-(i+1),o_,i+1,o_,rfl,_,r,W.root.trans b,by rw[D];exact Q W,rfl⟩
def aIC(h:GAt T p g)(d:GGood g)(hl:T[l]?=some (some (.box [.ptr p.1 0,row,v,f])))(k:Nat)(ss:D_)(hk:T[k]?=some (some (.arr 3 (ss.map Id.A))))(J:∀x∈ss,x∈g.I)(M:ss.Nodup)(x:Id):
 aA PQ G pD [.ptr l 0,.own k,.ag x.A] T λy T'=>∃s,y=.ptr s.root 0/\Above T T' s (Lo g ss x):=by
 apply fT BG;have U:=λX:aK=>aF (X:=X) hl;have ak:=λX:aK=>aF (X:=X) hk;simp only[go_sem,U,jC,dM];apply cI (S4 (h.app) d.ok);simp only[go_sem];apply jA (O1 g.cards (by have:=d.cards.len;omega) d.cards.nd);rintro y T' ⟨F,rfl,K,⟨X0,rfl⟩,Q⟩;simp only[go_sem,ak,aP,eB,jC,dM];have r:Above (T++[some (.box x.A)]) (T++[some (.box x.A)]++X0) F (RM.new g.cards):=⟨K,⟨X0,rfl⟩,Q⟩
 rw[eB]at r;have P:∀i,RGood (((ss.take i).filter λy=>oH g y x).reverse++[]) g.cards (((ss.take i).filter λy=>oH g y x).foldl (ZO g) (RM.new g.cards)):=λi=>by refine B6 d _ (RGood.new d.cards) (λy hy=>J y (C8 (gR.1 hy).1)) ?_;rw[jO];exact(M.sublist (List.take_sublist _ _)).sublist List.filter_sublist
 have aa:ss.length<=200:=by have:=List.Nodup.length_le_of_subset M J;have h2:=d.ok.n;simp only[PGM.I,aP]at this;omega
 refine kL (λn Y=>∃i,i<=ss.length/\n=ss.length-i/\∃(V:aK)(w:RP),w.root=F.root/\Above (T++[some (.box x.A)]) V w (((ss.take i).filter λy=>oH g y x).foldl (ZO g) (RM.new g.cards)) /\
  Y=⟨T.length,[(20,iv i),(19,iv ss.length),(18,.own k),(7,.ptr F.root 0),(5,.ptr T.length 0),(0,.ptr l 0)],V⟩) ss.length ⟨0,pR _,rfl,_,F,rfl,r,rfl⟩ ?_
 rintro n Y ⟨i,hi,ab,V,w,c,B,rfl⟩;rcases eD i ss.length with b|ac;rotate_left;obtain rfl:i=ss.length:=o_;rw[dE]at B;simp only[go_sem,aS (bP _)];refine⟨w,by rw[c],B.at',?_,λj O=>?_⟩;obtain⟨X,hX⟩:=B.ext;exact⟨_,by rw[hX,eB]⟩;have:=B.fp j O;rw[dZ]at this;omega;have H:=fQ i o_;have C:=J _ (eQ b);have g0:(ss.map Id.A)[i]?=some ss[i].A:=aO _ ss i b;have E:(ss.take (i+1)).filter (λy=>oH g y x)=(ss.take i).filter (λy=>oH g y x)++if oH g ss[i] x=true then [ss[i]] else []:=by rw[lB b,Mf,List.filter_cons,List.filter_nil]
 have a:=P i;have hz:ss[i]∉(ss.take i).filter λy=>oH g y x:=λN=>by obtain⟨j,O,e⟩:=List.mem_iff_getElem.1 (gR.1 N).1;rw[eC]at O;rw[List.getElem_take]at e;have:j=i:=(C9 (h₀:=o_) (h₁:=b) M).1 e;omega
 generalize((ss.take i).filter λy=>oH g y x)=done at *
 have t:=B;obtain⟨X,rfl⟩:=B.ext;simp only[go_sem,aP,aT b,b,g0,aZ,cP,fF,iR,oX,sW,yG,U,ak,Id.A_def,eB,jC,dM,Nat.reduceAdd];apply cI (JO (h.app) d.ok ss[i] x);cases hb:oH g ss[i] x;rw[hb,if_neg d_,jO]at E;simp only[go_sem,H];refine⟨ss.length-(i+1),o_,i+1,o_,rfl,_,w,c,?_,rfl⟩;rw[E];have:=t.app (X:=[some (.box ss[i].A)]);simpa only[eB,jC,dM,Id.A_def]using this
 ·rw[hb,if_pos rfl]at E;simp only[go_sem,aZ,fF,oX,sW,U,eB,jC,dM,sY,Nat.reduceAdd];have cE:=λX=>S5 (G:=G) (h.app (X:=X)) d.ok ss[i] C;generalize ss[i]=z at *
  have hR:=λZ:aK=>(t.app (X:=Z)).at';have L:=d.op C;have D:=a.nodup12 d.cards
  have q:=λZ:aK=>RK (G:=G) (hR Z) a.wf a.inn (aEk (by rw[a.cards];exact d.cards)) D.1 D.2 (g.nd z).o z (by have:=L.1.gl;omega) (λv hv e=>by
   obtain⟨m,N,hI,S,_⟩:=a.vof v hv;have:=a.gid m N hI;rw[S,e,jO,List.mem_reverse]at this
   exact hz this) a.wv a.pos
  rw[c]at q;have R:∀{Z T':aK}{u:RP},Wr (T++[some (.box x.A)]++X++Z) w (done.foldl (ZO g) (RM.new g.cards)) T' u (BS (done.foldl (ZO g) (RM.new g.cards)) (g.nd z).o z)->Above (T++[some (.box x.A)]) T' u ((done++[z]).foldl (ZO g) (RM.new g.cards)):=λW=>by rw[Hy];exact t.wr W
  simp only[eB,jC,dM,Id.A_def]at q R;refine⟨?_,?_⟩;apply cI (cE _);simp only[go_sem,aZ,cP,fF,oX,sW,yG,eB,jC,dM,sY,Nat.reduceAdd];apply jA (q _);rintro y T' ⟨u,W⟩;simp only[go_sem,H];exact⟨ss.length-(i+1),o_,i+1,o_,rfl,_,u,W.root.trans c,by rw[E];exact R W,rfl⟩;apply cI (cE _);simp only[go_sem,aZ,cP,fF,oX,sW,yG,jC,dM,Nat.reduceAdd];apply jA (q _);rintro y T' ⟨u,W⟩;simp only[go_sem,H];exact⟨ss.length-(i+1),o_,i+1,o_,rfl,_,u,W.root.trans c,by rw[E];exact R W,rfl⟩
end
end Hud
