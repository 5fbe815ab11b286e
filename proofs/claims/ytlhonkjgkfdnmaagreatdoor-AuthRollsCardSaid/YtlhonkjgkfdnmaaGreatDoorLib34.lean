import Derived.Test.YtlhonkjgkfdnmaaGreatDoorLib31
import Derived.Test.YtlhonkjgkfdnmaaGreatDoorLib32
set_option linter.all false
set_option maxHeartbeats 40000000
namespace Hud
open Go
variable{G:L_}
def S2{P:Program}{G:L_}{f:FuncId}{z:HFun}{H:List (Nat×Option Nat×Nat)}(E:tF P f H=some z){args:O_}{T:aK}{R:AV}(I:∀{h:GH}{φ:Nat->Value}{m n:Nat}{u:Value},Rp h φ m R u->Rp h φ n R u)
 (A:aF8 P G z args T λr d=>r=R/\d.take T.length=T):aA P G f args T λr d=>r=R/\d=T:=by
 have q:∀{h:GH}{φ:Nat->Value}{w w':World}{v:Value},Inv h φ w T->CS h φ T w (λr d=>r=R/\d.take T.length=T) v w'->CS h φ T w (λr d=>r=R/\d=T) v w':=by
  rintro h φ w w' v hI ⟨r,d,L,p,⟨rfl,B⟩,c,g,C⟩;have l:∀i o,T[i]?=some (some o)->d[i]?=some (some o):=λi o e=>by rw[<-B,BT]at e;split at e;exact e;simp at e
  refine⟨_,T,L,p,⟨rfl,rfl⟩,?_,?_,I C⟩;exact⟨c.os,c.tape,c.output,c.size,c.frame,c.le,c.gfr,c.phi,λi o b D F=>c.org i o b (l i o D) F,cN _,c.drawn⟩;exact⟨g.gh,λi o e=>GP (g.obj i o (l i o e)) (hI.obj i o e),λi j y x b t s=>g.dis i j y x b (l i y t) (l j x s)⟩
 intro h φ w k J hI K;rcases fT E A h φ w k J hI K with⟨a,b⟩|⟨v,w',a,b⟩
 exact .inl ⟨a,b.mono λe w' ⟨v,t,s⟩=>⟨v,t,q hI s⟩⟩;grind
def aKn{a b:Value}{h:GH}{φ:Nat->Value}{m n:Nat}{u:Value}(e:Rp h φ m (.tup [.v a,.v b]) u):Rp h φ n (.tup [.v a,.v b]) u:=by grind[Rp,cC]
def aF{T X:aK}{i:Nat}{o:Option AObj}(h:T[i]?=some o):(T++X)[i]?=some o:=f_
def RollAt.app{T X:aK}{s:RP}{r:RM}(h:RollAt T s r):RollAt (T++X) s r where
 root:=aF h.root
 cards:=aF h.cards
 inn:=let⟨bs,c,a,b⟩:=h.inn;⟨bs,c,aF a,b⟩
 was:=let⟨l,bs,c,a,b⟩:=h.was;⟨l,bs,c,aF a,b⟩
 mems:=let⟨bs,c,a,b⟩:=h.mems;⟨bs,c,aF a,b⟩
 mslen:=h.mslen
 each:=λk h1 h2=>let m:=h.each k h1 h2
  ⟨aF m.mem,λe=>aF (m.grd e),λe=>let⟨l,bs,c,a,b⟩:=m.vch e;⟨l,bs,c,aF a,b⟩⟩
 nd:=h.nd
def kU{T:aK}{i:Nat}{o:AObj}(h:T[i]?=some (some o)):cR T i=some o:=by simp[cR,h]
def aD{T:aK}{a:Option AObj}{X:aK}:(T++a::X)[T.length]?=some a:=s_
def aR{T:aK}{a b:Option AObj}{X:aK}:(T++a::b::X)[T.length+1]?=some b:=s_
def eJ{T:aK}{a b c:Option AObj}{X:aK}:(T++a::b::X).set (T.length+1) c=T++a::c::X:=s_
def aH{T X:aK}:(T++X).take T.length=T:=s_
def VD{T:aK}{i j a la:Nat}{c:V_}{ag:Bool}{ks:List C_}{vs:O_}{bs:V_}{f:Nat}{K:AV->aK->Prop}(k:cR T i=some (.mit (some j) a c la))(l:cR T j=some (.map ag ks vs bs f))(h1:a<=la)(h2:∀b∈bs,b<a)(l1:ks.length=bs.length)(l2:vs.length=bs.length)
 (d:(∀b∈bs,b∈c)->K (.v (.tuple #[.bool false])) T)
 (g:∀e(h:e<bs.length),bs[e]∉c->K (.tup [.v (.bool true),.v (iY ag (ks[e]'o_)),vs[e]'o_]) (T.set i (some (.mit (some j) a (c++[bs[e]]) f)))):@aCA T (.ptr i 0) ⟨K⟩:=by
 grind[aCA]
def VE{bs:V_}(h:bs.Nodup){e:Nat}(b:e<bs.length):bs.findIdx? (λy=>y==bs[e])=some e:=by rw[Ad];refine⟨b,s_,λj c=>?_⟩;simp only[beq_iff_eq];intro a;have:=(C9 h).1 a;omega
def Vt(x:Id)(m:MM):Bool:=m.Is&&decide (m.ID=x)
def RM.uniq(r:RM):Prop:=∀(i j:Nat)(b:i<r.L.length)(a:j<r.L.length),r.L[i].Is=true->r.L[j].Is=true->r.L[i].ID=r.L[j].ID->i=j
def Lm(r:RM)(x:Id):Int:=if pZ r x<0 then 0 else(r.L.getD (pZ r x).toNat default).N
section
variable{T:aK}{s:RP}{r:RM}
def aB8{x:Id}(u:r.uniq){i:Nat}(b:i<r.L.length)(h:Vt x r.L[i]=true):Lm r x=r.L[i].N:=by
 have h0:pZ r x=(i:Int):=by
  refine mC b (λj d c=>?_) h
  cases a:(r.L[j].Is&&decide (r.L[j].ID=x)) with
  |false=>rfl|true=>
   simp only[Vt,zJ,decide_eq_true_eq]at h a;have:=u i j b d h.1 a.1 (h.2.trans a.2.symm);omega
 grind[Lm,Int.toNat_natCast]
def aB9{x:Id}(h:∀i(a:i<r.L.length),Vt x r.L[i]=false):Lm r x=0:=by have h0:pZ r x=-1:=lD h;rw[Lm,h0];rfl
def AN (h:RollAt T s r) (u:r.uniq) (x:Id):aA PQ G qE [.ptr s.root 0,.ag x.A] T λy T'=>y=iv (Lm r x)/\T'=T:=by
 apply eH Fk;have h1:=h.root;obtain⟨bs,k,h2,c⟩:=h.mems;have a1:=λX:aK=>aF (X:=X) h1;have O:=λX:aK=>aF (X:=X) h2;simp only[go_sem,a1,O]
 refine kL (λn Q=>∃a:V_,a.Nodup/\(∀b∈a,b∈bs)/\n=bs.length-a.length/\(∀i(g:i<r.L.length),bs.getD i 0∈a->Vt x r.L[i]=false) /\
  Q=⟨T.length,[(11,.ptr (T.length+1) 0),(3,.ptr T.length 0)],T++[some (.box x.A),some (.mit (some s.m) k a k)]⟩) bs.length ⟨[],s_,s_,rfl,s_,?_⟩ ?_
 simp;rintro n Q ⟨a,F,o,hn,U,rfl⟩;simp only[go_sem];have b2:=λX:aK=>kU (O X);have v:=h.mslen;refine VD (i:=T.length+1) (j:=s.m) (kU aR) (b2 _) (cN _) c.lt (by simp[c.len]) (by simp[c.len,v]) (λz=>?_) λe M E=>?_;simp only[go_sem,aH];rw[aB9 λi g=>U i g (z _ ?_)];rw[rH,jN (by rw[c.len];exact g)];simp;have w:e<r.L.length:=by rw[<-c.len];exact M
 have K:e<s.ms.length:=o_;have J:=VE c.nd M;have Z:(r.L.map λm=>iK m.N)[e]?=some (iK r.L[e].N):=t_;have Y:(s.ms.map λp=>AV.ptr p.1 0)[e]?=some (.ptr s.ms[e].1 0):=t_;have B:=h.each e w K;have D:=λX:aK=>aF (X:=X) B.mem;have C:=Id.beq r.L[e].ID x;have P:Vt x r.L[e]=false->∃m,m<n/\∃l:V_,l.Nodup/\(∀b∈l,b∈bs)/\m=bs.length-l.length/\(∀i(g:i<r.L.length),bs.getD i 0∈l->Vt x r.L[i]=false) /\
   (⟨T.length,[(11,.ptr (T.length+1) 0),(3,.ptr T.length 0)],T++[some (.box x.A),some (.mit (some s.m) k (a++[bs[e]]) k)]⟩:St)=⟨T.length,[(11,.ptr (T.length+1) 0),(3,.ptr T.length 0)],T++[some (.box x.A),some (.mit (some s.m) k l k)]⟩:=by
  intro W;have t:(a++[bs[e]]).Nodup:=vQ.2 ⟨F,s_,λx V y S e'=>E (by rw[cA]at S;rw[<-S,<-e'];exact V)⟩;have q:∀b∈a++[bs[e]],b∈bs:=λb C=>(cG.1 C).elim (o b) λh=>by rw[cA.1 h];exact eQ M
  have H:=List.Nodup.length_le_of_subset t q;rw[dZ,GT]at H;refine⟨bs.length-(a++[bs[e]]).length,by rw[dZ,GT];omega,_,t,q,rfl,λi g B=>?_,rfl⟩;rcases cG.1 B with h1|h1;exact U i g h1;have I:i<bs.length:=by rw[c.len];exact g
  have h2:=cA.1 h1;rw[rH,jN I]at h2;have:=(C9 c.nd).1 (show bs[i]=bs[e] from h2);subst this;exact W
 simp only[go_sem,eJ,aR,O,Ke,J,Z,Y,iY];cases d:r.L[e].Is;simp only[go_sem,D,d,undef];simp_all[Vt];have R:=λX:aK=>aF (X:=X) (B.grd d);cases f:decide (r.L[e].ID=x);simp only[go_sem,aD,D,R,d,CR,C,f,Id.A_def];simp_all[Vt];simp only[go_sem,aD,D,R,d,CR,C,f,Id.A_def,aH];rw[aB8 u w (by rw[Vt,d,f];rfl)]
def vO(h:RollAt T s r)(n:Int):aA PQ G kA [.ptr s.root 0,iv n] T λx a=>x=.v (.bool (sD r n==3))/\a=T:=by refine eH Fl ?_;simp only[go_sem];apply jA (B5 h n);rintro x a ⟨rfl,rfl⟩;simp only[go_sem,dE]
def aBa(r:RM)(o:OpM)(n:Int):Int:=if jL r n<0 then 25 else if !(r.L.getD (jL r n).toNat default).Is||!decide ((r.L.getD (jL r n).toNat default).ID=o.Of) then 25 else 0
def yX(h:RollAt T s r)(n:Int):(∃bs d j,T[s.m]?=some (some (.map false (r.L.map λm=>iK m.N) (s.ms.map λp=>.ptr p.1 0) bs d))/\eR [.int .i64] (iK n) (r.L.map λm=>iK m.N) 0=some (some j)/\jL r n=(j:Int) /\
   ∃(f:j<r.L.length)(a:j<s.ms.length),(s.ms.map λp=>AV.ptr p.1 0)[j]?=some (.ptr s.ms[j].1 0)/\MemAt T r.V s.ms[j] r.L[j]/\r.L[j].N=n) \/
  (∃bs d,T[s.m]?=some (some (.map false (r.L.map λm=>iK m.N) (s.ms.map λp=>.ptr p.1 0) bs d))/\eR [.int .i64] (iK n) (r.L.map λm=>iK m.N) 0=some none/\jL r n=-1):=by
 obtain⟨bs,d,h2,_⟩:=h.mems;have b:=iW n (r.L.map (·.N)) 0;rw[rI,aEg]at b;have i:(iK∘λc:MM=>c.N)=λc=>iK c.N:=rfl;rw[i]at b
 cases e:r.L.findIdx? (λm=>m.N==n) with
 |none=>
  grind[jL,qX]
 |some j=>
  rw[e]at b;simp only[iX,mG]at b;obtain⟨f,g,_⟩:=Ad.1 e;have a:j<s.ms.length:=by rw[h.mslen];exact f
  exact .inl ⟨bs,d,j,h2,b,by unfold jL qX;rw[e],f,a,by rw[gE,jN a];rfl,h.each j f a,kj⟩
def Oy(h:RollAt T s r)(o:OpM)(n:Int):aA PQ G mB [.ptr s.root 0,.ag o.A,iv n] T λx u=>x=iv (aBa r o n)/\u=T:=by
 apply eH Hp;unfold aBa;have e:=λX:aK=>aF (X:=X) h.root;rcases yX h n with⟨bs,t,j,h2,c,g,q,p,i,m,_⟩|⟨bs,t,h2,c,g⟩
 have d:=λX:aK=>aF (X:=X) h2;have f:=λX:aK=>aF (X:=X) m.mem;have l:=Id.beq r.L[j].ID o.Of;rw[g,if_neg o_,nI,nH q];cases a:r.L[j].Is;simp only[go_sem,e,d,c,i,f,a,undef,aH];have k:=λX:aK=>aF (X:=X) (m.grd a);cases b:decide (r.L[j].ID=o.Of);simp only[go_sem,e,d,c,i,f,k,a,CR,l,b,aD,Id.A_def,aH];simp only[go_sem,e,d,c,i,f,k,a,CR,l,b,aD,Id.A_def,aH];have d:=λX:aK=>aF (X:=X) h2;rw[g];simp only[go_sem,e,d,c,undef,aH]
structure RM.wf(r:RM):Prop where
 uniq:r.uniq
 nn:∀(i j:Nat)(hi:i<r.L.length)(hj:j<r.L.length),r.L[i].N=r.L[j].N->i=j
 pos:∀m∈r.L,m.N≠0
 mg:∀m∈r.L,m.Guards.length<=1000
 need:r.need
def gP(r:RM)(o:OpM):Int×Int:=if(kD r o).2=0 then(Lm r o.Of,0) else(0,(kD r o).2)
def Hr(r:RM)(x:Id):(pZ r x=-1/\Lm r x=0)\/∃(i:Nat)(a:i<r.L.length),pZ r x=(i:Int)/\Vt x r.L[i]=true/\Lm r x=r.L[i].N:=by by_cases h0:pZ r x<0;grind[Lm,pZ,qX];obtain⟨i,e,a,h1⟩:=Hm (o_:0<=pZ r x);exact .inr ⟨i,a,e,h1,by rw[Lm,e,if_neg o_,nI,nH a]⟩
def lO{r:RM}{o:OpM}{i:Nat}(a:i<r.L.length)(e:pZ r o.Of=(i:Int)):kD r o=if(!decide (o.By∈r.L[i].Guards))=true then(-1,14) else((i:Int),0):=by grind[kD,Int.toNat_natCast]
def aEh(l:B_)(x:Int)(e:l.length<=100000):aA PQ G nN [rG l,iv x] [] λr T=>r=iv (qX (λy=>x==y) l)/\T=[]:=by refine aC BH ?_;simp only[go_sem,aP];refine aQ l.length (λi=>⟨0,[(0,rG l),(1,iv x),(7,iv l.length),(8,iv i)],[]⟩) (λi=>∀j(a:j<l.length),j<i->(x==l[j])=false) ?_ F_ ?_ ?_;simp only[go_sem];intro i b c;have d:(l.map λn=>[iv n])[i]?=some [iv l[i]]:=aO _ l i b;simp only[go_sem,aT b,d];cases h1:(x==l[i]);simp only[go_sem,fQ i o_];grind;simp only[go_sem];rw[mC b c h1];intro c;simp only[go_sem,aS (bP _)];rw[lD λj a=>c j a a]
def VF(l:B_)(x:Int)(a:l.length<=100000):aA PQ G iN [rG l,iv x] [] λr T=>r=.v (.bool (decide (x∈l)))/\T=[]:=by refine aC yD ?_;simp only[go_sem];apply cX (aEh l x a);simp only[go_sem,ge_iff_le,mN];grind
def xB(h:RollAt T s r)(w:r.wf)(o:OpM):aA PQ G lM [.ptr s.root 0,.ag o.A] T λy t=>y=.tup [iv (gP r o).1,iv (gP r o).2]/\t=T:=by
 apply S2 EU (λe=>aKn e);have K:=λX:aK=>aF (X:=X) h.root;have M:=AN (G:=G) h w.uniq o.Of;have d:=λX:aK=>AN (G:=G) (h.app (X:=X)) w.uniq o.Of;simp only[go_sem,aD];apply jA (d _);rintro y t ⟨rfl,rfl⟩;rcases Hr r o.Of with⟨q,p⟩|⟨i,c,q,p,n⟩
 have E:kD r o=(-1,25):=by grind[kD]
 have f:gP r o=(0,25):=by rw[gP,E];rfl
 rw[f];simp only[go_sem,p,aH];have F:=w.pos _ (eQ c);have f:gP r o=if decide (o.By∈r.L[i].Guards)=true then(r.L[i].N,0) else(0,14):=by rw[gP,lO c q,n];grind
 have b:r.L[i].Is=true:=by simp_all[Vt,zJ]
 have h0:(r.L[i].N==0)=false:=by simpa using F
 have B:=w.mg _ (eQ c);have a:=VF (G:=G) r.L[i].Guards o.By o_;rcases yX h r.L[i].N with⟨bs,I,j,h2,k,g,D,C,H,l,z⟩|⟨bs,I,h2,k,g⟩
 have:=w.nn j i D c z;subst this;have J:=λX:aK=>aF (X:=X) h2;have v:=λX:aK=>aF (X:=X) l.mem;have u:=λX:aK=>aF (X:=X) (l.grd b);rw[f];simp only[go_sem,n,h0,K,J,k,H,v,u,b,CR,aD];apply cX a;cases O:decide (o.By∈r.L[j].Guards);simp only[go_sem,aH];simp only[go_sem,aH];exfalso;have x:jL r r.L[i].N=-1:=g;unfold jL at x;have:=mN (λm:MM=>m.N==r.L[i].N) r.L;grind
end
section
variable{T:aK}{s:RP}{r:RM}
def a1P(r:RM)(o:OpM)(m:Int):Int:=if(!lZ r o.Device)=true then 17 else if(!(sD r m==3)&&eI r o.Device !=m)=true then 14 else 0
def a3P(r:RM)(o:OpM)(m:Int):Int:=if(!(sD r m==3))=true then 14 else if jL r o.Member<0 then 16 else 0
def a4P(r:RM)(m:Int):Int:=if sD r m<2 then 14 else 0
def a5P(r:RM)(o:OpM)(m:Int):Int:=if(!(sD r m==3)&&eI r o.Of.a !=m)=true then 14 else 0
def a7P(r:RM)(o:OpM):Int:=if(gP r o).2≠0 then(gP r o).2 else if(eI r o.Device !=(gP r o).1)=true then 16 else if(!lZ r o.Device)=true then 17 else 0
def aIj(h:RollAt T s r)(o:OpM)(m:Int):aA PQ G wS [.ptr s.root 0,.ag o.A,iv m] T λx a=>x=iv (a1P r o m)/\a=T:=by refine eH KG ?_;unfold a1P;simp only[go_sem,aD];apply jA (rW h.app o.Device);rintro y a ⟨rfl,rfl⟩;cases d:lZ r o.Device;simp only[go_sem,aH];simp only[go_sem];apply jA (vO h.app m);rintro y a ⟨rfl,rfl⟩;cases c:(sD r m==3);simp only[go_sem,aD];apply jA (kE h.app o.Device);rintro y a ⟨rfl,rfl⟩;cases b:(eI r o.Device !=m);simp only[go_sem,b,aH];simp only[go_sem,b,aH];simp only[go_sem,undef,aH]
def aIk (h:RollAt T s r) (o:OpM) (m:Int):aA PQ G wT [.ptr s.root 0,.ag o.A,iv m] T λx k=>x=iv (JI r o m (sD r m==3))/\k=T:=by
 apply eH KH;unfold JI;have i:=λX:aK=>aF (X:=X) h.root;obtain⟨bs,C,hI,_⟩:=h.inn;have q:=λX:aK=>aF (X:=X) hI;unfold tK at q;have c:=iW o.Device r.In 0;by_cases g:o.Device=0;have d:(o.Device !=0)=false:=kj;rw[if_neg kj];rcases yX h o.Member with⟨p,n,j,h2,b,a,w,u,l,B,_⟩|⟨p,n,h2,b,a⟩
 have t:=λX:aK=>aF (X:=X) h2;rw[a,if_neg o_];simp only[go_sem,aD,d,i,t,b,l];apply jA (vO h.app m);rintro y k ⟨rfl,rfl⟩;cases z:(sD r m==3);cases f:(o.Member !=m);simp only[go_sem,f,aH];simp only[go_sem,f,aH];simp only[go_sem,undef,aH];have t:=λX:aK=>aF (X:=X) h2;rw[a,if_pos d_];simp only[go_sem,aD,d,i,t,b,aH];have d:(o.Device !=0)=true:=kj;rw[if_pos g];rcases K4 r.In o.Device with⟨j,e,w,a⟩|⟨e,a⟩
 rw[e]at c;simp only[iX,mG]at c;have l:(r.In.map λ_=>AV.v (.bool true))[j]?=some (.v (.bool true)):=t_;simp only[go_sem,aD,d,i,q,c,l];apply jA (kE h.app o.Device);rintro y k ⟨rfl,rfl⟩;simp only[go_sem];apply jA (vO h.app m);rintro y k ⟨rfl,rfl⟩;rw[decide_eq_true a];cases z:(sD r m==3);cases f:(eI r o.Device !=m);simp only[go_sem,f,aH];simp only[go_sem,f,aH];simp only[go_sem,undef,aH];rw[e]at c;simp only[xD]at c;simp only[go_sem,aD,d,i,q,c,aH,decide_eq_false a]
def aIl (h:RollAt T s r) (o:OpM) (m:Int):aA PQ G wU [.ptr s.root 0,.ag o.A,iv m] T λx g=>x=iv (a3P r o m)/\g=T:=by
 apply eH KI;unfold a3P;have f:=λX:aK=>aF (X:=X) h.root;simp only[go_sem];apply jA (vO h.app m);rintro y g ⟨rfl,rfl⟩;cases q:(sD r m==3);simp only[go_sem,aH];rcases yX h o.Member with⟨d,c,j,h2,a,b,l,i,k,n,_⟩|⟨d,c,h2,a,b⟩
 have e:=λX:aK=>aF (X:=X) h2;have p:(!(jL r o.Member==-1))=true:=by rw[b];simp
 simp only[go_sem,aD,f,e,a,k,aH];simp_all;have e:=λX:aK=>aF (X:=X) h2;simp only[go_sem,b,aD,f,e,a,aH]
def aIm(h:RollAt T s r)(o:OpM)(m:Int):aA PQ G wV [.ptr s.root 0,.ag o.A,iv m] T λx a=>x=iv (a4P r m)/\a=T:=by refine eH KJ ?_;unfold a4P;simp only[go_sem];apply jA (B5 h.app m);rintro y a ⟨rfl,rfl⟩;simp only[go_sem];refine aL (λh1=>?_) (λh1=>?_);simp only[go_sem,aH,of_decide_eq_true h1];simp only[go_sem,aH,of_decide_eq_false h1]
def aIn(h:RollAt T s r)(o:OpM)(m:Int):aA PQ G wW [.ptr s.root 0,.ag o.A,iv m] T λx b=>x=iv (a5P r o m)/\b=T:=by refine eH KK ?_;unfold a5P;simp only[go_sem];apply jA (vO h.app m);rintro y b ⟨rfl,rfl⟩;cases d:(sD r m==3);simp only[go_sem,aD];apply jA (kE h.app o.Of.a);rintro y b ⟨rfl,rfl⟩;cases c:(eI r o.Of.a !=m);simp only[go_sem,c,aH];simp only[go_sem,c,aH];simp only[go_sem,undef,aH]
def aIo(h:RollAt T s r)(w:r.wf)(o:OpM)(m:Int):aA PQ G wY [.ptr s.root 0,.ag o.A,iv m] T λx b=>x=iv (a7P r o)/\b=T:=by
 apply eH KM;unfold a7P;simp only[go_sem,aD];apply jA (xB h.app w o);rintro y b ⟨rfl,rfl⟩;generalize gP r o=g at *
 cases a:(g.2 !=0);have c:g.2=0:=H_;rw[if_neg da];simp only[go_sem,a,aD];apply jA (kE h.app o.Device);rintro y b ⟨rfl,rfl⟩;cases d:(eI r o.Device !=g.1);simp only[go_sem,d,aD];apply jA (rW h.app o.Device);rintro y b ⟨rfl,rfl⟩;cases e:lZ r o.Device;simp only[go_sem,aH];simp only[go_sem,aH];simp only[go_sem,d,aH];have c:g.2≠0:=H_;rw[if_pos c];simp only[go_sem,a,aH]
end
def aBb(y x:Int)(out:B_):Sz (y::out) x=if y<=x then y::Sz out x else x::y::out:=by unfold Sz kR;by_cases h:y<=x;simp_all;simp_all;omega
def K5(x:Int):∀{out:B_},out.Pairwise (· <= ·)->(Sz out x).Pairwise (· <= ·)|[],_=>by simp[Sz,kR]| y::out,h=>by rw[H5]at h;rw[aBb];by_cases b:y<=x;rw[if_pos b,H5];refine⟨λz a=>?_,K5 x h.2⟩;rcases cS.1 ((RF out x).mem_iff.1 a) with rfl|a;exact b;exact h.1 z a;grind[List.pairwise_cons]
def JL:∀(l:B_){out:B_},out.Pairwise (· <= ·)->(l.foldl Sz out).Pairwise (· <= ·)|[],_,h=>h|x::l,_,h=>JL l (K5 x h)
def RG:∀{l m:B_},l.Perm m->l.Pairwise (· <= ·)->m.Pairwise (· <= ·)->l=m
 |[],m,c,_,_=>c.nil_eq
 |x::l,[],c,_,_=>absurd c.symm.nil_eq s_
 | x::l,y::m,c,h1,h2=>by
  rw[H5]at h1 h2;have e:x=y:=by have a:y∈x::l:=c.mem_iff.2 EV;have b:x∈y::m:=c.mem_iff.1 EV;grind
  subst e;rw[RG (List.perm_cons x |>.1 c) h1.2 h2.2]
def VG{l:B_}{m:V_}(a:(m.map λn:Nat=>(n:Int)).Perm l)(b:m.Pairwise (· <= ·)):C0 l=m.map λn:Nat=>(n:Int):=by refine RG ((Hl l).trans a.symm) (JL l .nil) ?_;grind
def K6 {f:VM->Bool} {a:V_}:∀{L:List (VM×Nat)}{p:VM×Nat},(L.map (·.2)).Nodup->p∈L->p.2∉a ->
 (L.filter λq=>decide (q.2∈a++[p.2])&&f q.1).Perm (if f p.1=true then p::L.filter (λq=>decide (q.2∈a)&&f q.1) else L.filter λq=>decide (q.2∈a)&&f q.1)
 | q::L,p,c,b,d=>by
  rw[fG,BU]at c;rcases cS.1 b with rfl|b;have e:(L.filter λq=>decide (q.2∈a++[p.2])&&f q.1)=L.filter λq=>decide (q.2∈a)&&f q.1:=by refine List.filter_congr λq i=>?_;grind
  simp_all[List.filter_cons];have g:q.2≠p.2:=λh=>c.1 (by rw[h];exact List.mem_map_of_mem (f:=(·.2)) b);have ih:=K6 (f:=f) c.2 b d;grind
def dH{T:aK}{a b c:Option AObj}{X:aK}:(T++a::b::c::X)[T.length+2]?=some c:=s_
def cU{T:aK}{a c:Option AObj}{X:aK}:(T++a::X).set T.length c=T++c::X:=s_
def dD{T:aK}{a b c d:Option AObj}{X:aK}:(T++a::b::c::X).set (T.length+2) d=T++a::b::d::X:=s_
def aZ{T X:aK}{k:Nat}:(T++X)[T.length+k]?=X[k]?:=f_
def cP{T X:aK}{k:Nat}{c:Option AObj}:(T++X).set (T.length+k) c=T++X.set k c:=s_
structure RM.wv(r:RM):Prop where
 nd:(r.V.map λv=>(v.Of,v.By,v.Device)).Nodup
 pos:∀v∈r.V,0<=v.At
 few:∀x d,(r.V.filter λv=>decide (v.Of=x)&&(v.Device==d)).length<=12
section
variable{T:aK}{s:RP}{r:RM}
def Xb (h:RollAt T s r) (w:r.need) (R:r.wv) (n d:Int):aA PQ G yR [.ptr s.root 0,iv n,iv d] T λy T'=>y=.tup [iv (Ll r n d).1,iv (Ll r n d).2]/\T'=T:=by
 apply S2 Hq (λe=>aKn e);have a1:=λX:aK=>aF (X:=X) h.root;rcases yX h n with⟨al,ak,j,h2,u,hm,hj,ao,gv,Q,_⟩|⟨al,ak,h2,u,hm⟩
 ·have a2:=λX:aK=>aF (X:=X) h2;have m1:=λX:aK=>aF (X:=X) Q.mem;have e2:Ll r n d=if(!r.L[j].Is)=true then(0,4) else if((XZ r r.L[j].ID d).length:Int)<r.L[j].Need then(0,26) else
    if(r.L[j].Obj&&decide ((XZ r r.L[j].ID d).getD 0 0<=r.L[j].Last))=true then(0,28) else(IntKind.i64.wrap ((XZ r r.L[j].ID d).getD (r.L[j].Need-1).toNat 0+r.L[j].Wait),0):=by
   grind[Ll,Int.toNat_natCast]
  rw[e2];clear e2;cases t:r.L[j].Is;simp only[go_sem,h.root,h2,u,gv,Q.mem,t];simp
  ·have F:=λX:aK=>aF (X:=X) (Q.grd t);obtain⟨l,bs,m,hv,o,hl,ae⟩:=Q.vch t;have W:=λX:aK=>aF (X:=X) hv;simp only[KO]at W;simp only[go_sem,h.root,h2,u,gv,Q.mem,F,t,CR,W];have ar:=o.len;have M:l.Nodup:=List.Pairwise.of_map (S:=(· ≠ ·)) _ (λa b h e=>h (congrArg _ e)) ae;have ac:r.V.Nodup:=List.Pairwise.of_map (S:=(· ≠ ·)) _ (λa b h e=>h (congrArg _ e)) R.nd;have O:(l.filter λv=>v.Device==d).Perm (r.V.filter λv=>decide (v.Of=r.L[j].ID)&&(v.Device==d)):=by refine(aBH (M.filter _) (ac.filter _)).2 λv=>?_;grind
   have ah:(l.filter λv=>v.Device==d).length<=12:=by rw[O.length_eq];exact R.few _ _
   refine kL (λn st=>∃(c:V_)(out:B_),c.Nodup/\(∀b∈c,b∈bs)/\n=bs.length-c.length/\out.Perm (((l.zip bs).filter λq=>decide (q.2∈c)&&(q.1.Device==d)).map (·.1.At)) /\
    ∃(X:aK)(k:Nat),X[k]?=some (some (.arr 1 (out.map λn=>[iv n])))/\X[1]?=some (some (.mit (some s.ms[j].2.2) m c m)) /\
    ∃S,(S=[(36,.ptr (T.length+1) 0),(10,.own (T.length+k)),(9,.ptr s.ms[j].2.1 0),(2,iv d)]\/S=[(10,.own (T.length+k)),(36,.ptr (T.length+1) 0),(9,.ptr s.ms[j].2.1 0),(2,iv d)])/\st=⟨T.length,S,T++X⟩) bs.length ⟨[],[],s_,s_,rfl,s_,[some (.arr 1 []),some (.mit (some s.ms[j].2.2) m [] m)],0,rfl,rfl,_,.inl rfl,?_⟩ ?_
   simp;rintro n st ⟨c,out,ad,I,hn,hJ,X,k,x1,x2,S,hS,rfl⟩;obtain⟨kl,xk⟩:=sV.1 x1;rcases hS with rfl|rfl
   all_goals simp only[go_sem]
   all_goals have b2:=λX:aK=>kU (W X)
   all_goals refine VD (i:=T.length+1) (j:=s.ms[j].2.2) (kU (by rw[aZ];exact x2)) (b2 _) (cN _) o.lt (by simp[o.len]) (by simp[o.len]) (λP=>?_) λe he J=>?_
   iterate 2
    simp only[go_sem]
    have p:out.Perm ((r.V.filter λv=>decide (v.Of=r.L[j].ID)&&(v.Device==d)).map (·.At)):=by
     refine hJ.trans (List.Perm.trans (.of_eq ?_) (O.map _));have e1:(l.zip bs).map (·.1)=l:=by rw[List.map_fst_zip];omega
     conv=>rhs;rw[<-e1]
     rw[List.filter_map,rI];refine congrArg _ (List.filter_congr λq hq=>?_);have:q.2∈c:=P _ (List.of_mem_zip (show(q.1,q.2)∈l.zip bs from hq)).2;simp[this]
    have A:out.length<=12:=by rw[p.length_eq,aP];exact R.few _ _
    obtain⟨U,rfl⟩:∃U:V_,out=U.map λn:Nat=>(n:Int):=by refine⟨out.map Int.toNat,?_⟩;rw[rI];refine(List.map_id' _).symm.trans (aMb λx hx=>?_);obtain⟨v,hv,rfl⟩:=dF.1 (p.mem_iff.1 hx);have:=R.pos v (gR.1 hv |>.1);simp_all;omega
    rw[aP]at A
    refine aG (args2:=[.own 0]) (T2:=[some (.arr 1 (nl U))]) [T.length+k] (aB _) s_ c_ ?_ ?_ (aEi U A) ?_
    simp only[go_sem]
    simp only[go_sem,aZ,x1]
    rfl
    rintro y T' ⟨g,⟨hp,hs⟩,rfl⟩
    have au:XZ r r.L[j].ID d=g.map λn:Nat=>(n:Int):=VG ((hp.map _).trans p) hs
    obtain⟨n1,n2⟩:=w _ (eQ hj) t
    have N:(XZ r r.L[j].ID d).length=g.length:=t_
    have D:(X.set k (some (.arr 1 (nl g))))[k]?=some (some (.arr 1 (nl g))):=t_
    generalize hZ:X.set k (some (.arr 1 (nl g)))=Z at D
    have q:∀i,i<g.length->(nl g)[i]?=some [iv ((XZ r r.L[j].ID d).getD i 0)]:=t_
    simp only[go_sem,cP,hZ,aZ,D,F,CR,aP,<-N]
    refine aL (λh1=>?_) (λh1=>?_)
    simp only[go_sem,of_decide_eq_true h1,aH]
    have h1:=of_decide_eq_false h1
    have w1:IntKind.i64.wrap (r.L[j].Need-1)=r.L[j].Need-1:=aJ o_ o_
    have n4:0<=r.L[j].Need-1:=o_
    have n3:(r.L[j].Need-1).toNat<g.length:=o_
    have n5:0<g.length:=o_
    have q0:=q 0 n5
    have q1:=q (r.L[j].Need-1).toNat n3
    simp only[go_sem,h1]
    cases ho:r.L[j].Obj
    simp only[go_sem,aP,ho,undef,w1,n3,n4,q1,F,CR,h1,aZ,D,aH]
    simp only[go_sem,aP,ho,n5,q0,ge_iff_le,F,CR,aZ,D]
    refine aL (λh2=>?_) (λh2=>?_)
    simp only[go_sem,h1,h2,aH]
    simp only[go_sem,aP,w1,n3,n4,q1,F,CR,h1,ho,h2,aZ,D,aH]
    have aq:e<l.length:=o_
    have aj:=VE o.nd he
    have gk:(l.map λv=>[Value.int .i64 v.By,Value.int .i64 v.Device])[e]?=some [Value.int .i64 l[e].By,Value.int .i64 l[e].Device]:=t_
    have gw:(l.map λv=>iv v.At)[e]?=some (iv l[e].At):=t_
    have aa:(l[e],bs[e])∈l.zip bs:=by grind[List.mem_iff_getElem,List.length_zip]
    have ab:(l.zip bs).map (·.2)=bs:=by rw[List.map_snd_zip];omega
    have ap:=(K6 (f:=λv=>v.Device==d) (by rw[ab];exact o.nd) aa J).map (·.1.At)
    have A:out.length<=12:=by
     refine uR ?_ ah;rw[hJ.length_eq,aP];have e1:(l.zip bs).map (·.1)=l:=by rw[List.map_fst_zip];omega
     have e3:(l.filter λv=>v.Device==d).length=((l.zip bs).filter λq=>q.1.Device==d).length:=by
      conv=>lhs;rw[<-e1]
      rw[List.filter_map,aP];rfl
     rw[e3,<-List.countP_eq_length_filter,<-List.countP_eq_length_filter];exact List.countP_mono_left λq _ h=>by simp only[zJ]at h;exact h.2
    have c1:out.length+1<=maxLen:=a_
    have c2:(out.length+1)*8<=140737488355328:=o_
    have B:(c++[bs[e]]).Nodup:=vQ.2 ⟨ad,s_,λx hx y hy e'=>J (by rw[cA]at hy;rw[<-hy,<-e'];exact hx)⟩
    have z:∀b∈c++[bs[e]],b∈bs:=λb hb=>(cG.1 hb).elim (I b) λh=>ky
    have af:=List.Nodup.length_le_of_subset B z
    rw[dZ,GT]at af
    have ai:k≠1:=f_
    have C:(X.set 1 (some (some (.mit (some s.ms[j].2.2) m (c++[bs[e]]) m):Option AObj)).join)[1]?=some (some (.mit (some s.ms[j].2.2) m (c++[bs[e]]) m)):=f_
    have yk:(X.set 1 (some (.mit (some s.ms[j].2.2) m (c++[bs[e]]) m)))[k]?=some (some (.arr 1 (out.map λn=>[iv n]))):=f_
    replace C:(X.set 1 (some (.mit (some s.ms[j].2.2) m (c++[bs[e]]) m)))[1]?=some (some (.mit (some s.ms[j].2.2) m (c++[bs[e]]) m)):=C
    generalize hY:X.set 1 (some (.mit (some s.ms[j].2.2) m (c++[bs[e]]) m))=Y at C yk
    have E:=λZ:aK=>aF (X:=Z) yk
    have am:=(sV.1 yk).1
    have an:¬Y.length=k:=o_
    simp only[go_sem,cP,hY,aZ,C,W,Ke,aj,gk,gw,iY,eB,dZ,aD,cU]
    have H:∀b,(l[e].Device==d)=b->(((l.zip bs).filter λq=>decide (q.2∈c++[bs[e]])&&(q.1.Device==d)).map (·.1.At)).Perm (if b=true then l[e].At::out else out):=f_
    have K:bs.length-(c++[bs[e]]).length<n:=b_
    cases hd:(l[e].Device==d)
    simp only[go_sem]
    exact⟨_,K,_,out,B,z,rfl,(H _ hd).symm,_,k,E _,aF C,_,s_,rfl⟩
    simp only[go_sem,aP,c1,c2,aZ,cP,E,eB,jC,dM,dZ]
    refine⟨_,K,_,out++[l[e].At],B,z,rfl,(List.perm_append_singleton _ _).trans (H _ hd).symm,_,Y.length+2,?_,?_,_,.inr rfl,rfl⟩
    rw[Mc s_]
    simp
    rw[mY s_,List.getElem?_set_ne ai]
    exact aF C
 have a2:=λX:aK=>aF (X:=X) h2;have e2:Ll r n d=(0,4):=by rw[Ll,if_pos (by rw[hm];decide)]
 rw[e2];simp only[go_sem,h.root,h2,u,undef,dE]
end
def dS{T:aK}{i:Nat}{o o':Option AObj}(h:T[i]?=some o'):(T.set i o)[i]?=some o:=List.getElem?_set_self (sV.1 h).1
def aY{T:aK}{i j:Nat}{o:Option AObj}(h:i≠j):(T.set i o)[j]?=T[j]?:=List.getElem?_set_ne h
def dB{T:aK}{i:Nat}{o:Option AObj}(h:T[i]?=some o):i<T.length:=(sV.1 h).1
theorem C2{α a:Type}(f:α->a):∀(l:List α)(k:Nat),(l.map f).eraseIdx k=(l.eraseIdx k).map f|[],_=>by simp|_::_,0=>by simp|_::l,k+1=>by simp[C2 f l k]
def MemAt.mono{T T':aK}{V V':List VM}{p:Nat×Nat×Nat}{m:MM}(h:MemAt T V p m)(f:∀i∈G1 p m,T'[i]?=T[i]?)(j:m.Is=true->∀v:VM,v.Of=m.ID->(v∈V'↔v∈V)):MemAt T' V' p m where
 mem:=by rw[f _ (by unfold G1;split<;>simp)];exact h.mem
 grd:=λe=>by rw[f _ (by simp[G1,e])];exact h.grd e
 vch:=λe=>by obtain⟨l,bs,g,a,b,c,d⟩:=h.vch e;refine⟨l,bs,g,by rw[f _ (by simp[G1,e])];exact a,b,λv=>?_,d⟩;simp_all
structure Wr(T:aK)(s:RP)(r:RM)(T':aK)(s':RP)(r':RM):Prop where
 at':RollAt T' s' r'
 root:s'.root=s.root
 len:T.length<=T'.length
 same:∀i,i<T.length->¬aB7 s r i->T'[i]?=T[i]?
 fp:∀i,aB7 s' r' i->aB7 s r i\/T.length<=i
def Wr.refl{T:aK}{s:RP}{r:RM}(h:RollAt T s r):Wr T s r T s r:=⟨h,rfl,cN _,λ_ _ _=>rfl,λ_ h=>.inl h⟩
def Wr.trans{T k T2:aK}{s e d:RP}{r g f:RM}(a:Wr T s r k e g)(b:Wr k e g T2 d f):Wr T s r T2 d f where
 at':=b.at'
 root:=b.root.trans a.root
 len:=uR a.len b.len
 same:=λi c j=>(b.same i (CV c a.len) λh=>(a.fp i h).elim j λh=>absurd c o_).trans (a.same i c j)
 fp:=λi h=>(b.fp i h).elim (a.fp i) λh=>.inr (uR a.len h)
def Wr.app{T d X:aK}{s b:RP}{r c:RM}(a:Wr T s r d b c):Wr T s r (d++X) b c where
 at':=a.at'.app
 root:=a.root
 len:=by rw[dZ];have:=a.len;omega
 same:=λi f e=>by rw[mY (by have:=a.len;omega)];exact a.same i f e
 fp:=a.fp
def Wr.ofApp{T d X:aK}{s b:RP}{r c:RM}(h:RollAt T s r)(a:Wr (T++X) s r d b c):Wr T s r d b c where
 at':=a.at'
 root:=a.root
 len:=by have:=a.len;rw[dZ]at this;omega
 same:=λi f e=>by rw[a.same i ao e,mY f]
 fp:=λi h=>(a.fp i h).elim .inl λh=>.inr (by rw[dZ]at h;omega)
def FPr.ne{s:RP}{r:RM}(h:FPr s r):s.root≠s.c/\s.root≠s.i/\s.root≠s.w/\s.root≠s.m/\s.c≠s.i/\s.c≠s.w/\s.c≠s.m/\s.i≠s.w/\s.i≠s.m/\s.w≠s.m:=by have:=h.five;simp_all[RP.five,BU,cS,pP,Mm]
theorem Oz{s:RP}{x:Nat}:x∈s.five↔x=s.root\/x=s.c\/x=s.i\/x=s.w\/x=s.m:=J_
section
variable{T T':aK}{s:RP}{r:RM}
def D4{k:Nat}(h:k<r.L.length)(h2:k<s.ms.length):MT s r k=G1 s.ms[k] r.L[k]:=by grind[MT]
def aIq{k x:Nat}(h:x∈MT s r k):∃(h:k<r.L.length)(h2:k<s.ms.length),x∈G1 s.ms[k] r.L[k]:=by grind[MT]
def MemAt.lt{V:List VM}{p:Nat×Nat×Nat}{m:MM}(h:MemAt T V p m){x:Nat}(b:x∈G1 p m):x<T.length:=by unfold G1 at b;split at b;rename_i e;obtain⟨l,bs,c,a,_⟩:=h.vch e;simp only[cS,pP,or_false]at b;rcases b with rfl|rfl|rfl;exact dB h.mem;exact dB (h.grd e);exact dB a;rw[cA]at b;subst b;exact dB h.mem
def RollAt.lt(h:RollAt T s r){x:Nat}(c:aB7 s r x):x<T.length:=by
 rcases c with c|⟨k,c⟩
 obtain⟨_,_,f,_⟩:=h.inn;obtain⟨_,_,_,d,_⟩:=h.was;obtain⟨_,_,e,_⟩:=h.mems;rcases Oz.1 c with rfl|rfl|rfl|rfl|rfl;exact dB h.root;exact dB h.cards;exact dB f;exact dB d;exact dB e;obtain⟨a,b,c⟩:=aIq c;exact(h.each k a b).lt c
def RollAt.fiveLt(h:RollAt T s r):s.root<T.length/\s.c<T.length/\s.i<T.length/\s.w<T.length/\s.m<T.length :=
 ⟨h.lt (.inl J_),h.lt (.inl J_),h.lt (.inl J_),h.lt (.inl J_),h.lt (.inl J_)⟩
def KQ(h:FPr s r){k:Nat}(h1:k<r.L.length)(h2:k<s.ms.length){x:Nat}(a:x∈G1 s.ms[k] r.L[k]):x≠s.root/\x≠s.c/\x≠s.i/\x≠s.w/\x≠s.m:=by have:=h.off k x (by rw[D4 h1 h2];exact a);grind[Oz]
def RollAt.setIW(h:RollAt T s r){f c:B_}(C:T.length<=T'.length)(m:∀j,j<T.length->j≠s.i->j≠s.w->T'[j]?=T[j]?)
 (E:∃bs g,T'[s.i]?=some (some (tK f bs g))/\Bs f.length bs g)
 (B:∃l bs g,T'[s.w]?=some (some (tK l bs g))/\Bs l.length bs g/\(∀d,d∈l↔d∈f\/d∈c)/\(l=[]↔f=[]/\c=[])/\l.Nodup):Wr T s r T' s {r with In:=f,Gone:=c}:=by
 obtain⟨J,v,u,I,t,q,H,G,F,y⟩:=h.nd.ne;obtain⟨A,z,M,L,K⟩:=h.fiveLt;refine⟨⟨?_,?_,E,B,?_,h.mslen,λk h1 h2=>?_,⟨h.nd.five,h.nd.off,h.nd.own,h.nd.inj⟩⟩,rfl,C,λj D o=>m j D (λe=>o (.inl go)) (λe=>o (.inl go)),λ_ h=>.inl h⟩;rw[m _ A v u];exact h.root;rw[m _ z t q];exact h.cards;obtain⟨bs,g,a,b⟩:=h.mems;grind;have p:=h.each k h1 h2;exact p.mono (λx n=>m x (p.lt n) (KQ h.nd h1 h2 n).2.2.1 (KQ h.nd h1 h2 n).2.2.2.1) λ_ _ _=>Iff.rfl
def RollAt.setBack(h:RollAt T s r){b:Int}(v:T.length<=T'.length)(d:∀j,j<T.length->j≠s.root->T'[j]?=T[j]?)(t:T'[s.root]?=some (some (.box [.mp s.c,.mp s.i,.mp s.w,.mp s.m,iv b]))):Wr T s r T' s {r with Back:=b}:=by obtain⟨p,G,F,E,D,C,B,A,z,o⟩:=h.nd.ne;obtain⟨K,q,J,I,H⟩:=h.fiveLt;refine⟨⟨t,?_,?_,?_,?_,h.mslen,λk h1 h2=>?_,⟨h.nd.five,h.nd.off,h.nd.own,h.nd.inj⟩⟩,rfl,v,λj y u=>d j y (λe=>u (.inl go)),λ_ h=>.inl h⟩;rw[d _ q (Ne.symm p)];exact h.cards;obtain⟨bs,n,a,b⟩:=h.inn;grind;obtain⟨l,bs,n,a,b⟩:=h.was;grind;obtain⟨bs,n,a,b⟩:=h.mems;grind;have g:=h.each k h1 h2;exact g.mono (λx f=>d x (g.lt f) (KQ h.nd h1 h2 f).1) λ_ _ _=>Iff.rfl
def RollAt.addM(h:RollAt T s r){p:Nat}{m:MM}(hI:m.Is=false)(S:T.length<=p)(u:T'[p]?=some (some (.box [iv m.Role,.v (.pointer none)])))(G:T.length<=T'.length)(g:∀j,j<T.length->j≠s.m->T'[j]?=T[j]?)
 (o:∃bs f,T'[s.m]?=some (some (.map false (r.L.map (λm=>iK m.N)++[iK m.N]) (s.ms.map (λp=>.ptr p.1 0)++[.ptr p 0]) bs f))/\Bs (r.L.length+1) bs f):Wr T s r T' {s with ms:=s.ms++[(p,0,0)]} {r with L:=r.L++[m]}:=by
 obtain⟨Q,P,O,z,M,K,y,J,w,t⟩:=h.nd.ne;obtain⟨D,C,B,A,R⟩:=h.fiveLt;have i:=h.mslen;have q:∀k,MT {s with ms:=s.ms++[(p,0,0)]} {r with L:=r.L++[m]} k=if k=r.L.length then [p] else MT s r k:=by intro k;unfold MT;grind[List.getElem?_concat_length,G1]
 have n:∀k x,x∈MT s r k->x<T.length:=λk x c=>h.lt (.inr ⟨k,c⟩);refine⟨⟨?_,?_,?_,?_,?_,?_,λk h1 h2=>?_,⟨h.nd.five,λk x c=>?_,λk=>?_,λk E x c d=>?_⟩⟩,rfl,G,λj H F=>g j H (λe=>F (.inl go)),λx c=>?_⟩;rw[g _ D z];exact h.root;rw[g _ C y];exact h.cards;obtain⟨bs,f,a,b⟩:=h.inn;exact⟨bs,f,by rw[g _ B w];exact a,b⟩;obtain⟨l,bs,f,a,b⟩:=h.was;exact⟨l,bs,f,by rw[g _ A t];exact a,b⟩;obtain⟨bs,f,a,b⟩:=o;exact⟨bs,f,H_,R_⟩;simpa using i;simp only[dZ,GT]at h1 h2;rcases eD k r.L.length with h3|h3;have o:=h.each k h3 o_;simp only[List.getElem_append_left h3,List.getElem_append_left (o_:k<s.ms.length)];exact o.mono (λx c=>g x (o.lt c) (KQ h.nd h3 o_ c).2.2.2.2) λ_ _ _=>Iff.rfl;obtain rfl:k=r.L.length:=o_;simp only[List.getElem_concat_length,<-i];exact⟨by rw[u,hI];rfl,λe=>absurd e (by rw[hI];decide),λe=>absurd e (by rw[hI];decide)⟩;rw[q]at c;show x∉s.five;split at c;rw[cA]at c;subst c;exact λI=>absurd (h.lt (.inl I)) o_;exact h.nd.off k x c;rw[q];split;simp;exact h.nd.own k;rw[q]at c d;split at c<;>split at d;omega;rw[cA]at c;subst c;exact absurd (n _ _ d) o_;rw[cA]at d;subst d;exact absurd (n _ _ c) o_;exact h.nd.inj k E x c d;rcases c with c|⟨k,c⟩
 exact .inl (.inl c);rw[q]at c;split at c;rw[cA]at c;exact .inr o_;exact .inl (.inr ⟨k,c⟩)
def RollAt.delM(h:RollAt T s r){k:Nat}(E:k<r.L.length){V':List VM}(D:T.length<=T'.length)(i:∀j,j<T.length->j≠s.m->T'[j]?=T[j]?)
 (f:∃bs o,T'[s.m]?=some (some (.map false ((r.L.map λm=>iK m.N).eraseIdx k) ((s.ms.map λp=>.ptr p.1 0).eraseIdx k) bs o))/\Bs (r.L.length-1) bs o)
 (t:∀j(q:j<r.L.length),j≠k->r.L[j].Is=true->∀v:VM,v.Of=r.L[j].ID->(v∈V'↔v∈r.V)):Wr T s r T' {s with ms:=s.ms.eraseIdx k} {r with L:=r.L.eraseIdx k,V:=V'}:=by
 obtain⟨M,K,J,w,I,H,u,G,F,y⟩:=h.nd.ne;obtain⟨A,z,Q,P,O⟩:=h.fiveLt;have B:=h.mslen;have n:∀j,MT {s with ms:=s.ms.eraseIdx k} {r with L:=r.L.eraseIdx k,V:=V'} j=MT s r (if j<k then j else j+1):=by grind[MT]
 refine⟨⟨?_,?_,?_,?_,?_,?_,λj h1 h2=>?_,⟨h.nd.five,λj x c=>?_,λj=>?_,λj R x c g=>?_⟩⟩,rfl,D,λj q C=>i j q (λe=>C (.inl go)),λx c=>?_⟩;rw[i _ A w];exact h.root;rw[i _ z u];exact h.cards;obtain⟨bs,o,a,b⟩:=h.inn;grind;obtain⟨l,bs,o,a,b⟩:=h.was;grind;grind[C2];grind;replace h1:j<(r.L.eraseIdx k).length:=h1;replace h2:j<(s.ms.eraseIdx k).length:=h2;show MemAt T' V' (s.ms.eraseIdx k)[j] (r.L.eraseIdx k)[j];rw[Rg E]at h1;rcases eD j k with d|d;rw[List.getElem_eraseIdx_of_lt _ d,List.getElem_eraseIdx_of_lt _ d];have f:=h.each j o_ o_;exact f.mono (λx c=>i x (f.lt c) (KQ h.nd o_ o_ c).2.2.2.2) (t j _ o_);rw[List.getElem_eraseIdx_of_ge _ d,List.getElem_eraseIdx_of_ge _ d];have f:=h.each (j+1) o_ o_;exact f.mono (λx c=>i x (f.lt c) (KQ h.nd o_ o_ c).2.2.2.2) (t (j+1) _ o_);rw[n]at c;exact h.nd.off _ x c;rw[n];exact h.nd.own _;rw[n]at c g;have:=h.nd.inj _ _ x c g;split at this<;>split at this<;>omega;rcases c with c|⟨j,c⟩
 exact .inl (.inl c);rw[n]at c;exact .inl (.inr ⟨_,c⟩)
def RollAt.setM (h:RollAt T s r) {k:Nat} (q:k<r.L.length) (g:k<s.ms.length) {V':List VM} {p':Nat×Nat×Nat} {m':MM} (O:T.length<=T'.length) (o:∀j,j<T.length->j∉G1 s.ms[k] r.L[k]->T'[j]?=T[j]?)
 (R:m'.N=r.L[k].N) (K:p'.1=s.ms[k].1) (Q:MemAt T' V' p' m') (C:(G1 p' m').Nodup) (i:∀x∈G1 p' m',x∈G1 s.ms[k] r.L[k]\/T.length<=x)
 (P:∀j(n:j<r.L.length),j≠k->r.L[j].Is=true->∀v:VM,v.Of=r.L[j].ID->(v∈V'↔v∈r.V)):Wr T s r T' {s with ms:=s.ms.set k p'} {r with L:=r.L.set k m',V:=V'}:=by
 obtain⟨J,I,H,G,F⟩:=h.fiveLt;have B:=h.mslen;have f:∀{x},x∈s.five->x∉G1 s.ms[k] r.L[k]:=λ{x} w c=>h.nd.off k x (by rw[D4 q g];exact c) w;have y:∀j,MT {s with ms:=s.ms.set k p'} {r with L:=r.L.set k m',V:=V'} j=if j=k then G1 p' m' else MT s r j:=by grind[MT]
 have u:∀j x,x∈MT s r j->x<T.length:=λj x c=>h.lt (.inr ⟨j,c⟩);refine⟨⟨?_,?_,?_,?_,?_,?_,λj h1 h2=>?_,⟨h.nd.five,λj x c=>?_,λj=>?_,λj D x c d=>?_⟩⟩,rfl,O,λj n M=>o j n λc=>M (.inr ⟨k,by rw[D4 q g];exact c⟩),λx c=>?_⟩;rw[o _ J (f J_)];exact h.root;rw[o _ I (f J_)];exact h.cards;obtain⟨bs,t,a,b⟩:=h.inn;exact⟨bs,t,by rw[o _ H (f J_)];exact a,b⟩;obtain⟨l,bs,t,a,b⟩:=h.was;exact⟨l,bs,t,by rw[o _ G (f J_)];exact a,b⟩;obtain⟨bs,t,a,b⟩:=h.mems;refine⟨bs,t,?_,R_⟩;have A:((r.L.set k m').map λm=>iK m.N)=r.L.map λm=>iK m.N:=by refine Ki s_ λj h1 h2=>?_;grind
 have z:((s.ms.set k p').map λp=>AV.ptr p.1 0)=s.ms.map λp=>AV.ptr p.1 0:=by refine Ki s_ λj h1 h2=>?_;rw[zL,zL,List.getElem_set];split;rename_i e;subst e;rw[K];rfl
 show T'[s.m]?=some (some (.map false ((r.L.set k m').map λm=>iK m.N) ((s.ms.set k p').map λp=>AV.ptr p.1 0) bs t));rw[A,z,o _ F (f J_)];exact a;simpa using B;simp only[cL]at h1 h2;by_cases n:j=k;subst n;simp only[YC];exact Q;simp only[List.getElem_set_ne (Ne.symm n)];have E:=h.each j h1 h2;exact E.mono (λx c=>o x (E.lt c) λd=>n (h.nd.inj j k x (by rw[D4 h1 h2];exact c) (by rw[D4 q g];exact d))) (P j h1 n);rw[y]at c;show x∉s.five;split at c;rcases i x c with h1|h1;exact λw=>f w h1;exact λw=>absurd (h.lt (.inl w)) o_;exact h.nd.off j x c;rw[y];split;exact C;exact h.nd.own j;rw[y]at c d;split at c<;>split at d;omega;rename_i A z;rcases i x c with h1|h1;exact absurd (h.nd.inj D k x d (by rw[D4 q g];exact h1)) z;exact absurd (u _ _ d) o_;rename_i A z;rcases i x d with h1|h1;exact absurd (h.nd.inj j k x c (by rw[D4 q g];exact h1)) A;exact absurd (u _ _ c) o_;exact h.nd.inj j D x c d;rcases c with c|⟨j,c⟩
 exact .inl (.inl c);rw[y]at c;split at c;rcases i x c with h1|h1;exact .inl (.inr ⟨k,by rw[D4 q g];exact h1⟩);exact .inr h1;exact .inl (.inr ⟨j,c⟩)
end
def O0{r:RM}{m:MM}(h:m∈r.L)(hI:m.Is=true){v:VM}(e:v.Of=m.ID):v∈Fh r↔v∈r.V:=by
 have:0<=pZ r v.Of:=by have a:=mN (λm:MM=>m.Is&&decide (m.ID=v.Of)) r.L;have b:(r.L.any λm:MM=>m.Is&&decide (m.ID=v.Of))=true:=CX.2 ⟨m,h,by simp[hI,e]⟩;rw[b]at a;exact of_decide_eq_true a
 simp[Fh,this]
section
variable{T T':aK}{s:RP}{r:RM}
def RollAt.setV(h:RollAt T s r){V':List VM}(a:∀j(b:j<r.L.length),r.L[j].Is=true->∀v:VM,v.Of=r.L[j].ID->(v∈V'↔v∈r.V)):Wr T s r T s {r with V:=V'}:=
 ⟨⟨h.root,h.cards,h.inn,h.was,h.mems,h.mslen,λk h1 h2=>(h.each k h1 h2).mono (λ_ _=>rfl) (a k h1),⟨h.nd.five,h.nd.off,h.nd.own,h.nd.inj⟩⟩,rfl,cN _,λ_ _ _=>rfl,λ_ h=>.inl h⟩
end
def MV{bs:V_}{a:Nat}(h:∀b∈bs,b<a):(bs++[a]).findIdx? (λb:Nat=>(b:Int)==(a:Int))=some bs.length:=f_
def JM{α:Type}{l:List α}{n:Nat}{x y:α}(h:l.length=n):(l++[x]).set n y=l++[y]:=by subst h;simp
def Bs.suc{n a:Nat}{bs:V_}(h:Bs n bs a):Bs (n+1) (bs++[a]) (a+1) where
 len:=by rw[dZ,h.len];rfl
 nd:=vQ.2 ⟨h.nd,s_,λx d y c e=>by have:=h.lt x d;rw[cA]at c;omega⟩
 lt:=λb f=>(cG.1 f).elim (λh1=>by have:=h.lt b h1;omega) λh1=>by rw[cA]at h1;omega
def VH(l:B_)(d:Int)(bs:V_)(a:Nat):AObj.map false (l.map iK++[[.int .i64 d]]) (l.map (λ_=>AV.v (.bool true))++[.v (.bool true)]) (bs++[a]) (a+1)=tK (l++[d]) (bs++[a]) (a+1):=by simp[tK,iK]
section
variable{T:aK}{s:RP}{r:RM}
def C3{d:Int}(h:lZ r d=true):d∉r.In/\d∉r.Gone/\0<eI r d:=by simp_all[lZ,aB6,zJ]
def rX(h:RollAt T s r)(d role:Int):aA PQ G mK [.ptr s.root 0,iv d,iv role] T λy T'=>∃s',Wr T s r T' s' (mU r d role):=by
 apply fT Fj;obtain⟨bi,E,D,n⟩:=h.inn;obtain⟨t,bw,cw,u,l,P,ad,M⟩:=h.was;simp only[go_sem];apply jA (rW h d);rintro y T' ⟨rfl,e⟩;obtain rfl:=e.symm;cases b1:lZ r d;simp only[go_sem];exact⟨s,by rw[mU,b1];exact Wr.refl h⟩;obtain⟨A,O,h0⟩:=C3 b1;have z:d∉t:=λe=>((P d).1 e).elim A O;have g:=iW d r.In 0;rw[MU A]at g;have f:=iW d t 0;rw[MU z]at f;simp only[xD]at g f;have hr:=h.root;unfold tK at D u;obtain⟨n1,n2,n3,n4,n5,n6,n7,K,n9,ac⟩:=h.nd.ne;obtain⟨bm,cm,C,af⟩:=h.mems;have V:=MV n.lt;have U:=MV l.lt;have H:=λy:AV=>JM (x:=AV.v (.bool false)) (y:=y) (show(r.In.map λ_=>AV.v (.bool true)).length=bi.length by rw[aP,n.len]);have F:=λy:AV=>JM (x:=AV.v (.bool false)) (y:=y) (show(t.map λ_=>AV.v (.bool true)).length=bw.length by rw[aP,l.len]);have gi:=λo=>dS (T:=T) (o:=o) D;have gw:=λo=>dS (T:=T) (o:=o) u;have q:=λo=>aY (T:=T) (o:=o) K;have S:=λo=>aY (T:=T) (o:=o) (Ne.symm K);have ai:=λo=>aY (T:=T) (o:=o) (Ne.symm n2);have ah:=λo=>aY (T:=T) (o:=o) (Ne.symm n3);have R:=λo J=>(dS (o:=J) ((q o).trans u))
 have aj:=λo J=>(dS (o:=J) ((S o).trans D))
 simp only[go_sem,hr,D,u,g,f,gi,q,R,V,U,H,F,List.set_set];rw[VH,VH];have c:Wr T s r ((T.set s.i (some (tK (r.In++[d]) (bi++[E]) (E+1)))).set s.w (some (tK (t++[d]) (bw++[cw]) (cw+1)))) s {r with In:=r.In++[d],Gone:=r.Gone}:=by refine h.setIW s_ (λj _ h1 h2=>by rw[aY (Ne.symm h2),aY (Ne.symm h1)]) ⟨_,_,(by rw[aY (Ne.symm K),gi]),?_⟩ ⟨t++[d],_,_,dS ((q _).trans u),?_,λx=>?_,?_,?_⟩;rw[dZ];exact n.suc;rw[dZ];exact l.suc;grind;simp;rw[vQ];exact⟨M,s_,λa ha b hb=>by rw[cA.1 hb];rintro rfl;exact z ha⟩
 generalize(T.set s.i (some (tK (r.In++[d]) (bi++[E]) (E+1)))).set s.w (some (tK (t++[d]) (bw++[cw]) (cw+1)))=T1 at c;have ec:mU r d role={r with In:=r.In++[d],L:=if jL r (eI r d)<0 then r.L++[⟨eI r d,role,false,⟨0,0,0⟩,[],0,0,false,0⟩] else r.L}:=by rw[mU,b1];rfl
 apply jA (kE c.at' d);rintro y T' ⟨rfl,e⟩;obtain rfl:=e.symm;have I:=c.at'.root;rcases yX c.at' (eI r d) with⟨ab,Z,j,h2,k,C,hj,ae,gv,hM,_⟩|⟨ab,Z,h2,k,C⟩
 have W:eI {r with In:=r.In++[d],Gone:=r.Gone} d=eI r d:=rfl;have Y:jL {r with In:=r.In++[d],Gone:=r.Gone} (eI r d)=jL r (eI r d):=rfl;rw[Y]at C;simp only[go_sem,W,I,h2,k,gv];rw[ec,if_neg o_];exact⟨s,c⟩;have W:eI {r with In:=r.In++[d],Gone:=r.Gone} d=eI r d:=rfl;have Y:jL {r with In:=r.In++[d],Gone:=r.Gone} (eI r d)=jL r (eI r d):=rfl;rw[Y]at C;have a2:=λX:aK=>aF (X:=X) h2;have a1:=λX:aK=>aF (X:=X) I;simp only[go_sem,W,I,h2,k,a2];obtain⟨aa,B,h3,Q⟩:=c.at'.mems;have e3:=h3.symm.trans h2;simp only[E_,AObj.map.injEq,true_and]at e3;obtain⟨rfl,rfl⟩:=e3;have l5:=c.at'.fiveLt.2.2.2.2;rw[ec,if_pos o_];refine⟨_,c.trans (c.at'.addM (p:=T1.length) (m:=⟨eI r d,role,false,⟨0,0,0⟩,[],0,0,false,0⟩) rfl (cN _) ?_ s_ (λj hj N=>?_) ⟨aa++[B],B+1,?_,Q.suc⟩)⟩;rw[aY o_,Mc o_];simp;rw[aY (Ne.symm N),mY hj];rw[dS (aF h3)]
end
def Bs.erase{n a:Nat}{bs:V_}(h:Bs n bs a){j:Nat}(c:j<n):Bs (n-1) (bs.eraseIdx j) a where
 len:=by rw[Rg (by rw[h.len];exact c),h.len]
 nd:=h.nd.sublist (List.eraseIdx_sublist _ _)
 lt:=λb d=>h.lt b ((List.eraseIdx_sublist _ _).subset d)
def D5{d:Int}:∀{l:B_}{j:Nat},l.Nodup->(l.findIdx? λy=>d==y)=some j->l.eraseIdx j=l.filter (λx=>x !=d)
 |[],_,_,h=>by simp at h
 | x::l,j,b,h=>by
  rw[BU]at b;rw[List.findIdx?_cons]at h;by_cases a:d=x;subst a;simp only[beq_self_eq_true,if_true,E_]at h;subst h;rw[List.filter_cons];simp only[bne_self_eq_false,jJ,if_false,List.eraseIdx_cons_zero];refine(Gm.2 λy f=>?_).symm;grind;have e:(d==x)=false:=H_;simp only[e,jJ,if_false,X9]at h;obtain⟨k,c,rfl⟩:=h;rw[X7,D5 b.2 c,List.filter_cons];simp_all;omega
def G2{n:Int}:∀{l:List MM}{j:Nat}(_:j<l.length),(∀(i j:Nat)(b:i<l.length)(c:j<l.length),l[i].N=l[j].N->i=j)->l[j].N=n->l.filter (λm=>m.N !=n)=l.eraseIdx j
 |[],_,h,_,_=>by simp at h|x::l,0,_,a,h=>by
  rw[List.getElem_cons_zero]at h;rw[List.filter_cons,h];simp only[bne_self_eq_false,jJ,if_false,List.eraseIdx_cons_zero];refine Gm.2 λy d=>?_;obtain⟨i,b,rfl⟩:=List.mem_iff_getElem.1 d;simp only[bne_iff_ne];intro e;have:=a 0 (i+1) s_ R_ (by simp[h,e]);omega
 | x::l,j+1,c,a,h=>by
  rw[List.getElem_cons_succ]at h;rw[List.filter_cons,X7,G2 (l:=l) da (λi k b f e=>by have:=a (i+1) (k+1) R_ ko od;omega) h];have:x.N≠n:=λe=>by have:=a 0 (j+1) s_ c (by simp[h,e]);omega
  simp[this]
def aBc{n:Int}{l:List MM}(h:qX (λm:MM=>m.N==n) l=-1):l.filter (λm=>m.N !=n)=l:=by refine Gm.2 λy a=>?_;have b:=mN (λm:MM=>m.N==n) l;simp_all
section
variable{T:aK}{s:RP}{r:RM}
def uK (h:RollAt T s r) (hn:r.In.Nodup) (hu:∀(i j:Nat)(q:i<r.L.length)(z:j<r.L.length),r.L[i].N=r.L[j].N->i=j) (d:Int):aA PQ G nK [.ptr s.root 0,iv d] T λy T'=>∃s',Wr T s r T' s' (lN r d):=by
 apply fT Gh;obtain⟨bi,u,q,aj⟩:=h.inn;have hr:=h.root;have f:=iW d r.In 0;obtain⟨n1,n2,n3,n4,n5,n6,n7,n8,n9,aq⟩:=h.nd.ne;unfold tK at q;rcases K4 r.In d with⟨j,e,z,P⟩|⟨e,P⟩
 rotate_left;rw[e]at f;simp only[xD]at f;simp only[go_sem,hr,q,f];exact⟨s,by rw[lN,decide_eq_false P];exact Wr.refl h⟩;rw[e]at f;simp only[iX,mG]at f;have U:(r.In.map λ_=>AV.v (.bool true))[j]?=some (.v (.bool true)):=t_;simp only[go_sem,hr,q,f,U];rw[C2,C2];have R:=aj.erase z;have J:AObj.map false ((r.In.eraseIdx j).map iK) ((r.In.eraseIdx j).map λ_=>.v (.bool true)) (bi.eraseIdx j) u=tK (r.In.filter λx=>x !=d) (bi.eraseIdx j) u:=by rw[D5 hn e];rfl
 have Q:(r.In.filter λx=>x !=d).length=r.In.length-1:=by rw[<-D5 hn e,Rg z]
 rw[J];generalize bi.eraseIdx j=l at *
 have t:Wr T s r (T.set s.i (some (tK (r.In.filter λx=>x !=d) l u))) s {r with In:=r.In.filter (λx=>x !=d),Gone:=r.Gone++[d]}:=by obtain⟨lw,bw,cw,hw,ai,au,av,aa⟩:=h.was;refine h.setIW s_ (λj _ h1 h2=>by rw[aY (Ne.symm h1)]) ⟨_,_,dS q,by rw[Q];exact R⟩ ⟨lw,bw,cw,by rw[aY n8];exact hw,ai,λx=>?_,?_,aa⟩;grind;grind
 have al:(T.set s.i (some (tK (r.In.filter λx=>x !=d) l u))).length=T.length:=s_;have A:=dS (o:=some (tK (r.In.filter λx=>x !=d) l u)) q;generalize T.set s.i (some (tK (r.In.filter λx=>x !=d) l u))=Y at t al A;apply jA (kE t.at' d);rintro y T' ⟨rfl,e⟩;obtain rfl:=e.symm;have eo:∀x,eI {r with In:=r.In.filter (λx=>x !=d),Gone:=r.Gone++[d]} x=eI r x:=λ_=>rfl;have em:∀x,jL {r with In:=r.In.filter (λx=>x !=d),Gone:=r.Gone++[d]} x=jL r x:=λ_=>rfl;have a1:=λX:aK=>aF (X:=X) t.at'.root;unfold tK at A;have a2:=λX:aK=>aF (X:=X) A;have r1:=t.at'.root;simp only[go_sem,eo,r1,A];have c:Bs (r.In.filter λx=>x !=d).length l u:=by rw[Q];exact R
 have B:lN r d=if((r.In.filter λx=>x !=d).any λx=>eI r x==eI r d)=true then {r with In:=r.In.filter (λx=>x !=d),Gone:=r.Gone++[d]} else
   {r with In:=r.In.filter (λx=>x !=d),Gone:=r.Gone++[d],L:=r.L.filter (λm=>m.N !=eI r d),V:=Fh {r with L:=r.L.filter λm=>m.N !=eI r d} }:=by
  rw[lN,decide_eq_true P];rfl
 generalize r.In.filter (λx=>x !=d)=g at *
 generalize ar:eI r d=n at *
 clear J q f U
 refine kL (λk st=>∃a:V_,a.Nodup/\(∀b∈a,b∈l)/\k=l.length-a.length/\(∀i(q:i<g.length),l.getD i 0∈a->(eI r g[i]==n)=false) /\
  st=⟨T.length,[(25,.ptr Y.length 0),(4,iv n),(0,.ptr s.root 0)],Y++[some (.mit (some s.i) u a u)]⟩) l.length ⟨[],s_,s_,rfl,s_,rfl⟩ ?_
 rintro k st ⟨a,ad,I,hk,hJ,rfl⟩;have b2:=λX:aK=>kU (a2 X);simp only[go_sem];refine VD (i:=Y.length) (j:=s.i) (kU aD) (b2 _) (cN _) c.lt (by simp[c.len]) (by simp[c.len]) (λS=>?_) λe he ab=>?_;have ac:(g.any λx=>eI r x==n)=false:=by rw[List.any_eq_false];intro x Z;obtain⟨i,q,rfl⟩:=List.mem_iff_getElem.1 Z;have:=hJ i q (S _ (by rw[rH,jN (by rw[c.len];exact q)];exact eQ _));simpa using this
 rw[ac,if_neg d_]at B;rcases yX t.at' n with⟨ap,an,F,h2,D,O,w,aw,U,hM,hN⟩|⟨ap,an,h2,D,O⟩
 have c2:=λX:aK=>aF (X:=X) h2;simp only[go_sem,a1,c2,D];rw[B];obtain⟨ao,am,h3,ak⟩:=t.at'.mems;have e3:=h3.symm.trans h2;simp only[E_,AObj.map.injEq,true_and]at e3;obtain⟨rfl,rfl⟩:=e3;have ah:=G2 w hu hN;refine⟨{s with ms:=s.ms.eraseIdx F},t.trans ?_⟩;have:=t.at'.delM (T':=(Y++[some (AObj.mit (some s.i) u a u)]).set s.m (some (AObj.map false ((r.L.map λm=>iK m.N).eraseIdx F) ((s.ms.map λp=>AV.ptr p.1 0).eraseIdx F) (ao.eraseIdx F) am))) w
  (V':=Fh {r with L:=r.L.filter λm=>m.N !=n}) s_ (λj z C=>by rw[aY (Ne.symm C),mY z]) ⟨_,_,dS (aF h3),ak.erase w⟩ (λj z C hI v hv=>?_)
 rw[ah]at this⊢;exact this;refine O0 (r:={r with L:=r.L.filter λm=>m.N !=n}) (m:=r.L[j]) (gR.2 ⟨eQ _,?_⟩) hI hv;simp only[bne_iff_ne];exact λe=>C (hu j F z w (e.trans hN.symm));have c2:=λX:aK=>aF (X:=X) h2;simp only[go_sem,a1,c2,D];rw[B,aBc O];exact⟨_,(t.trans (t.at'.setV λj z hI v hv=>O0 (r:=r) (eQ z) hI hv)).app⟩;have E:e<g.length:=by rw[<-c.len];exact he
 have f:=VE c.nd he;have gk:(g.map iK)[e]?=some (iK g[e]):=by rw[gE,jN E];rfl
 have U:(g.map λ_=>AV.v (.bool true))[e]?=some (.v (.bool true)):=by rw[gE,jN E];rfl
 simp only[go_sem,cU,aD,a2,Ke,f,gk,U,iY];apply cI (kE t.at'.app _);cases W:(eI r g[e]==n);have M:(a++[l[e]]).Nodup:=vQ.2 ⟨ad,s_,λx Z y hy e'=>ab (by rw[cA]at hy;rw[<-hy,<-e'];exact Z)⟩;have K:∀b∈a++[l[e]],b∈l:=λb hb=>(cG.1 hb).elim (I b) λh=>ky;have ae:=List.Nodup.length_le_of_subset M K;rw[dZ,GT]at ae;simp only[go_sem,eo,W];refine⟨l.length-(a++[l[e]]).length,by rw[dZ,GT];omega,_,M,K,rfl,λi q P=>?_,rfl⟩;rcases cG.1 P with h1|h1;exact hJ i q h1;have af:i<l.length:=by rw[c.len];exact q
 have h2:=cA.1 h1;rw[rH,jN af]at h2;have:=(C9 c.nd).1 (show l[i]=l[e] from h2);subst this;exact W;simp only[go_sem,eo,W];have H:(g.any λx=>eI r x==n)=true:=CX.2 ⟨_,eQ E,W⟩;rw[B,H,if_pos rfl];exact⟨s,t.app⟩
end
def fF{T X:aK}:(T++X)[T.length]?=X[0]?:=aZ (k:=0)
def iR{T X:aK}{c:Option AObj}:(T++X).set T.length c=T++X.set 0 c:=cP (k:=0)
section
variable{T:aK}{s:RP}{r:RM}
def aND(T:aK)(cs:List CardM)(y:AV)(T':aK):Prop:=∃s:RP,y=.ptr s.root 0/\RollAt T' s (RM.new cs)/\(∃X,T'=T++X)/\∀x,aB7 s (RM.new cs) x->T.length<=x
def nY:=And.intro @aZ (And.intro @cP (And.intro @fF (And.intro @iR (And.intro @oX.{0} (And.intro @sW.{0} (And.intro @yG.{0} (And.intro @aD (And.intro @cU (And.intro @aR (And.intro @eJ (And.intro @Id.A_def (And.intro @eB.{0} (And.intro @jC.{0} (And.intro @dM.{0} @sY))))))))))))))
def O1(cs:List CardM)(q:cs.length<=1000)(t:(cs.map (·.Device)).Nodup):aA PQ G HL [.ls 5 (cs.map CardM.A)] T (aND T cs):=by
 apply fT P8;simp only[go_sem,aP]
 refine kL (λn p=>∃i,i<=cs.length/\n=cs.length-i/\∃X:aK,X[0]?=some (some (.map false ((cs.take i).map λc=>iK c.Device) ((cs.take i).map λc=>.ag c.A) (List.range i) i))/\X[1]?=some (some (.map false [] [] [] 0))/\X[2]?=some (some (.map false [] [] [] 0))/\X[3]?=some (some (.map false [] [] [] 0)) /\
  X[4]?=some (some (.box [.mp (T.length+0),.mp (T.length+1),.mp (T.length+2),.mp (T.length+3),iv 0]))/\p=⟨T.length,[(14,iv i),(13,iv cs.length),(12,.ls 5 (cs.map CardM.A)),(3,.ptr (T.length+4) 0)],T++X⟩) cs.length ⟨0,pR _,rfl,[some (.map false [] [] [] 0),some (.map false [] [] [] 0),some (.map false [] [] [] 0),some (.map false [] [] [] 0),some (.box [.mp (T.length+0),.mp (T.length+1),.mp (T.length+2),.mp (T.length+3),iv 0])],rfl,rfl,rfl,rfl,rfl,by simp only[eB,jC,dM,mG];rfl⟩ ?_
 rintro n p ⟨i,E,D,X,g,o,m,l,d,rfl⟩;rcases eD i cs.length with a|y;have s:=fQ i o_;have z:(cs.map CardM.A)[i]?=some cs[i].A:=aO _ cs i a;have f:=iW cs[i].Device ((cs.take i).map (·.Device)) 0
 rw[MU (by
  intro u;obtain⟨c,q,e⟩:=dF.1 u;obtain⟨j,v,rfl⟩:=List.mem_iff_getElem.1 q;rw[eC]at v;rw[List.getElem_take]at e;have w:j=i:=(C9 (h₀:=I_) (h₁:=by rw[aP];exact a) t).1 od
  omega),rI]at f
 replace f:eR [.int .i64] (iK cs[i].Device) ((cs.take i).map λc=>iK c.Device) 0=some none:=f;have B:=dB d;have h:=λY:aK=>aF (X:=Y) g;have r:=λY:aK=>aF (X:=Y) d;simp only[go_sem,aT a,z,aZ,cP,CardM.A_def,eB,h,r,f,s,dZ,fF,iR];refine⟨cs.length-(i+1),o_,i+1,o_,rfl,_,?_,?_,?_,?_,?_,rfl⟩;rw[dS (h _),lB a,QH,bZ,bZ];rfl;rw[aY d_];exact aF o;rw[aY d_];exact aF m;rw[aY d_];exact aF l;rw[aY d_];exact aF d;obtain rfl:i=cs.length:=o_;rw[dE]at g;simp only[go_sem,aS (bP _)];refine⟨⟨T.length+4,T.length+0,T.length+1,T.length+2,T.length+3,[]⟩,rfl,⟨?_,?_,⟨[],0,?_,⟨rfl,s_,s_⟩⟩,⟨[],[],0,?_,⟨rfl,s_,s_⟩,sy,sy,Mm⟩,⟨[],0,?_,⟨rfl,s_,s_⟩⟩,rfl,λk h1=>absurd h1 sy,⟨?_,?_,?_,?_⟩⟩,⟨X,rfl⟩,?_⟩;rw[aZ,d];rfl;rw[aZ,g];rfl;rw[aZ,o];rfl;rw[aZ,m];rfl;rw[aZ,l];rfl;simp[RP.five];intro k x b;simp[MT]at b;intro k;simp[MT];intro k C x b;simp[MT]at b;rintro x (b|⟨k,b⟩);rcases Oz.1 b with rfl|rfl|rfl|rfl|rfl<;>simp;simp[MT]at b
end
def RollAt.gone{T:aK}{s:RP}{r:RM}(h:RollAt T s r){g:B_}(f:∀d,d∈g↔d∈r.Gone):Wr T s r T s {r with Gone:=g}:=by refine⟨⟨h.root,h.cards,h.inn,?_,h.mems,h.mslen,λk h1 h2=>(h.each k h1 h2).mono (λ_ _=>rfl) λ_ _ _=>Iff.rfl,⟨h.nd.five,h.nd.off,h.nd.own,h.nd.inj⟩⟩,rfl,cN _,λ_ _ _=>rfl,λ_ h=>.inl h⟩;obtain⟨l,bs,i,a,b,c,d,e⟩:=h.was;refine⟨l,bs,i,a,b,λx=>by rw[c,f],?_,e⟩;simp_all[TS]
def Ln(r:RM)(n:Int)(ds:B_):RM :=
 if ds=[] then r else
 if((r.In.filter λx=>!decide (x∈ds)).any λx=>eI r x==n)=true then {r with In:=r.In.filter (λx=>!decide (x∈ds)),Gone:=r.Gone++ds} else
  {r with In:=r.In.filter (λx=>!decide (x∈ds)),Gone:=r.Gone++ds,L:=r.L.filter (λm=>m.N !=n),V:=Fh {r with L:=r.L.filter λm=>m.N !=n} }
def Fm{r:RM}{d:Int}(a:d∈r.In):lN r d=if((r.In.filter λx=>x !=d).any λx=>eI r x==eI r d)=true then {r with In:=r.In.filter (λx=>x !=d),Gone:=r.Gone++[d]} else
   {r with In:=r.In.filter (λx=>x !=d),Gone:=r.Gone++[d],L:=r.L.filter (λm=>m.N !=eI r d),V:=Fh {r with L:=r.L.filter λm=>m.N !=eI r d} }:=by
 rw[lN,decide_eq_true a];rfl
def foldGoes {n:Int}:∀(ds:B_)(r:RM),ds.Nodup->(∀d∈ds,d∈r.In/\eI r d=n)->ds.foldl lN r=Ln r n ds
 |[],_,_,_=>by simp[Ln]
 | a::ds,r,f,g=>by
  rw[BU]at f;obtain⟨l,i⟩:=g a EV;have j:(r.In.filter λx=>x !=a)=r.In.filter λx=>!decide (x∈[a]):=by refine List.filter_congr λx _=>?_;rw[CT];simp
  have o:((r.In.filter λx=>x !=a).filter λx=>!decide (x∈ds))=r.In.filter λx=>!decide (x∈a::ds):=by rw[List.filter_filter];refine List.filter_congr λx _=>?_;rw[CT];simp[and_comm]
  rw[CW,Fm l,i];cases c:((r.In.filter λx=>x !=a).any λx=>eI r x==n);rw[if_neg d_];have:ds=[]:=by
   cases ds with
   |nil=>rfl
   |cons b ds=>
    obtain⟨k,h⟩:=g b s_;rw[List.any_eq_false]at c;refine absurd (c b (gR.2 ⟨k,?_⟩)) (by simp[h]);simp only[bne_iff_ne];rintro rfl;exact f.1 s_
  subst this;rw[Kk,Ln,if_neg s_,<-j,c,if_neg d_]
  rw[if_pos rfl,foldGoes (n:=n) ds {r with In:=r.In.filter (λx=>x !=a),Gone:=r.Gone++[a]} f.2 (λd e=>⟨gR.2 ⟨(g d (by simp[e])).1,by
   simp only[bne_iff_ne];rintro rfl
   exact f.1 e⟩,(g d (by simp[e])).2⟩)]
  unfold Ln;by_cases h0:ds=[]
  subst h0;rw[if_pos rfl,if_neg s_,<-j,c,if_pos rfl];rw[if_neg h0,if_neg (List.cons_ne_nil a ds)];dsimp only;rw[o];have m:r.Gone++[a]++ds=r.Gone++a::ds:=s_;rw[m];rfl
def RH{T:aK}{s:RP}{r:RM}{n:Int}{ds a:B_}(c:ds.Perm a)(h:RollAt T s (Ln r n ds)):Wr T s (Ln r n ds) T s (Ln r n a):=by
 have f:∀x,x∈ds↔x∈a:=λx=>c.mem_iff;have g:(λx:Int=>!decide (x∈a))=λx=>!decide (x∈ds):=t_;by_cases h0:ds=[]
 subst h0;have:=c.symm.eq_nil;subst this;exact Wr.refl h;have h1:a≠[]:=λe=>h0 (by subst e;exact c.eq_nil);have b:Ln r n a={Ln r n ds with Gone:=r.Gone++a}:=by grind[Ln]
 rw[b];refine h.gone λd=>?_;grind[Ln]
def D6{r:RM}(h:r.In.Nodup)(d role:Int):(mU r d role).In.Nodup:=by unfold mU;cases b:lZ r d;simpa using h;obtain⟨a,_,_⟩:=C3 b;grind
def RM.nn(r:RM):Prop:=∀(i j:Nat)(b:i<r.L.length)(a:j<r.L.length),r.L[i].N=r.L[j].N->i=j
theorem KR{r:RM}:r.nn↔(r.L.map (·.N)).Nodup:=by grind[RM.nn,List.pairwise_iff_getElem,List.length_map]
def KS{r:RM}(h:r.nn)(d role:Int):(mU r d role).nn:=by rw[KR]at h⊢;unfold mU;cases b:lZ r d;simpa using h;simp only[lI,jJ,if_false];split;rename_i g;rw[bZ];refine vQ.2 ⟨h,s_,λx c y a e=>?_⟩;simp only[fG,uP,cA]at a;subst a;obtain⟨m,f,j⟩:=dF.1 c;have i:=mN (λm:MM=>m.N==eI r d) r.L;grind[jL];exact h
def VI{r:RM}(h:r.In.Nodup)(d:Int):(lN r d).In.Nodup:=by grind[lN]
def aEj{r:RM}(h:r.nn)(d:Int):(lN r d).nn:=by grind[KR,lN]
theorem VJ(r:RM)(d:Int):(lN r d).Cards=r.Cards:=by grind[lN]
def KU{r a:RM}(h:a.Cards=r.Cards)(d:Int):eI a d=eI r d:=by unfold eI;rw[h]
def D7:∀(l:B_)(r:RM),r.In.Nodup->r.nn->(l.foldl lN r).In.Nodup/\(l.foldl lN r).nn/\(l.foldl lN r).Cards=r.Cards|[],_,h1,h2=>⟨h1,h2,rfl⟩|a::l,r,h1,h2=>by have:=D7 l _ (VI h1 a) (aEj h2 a);grind[VJ]
def aG7(a b c d:Int):rJ [.int .i64,.int .i64] [.int .i64 a,.int .i64 b] [.int .i64 c,.int .i64 d]=some (a==c&&b==d):=by simp[rJ]
def S3(a b:Int):∀(l:List VM)(i:Nat),eR [.int .i64,.int .i64] [.int .i64 a,.int .i64 b] (l.map λv=>[.int .i64 v.By,.int .i64 v.Device]) i=some ((l.findIdx? λv=>a==v.By&&b==v.Device).map (· + i))
 |[],_=>rfl
 | v::l,i=>by
  simp only[fG,eR,aG7,List.findIdx?_cons];have:=S3 a b l (i+1);cases(a==v.By&&b==v.Device);simp only[this,jJ,if_false]
  cases l.findIdx? (λv=>a==v.By&&b==v.Device) with
  |none=>rfl
  |some j=>simp;omega
  simp
def O2{α c:Type}[DecidableEq c](f:α->c){x:α}:∀{V:List α},(V.map f).Nodup->x∈V->V.filter (λv=>decide (f v=f x))=[x]|y::V,b,a=>by rw[fG,BU]at b;rcases cS.1 a with rfl|a;simp_all;have:f y≠f x:=λe=>b.1 (e ▸ List.mem_map_of_mem a);rw[List.filter_cons];simp only[decide_eq_true_eq,this,if_false];exact O2 f b.2 a
def mQ(o:OpM)(v:VM):Bool:=decide (v.Of=o.Of)&&(v.By==o.By&&v.Device==o.Device)
def qA(o:OpM)(V:List VM):VM:=⟨o.Of,o.By,o.Device,(V.filter (mQ o)).foldl (λa v=>min a v.At) o.At⟩
def O3{V l:List VM}{o:OpM}(e:∀v,v∈l↔v∈V/\v.Of=o.Of)(d:(l.map λv=>(v.By,v.Device)).Nodup)(h:(l.findIdx? λv=>o.By==v.By&&o.Device==v.Device)=none):
 qA o V=⟨o.Of,o.By,o.Device,o.At⟩/\(∀v,v∈l++[qA o V]↔v∈V.filter (λv=>!mQ o v)++[qA o V]/\v.Of=o.Of)/\((l++[qA o V]).map λv=>(v.By,v.Device)).Nodup:=by
 have a:∀v∈V,mQ o v=false:=λv b=>by cases c:mQ o v;rfl;simp only[mQ,zJ,decide_eq_true_eq,beq_iff_eq]at c;grind
 have f:V.filter (mQ o)=[]:=List.filter_eq_nil_iff.2 λv b=>by rw[a v b];decide
 grind[qA,List.mem_singleton,Prod.mk.injEq]
def O4 {V l:List VM} {o:OpM} (p:(V.map λv=>(v.Of,v.By,v.Device)).Nodup) (e:∀v,v∈l↔v∈V/\v.Of=o.Of) (d:(l.map λv=>(v.By,v.Device)).Nodup) {n:Nat} (c:n<l.length) (m:o.By=l[n].By) (k:o.Device=l[n].Device):
 qA o V=⟨o.Of,o.By,o.Device,min o.At l[n].At⟩/\(∀v,v∈l.set n (qA o V)↔v∈V.filter (λv=>!mQ o v)++[qA o V]/\v.Of=o.Of)/\((l.set n (qA o V)).map λv=>(v.By,v.Device))=l.map λv=>(v.By,v.Device):=by
 obtain⟨j,s⟩:=(e l[n]).1 (eQ c);have g:mQ o=λv=>decide ((λv:VM=>(v.Of,v.By,v.Device)) v=(λv:VM=>(v.Of,v.By,v.Device)) l[n]):=by funext v;rw[CT];simp_all[mQ,zJ,Prod.mk.injEq]
 have r:V.filter (mQ o)=[l[n]]:=by rw[g];exact O2 _ p j
 have q:qA o V=⟨o.Of,o.By,o.Device,min o.At l[n].At⟩:=by rw[qA,r];rfl
 refine⟨q,λv=>?_,?_⟩;have f:∀i(b:i<l.length),i≠n->mQ o l[i]=false:=λi b a=>by cases h:mQ o l[i];rfl;simp only[mQ,zJ,decide_eq_true_eq,beq_iff_eq]at h;have:i=n:=(C9 (h₀:=R_) (h₁:=da) d).1 (by simp[h.2.1,h.2.2,m,k]);omega
 rw[cG,cA];constructor;intro h;obtain⟨i,b,rfl⟩:=List.mem_iff_getElem.1 h;grind;rintro⟨h1|rfl,h2⟩;obtain⟨h1,h3⟩:=gR.1 h1;obtain⟨i,b,rfl⟩:=List.mem_iff_getElem.1 ((e v).2 ⟨h1,h2⟩);have a:n≠i:=f_;exact List.mem_iff_getElem.2 ⟨i,R_,by rw[List.getElem_set_ne a]⟩;exact List.mem_iff_getElem.2 ⟨n,da,by rw[YC]⟩;refine Ki s_ λi h1 h3=>?_;grind
def O5{V:List VM}{o:OpM}{x:Id}(h:x≠o.Of){v:VM}(e:v.Of=x):v∈V.filter (λv=>!mQ o v)++[qA o V]↔v∈V:=by
 have h1:v.Of≠o.Of:=e ▸ h;have h2:mQ o v=false:=by simp[mQ,h1]
 rw[cG,cA,gR];constructor;rintro(h3|h3);exact h3.1;exact absurd (by rw[h3];rfl) h1;simp_all
def RJ{T X:aK}:(T++X).take (T.length+X.length)=T++X:=sG s_
section
variable{T:aK}{s:RP}{r:RM}
def Xc(f:Nat)(cs:O_)(m:Int->Bool)(l:B_)(k:l.length<2^63-1)(h:∀x∈l,aA PQ G f (iv x::cs) T λr d=>r=.v (.bool (m x))/\d=T):
 aA PQ G gY [rG l,.cl f cs] T λr d=>r=iv (qX m l)/\d=T:=by
 apply eH nU;simp only[go_sem,aP];refine O7 l.length (λi=>⟨T.length,[(8,iv i),(7,iv l.length),(0,rG l),(1,.cl f cs)],T⟩) (λi=>∀j(a:j<l.length),j<i->m l[j]=false) ?_ F_ ?_ ?_;rfl;intro i b c;have g:(l.map λn=>[iv n])[i]?=some [iv l[i]]:=aO _ l i b;simp only[go_sem,aT b,g];apply cI (h _ (eQ b))
 cases e:m l[i]with
 |false=>
  simp only[go_sem,fQ i o_];grind
 |true=>
  simp only[go_sem];rw[mC b c e];simp
 intro c;simp only[go_sem,aS (bP _)];rw[lD λj a=>c j a a];simp
def Xd(f:Nat)(cs:O_)(m:Int->Bool)(l:B_)(b:l.length<2^63-1)(h:∀x∈l,aA PQ G f (iv x::cs) T λr a=>r=.v (.bool (m x))/\a=T):
 aA PQ G dI [rG l,.cl f cs] T λr a=>r=.v (.bool (l.any m))/\a=T:=by
 apply eH lV;simp only[go_sem];apply cI (Xc f cs m l b h);simp only[go_sem,ge_iff_le,mN];simp
def a6P(r:RM)(o:OpM):Int:=if o.Guards.all (λd=>decide (d∈r.In))=true then 0 else 17
def aIt(h:RollAt T s r)(o:OpM)(m:Int)(q:o.Guards.length<=1000):aA PQ G wX [.ptr s.root 0,.ag o.A,iv m] T λx k=>x=iv (a6P r o)/\k=T:=by
 apply eH KL;unfold a6P;have i:∀(X:aK)(b:Nat),(T++X)[b]?=some (some (.box [.ptr s.root 0]))->∀d∈o.Guards,aA PQ G tQ [iv d,.ptr b 0] (T++X) λl k=>l=.v (.bool (!decide (d∈r.In)))/\k=T++X:=by
  intro X b c d _;apply eH Ho;have h1:=(h.app (X:=X)).root;obtain⟨bs,t,h2,_⟩:=(h.app (X:=X)).inn;have a:=iW d r.In 0;unfold tK at h2;rcases K4 r.In d with⟨j,e,p,g⟩|⟨e,g⟩
  rw[e]at a;simp only[iX,mG]at a;have n:(r.In.map λ_=>AV.v (.bool true))[j]?=some (.v (.bool true)):=t_;simp only[go_sem,c,h1,h2,a,n,RJ,decide_eq_true g];rw[e]at a;simp only[xD]at a;simp only[go_sem,c,h1,h2,a,RJ,decide_eq_false g]
 simp only[go_sem,aR,eB,jC,dM];apply cI (Xd tQ _ (λd=>!decide (d∈r.In)) o.Guards o_ (i _ T.length aD));have f:(o.Guards.any λd=>!decide (d∈r.In))=!(o.Guards.all λd=>decide (d∈r.In)):=f_;cases c:(o.Guards.all λd=>decide (d∈r.In));rw[c]at f;simp only[go_sem,f,aH];rw[c]at f;simp only[go_sem,f,aH]
def a8P(r:RM)(o:OpM):Int :=
 if(gP r o).2≠0 then(gP r o).2 else
 if(!decide (o.Old∈r.In)||eI r o.Old !=(gP r o).1)=true then 17 else
 if(!lZ r o.Device||eI r o.Device !=(gP r o).1)=true then 17 else
 if((Ll r (gP r o).1 o.Device).2==0&&decide (o.At<(Ll r (gP r o).1 o.Device).1))=true then 27 else(Ll r (gP r o).1 o.Device).2
def aIu(h:RollAt T s r)(w:r.wf)(p:r.wv)(o:OpM)(m:Int):aA PQ G wZ [.ptr s.root 0,.ag o.A,iv m] T λx y=>x=iv (a8P r o)/\y=T:=by
 apply eH KN;unfold a8P;have n:=λX:aK=>aF (X:=X) h.root;obtain⟨bs,B,hI,_⟩:=h.inn;have g:=λX:aK=>aF (X:=X) hI;unfold tK at g;have b:=iW o.Old r.In 0;simp only[go_sem,aD];apply cI (xB h.app w o);generalize gP r o=q at *
 cases c:(q.2 !=0);rotate_left;simp only[go_sem,c,aH];simp_all;have u:q.2=0:=da;rw[if_neg (by simpa using u)];rcases K4 r.In o.Old with⟨j,e,z,a⟩|⟨e,a⟩
 rotate_left;rw[e]at b;simp only[xD]at b;simp only[go_sem,c,n,g,b,aD,decide_eq_false a,undef,aH];rw[e]at b;simp only[iX,mG]at b;have t:(r.In.map λ_=>AV.v (.bool true))[j]?=some (.v (.bool true)):=t_;simp only[go_sem,c,n,g,b,t,aD];apply cI (kE h.app _);cases l:(eI r o.Old !=q.1);rotate_left;simp only[go_sem,l,decide_eq_true a,lI,EH,EB,aH];simp only[go_sem,l,aD];apply cI (rW h.app _);cases C:lZ r o.Device;simp only[go_sem,undef,decide_eq_true a,lI,EH,EB,aH];simp only[go_sem,aD];apply cI (kE h.app _);cases k:(eI r o.Device !=q.1);rotate_left;simp only[go_sem,k,decide_eq_true a,lI,EH,EB,aH];simp only[go_sem,k,aD];apply cI (Xb h.app w.need p _ _);generalize Ll r q.1 o.Device=d at *
 cases i:(d.2==0);simp only[go_sem,i,undef,decide_eq_true a,lI,EH,EB,aH];simp only[go_sem,i,aD];refine aL (λf=>?_) (λf=>?_);simp only[go_sem,f,decide_eq_true a,lI,EH,EB,aH];simp only[go_sem,f,decide_eq_true a,lI,EH,EB,aH]
end
def aA.lift{P:Program}{G:L_}{f:FuncId}{args args2:O_}{T T2:aK}{R:AV}(L:V_)(d:L.Nodup)(m:∀i∈L,i<T.length)(j:xF L args=args2)(k:GX L T=T2)(g:IF L T.length T L T2=T)(l:gF R=[])
 (e:aA P G f args2 T2 λr a=>r=R/\a=T2):aA P G f args T λr a=>r=R/\a=T:=by
 have c:IG P G f args T λr a=>r=R/\a=T:=by refine⟨args,aB _,.inl ⟨L,d,m,?_⟩⟩;subst j k;apply e.mono;rintro r a ⟨rfl,rfl⟩;exact⟨Yo l,g⟩
 exact λh p w b n hI o=>Ei c n hI o
structure GAt(T:aK)(p:Nat×Nat×Nat)(g:PGM):Prop where
 a:T[p.1]?=some (some (.box [.ls 5 (g.cards.map CardM.A),.mp p.2.1,.own p.2.2]))
 b:T[p.2.1]?=some (some (MG g.I))
 c:T[p.2.2]?=some (some (.arr 35 (g.nodes.map ND.A)))
 n1:p.1≠p.2.1
 n2:p.1≠p.2.2
 n3:p.2.1≠p.2.2
def GAt.app{T X:aK}{p:Nat×Nat×Nat}{g:PGM}(h:GAt T p g):GAt (T++X) p g:=⟨aF h.a,aF h.b,aF h.c,h.n1,h.n2,h.n3⟩
def GAt.mono{T T':aK}{p:Nat×Nat×Nat}{g:PGM}(h:GAt T p g)(d:∀i,i=p.1\/i=p.2.1\/i=p.2.2->T'[i]?=T[i]?):GAt T' p g :=
 ⟨by rw[d _ (.inl rfl)];exact h.a,by rw[d _ (.inr (.inl rfl))];exact h.b,by rw[d _ (.inr (.inr rfl))];exact h.c,h.n1,h.n2,h.n3⟩
def gL(p:Nat×Nat×Nat):V_:=[p.1,p.2.1,p.2.2]
def JN{T:aK}{i:Nat}{o:Option AObj}(h:T[i]?=some o):T.set i o=T:=by obtain⟨a,rfl⟩:=sV.1 h;simp
def aHc{p:Nat×Nat×Nat}(c:p.1≠p.2.1)(b:p.1≠p.2.2)(a:p.2.1≠p.2.2):TO (gL p) p.1=some 0/\TO (gL p) p.2.1=some 1/\TO (gL p) p.2.2=some 2:=by grind[gL,TO,List.idxOf?]
section
variable{P:Program}{G:L_}{f:FuncId}{args args2:O_}{T:aK}{p:Nat×Nat×Nat}{g:PGM}{R:AV}
def GAt.nd(h:GAt T p g):(gL p).Nodup:=by simp[gL,h.n1,h.n2,h.n3]
def GAt.lt(h:GAt T p g):∀i∈gL p,i<T.length:=by intro i d;simp only[gL,cS,pP,or_false]at d;rcases d with rfl|rfl|rfl;exact(sV.1 h.a).1;exact(sV.1 h.b).1;exact(sV.1 h.c).1
def aIx(L:V_)(f:Nat->Int)(l:V_):xF L (l.map λi=>iv (f i))=l.map λi=>iv (f i):=yM (Eu λ_=>rfl)
def aIy(L:V_)(n:Nat)(f:Nat->Int)(l:V_):EJ L n (l.map λi=>iv (f i))=l.map λi=>iv (f i):=HJ (Eu λ_=>rfl)
def GAt.rn(h:GAt T p g):GX (gL p) T=TG 0 g:=by obtain⟨m,f,d⟩:=aHc h.n1 h.n2 h.n3;have l:=kU h.a;have k:=kU h.b;have j:=kU h.c;have e:GX (gL p) T=[p.1,p.2.1,p.2.2].map λi=>(cR T i).bind (YQ (gL p)):=rfl;rw[e];simp only[fG,uP,l,k,j,H6,YQ,MG,xF,Bd,f,d,TG,aIx,pQ]
def GAt.bk(h:GAt T p g):IF (gL p) T.length T (gL p) (TG 0 g)=T:=by
 have e:IF (gL p) T.length T (gL p) (TG 0 g)=((T.set p.1 (DC (gL p) T.length (some (.box [.ls 5 (g.cards.map CardM.A),.mp (0+1),.own (0+2)])))).set p.2.1 (DC (gL p) T.length (some (MG g.I)))).set p.2.2 (DC (gL p) T.length (some (.arr 35 (g.nodes.map ND.A)))):=rfl;rw[e];have i:DC (gL p) T.length (some (.box [.ls 5 (g.cards.map CardM.A),.mp (0+1),.own (0+2)]))=some (.box [.ls 5 (g.cards.map CardM.A),.mp p.2.1,.own p.2.2]):=Z_;have f:DC (gL p) T.length (some (MG g.I))=some (MG g.I):=by simp only[DC,MG,aIy]
 have d:DC (gL p) T.length (some (.arr 35 (g.nodes.map ND.A)))=some (.arr 35 (g.nodes.map ND.A)):=rfl;rw[i,f,d,JN h.a,JN h.b,JN h.c]
def GAt.lift(h:GAt T p g)(c:xF (gL p) args=args2)(d:gF R=[])(b:aA P G f args2 (TG 0 g) λr a=>r=R/\a=TG 0 g):aA P G f args T λr a=>r=R/\a=T :=
 aA.lift (gL p) h.nd h.lt c h.rn h.bk d b
def gL0(h:GAt T p g):TO (gL p) p.1=some 0:=(aHc h.n1 h.n2 h.n3).1
end
section
variable{T:aK}{p:Nat×Nat×Nat}{g:PGM}
def JO(h:GAt T p g)(a:g.ok)(x y:Id):aA PQ G eZ [.ptr p.1 0,.ag x.A,.ag y.A] T λr b=>r=.v (.bool (oH g x y))/\b=T :=
 h.lift kv rfl (aDR g a x y)
def S4(h:GAt T p g)(a:g.ok):aA PQ G kJ [.ptr p.1 0] T λr b=>r=.ls 5 (g.cards.map CardM.A)/\b=T :=
 h.lift (by simp only[xF,Bd,gL0 h]) rfl (aAZ g a)
def S5(h:GAt T p g)(b:g.ok)(x:Id)(a:x∈g.I):aA PQ G bY [.ptr p.1 0,.ag x.A] T λr c=>r=.tup [.ag (g.nd x).o.A,.v (.bool true)]/\c=T :=
 h.lift kv (by simp only[gF,iZ,OpM.ids0,jO]) (aDQ g b x a)
def MW(h:GAt T p g)(x:Id)(a:x∉g.I):aA PQ G bY [.ptr p.1 0,.ag x.A] T λr b=>r=.tup [.ag P1,.v (.bool false)]/\b=T :=
 h.lift kv rfl (aAY g x a)
def aG9(h:GAt T p g)(c:g.ok)(l:D_)(a:l.Nodup)(b:l.length<=60000):aA PQ G mJ [.ptr p.1 0,ids l] T λr d=>r=ids (eO g l)/\d=T :=
 h.lift (by simp only[xF,Bd,gL0 h,ids]) rfl (ZK g c l a b)
def aIA(h:GAt T p g)(a:g.ok)(o:OpM)(d:Int):aA PQ G Bj [.ptr p.1 0,.ag o.A,iv d] T λr b=>r=.v (.bool (U6 g.cards o d))/\b=T :=
 h.lift (by simp only[xF,Bd,gL0 h,yM o.ids0]) rfl (aFS g a o d)
end
end Hud
