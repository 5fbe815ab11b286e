import Derived.Test.YtdichbeaekjibaaGreatDoorLib19
set_option linter.all false
set_option maxHeartbeats 40000000
namespace Hud
open Go
variable{G:L_}
structure RP where
 root:Nat
 c:Nat
 i:Nat
 w:Nat
 m:Nat
 ms:List (Nat×Nat×Nat)
abbrev iK(d:Int):List Value:=[.int .i64 d]
def tK(l:B_)(bs:V_)(a:Nat):AObj:=.map false (l.map iK) (l.map λ_=>.v (.bool true)) bs a
structure Bs(n:Nat)(bs:List Nat)(cl:Nat):Prop where
 len:bs.length=n
 nd:bs.Nodup
 lt:∀b∈bs,b<cl
def KO(l:List VM)(bs:V_)(a:Nat):AObj:=.map true (l.map λv=>[.int .i64 v.By,.int .i64 v.Device]) (l.map λv=>iv v.At) bs a
def CR(m:MM)(v:Nat):O_:=[iv m.ID.a,iv m.ID.b,.v (.int .u64 m.ID.c),rG m.Guards,iv m.Need,iv m.Wait,.mp v,.v (.bool m.Obj),iv m.Last]
structure MemAt(T:aK)(V:List VM)(p:Nat×Nat×Nat)(m:MM):Prop where
 mem:T[p.1]?=some (some (.box [iv m.Role,if m.Is then .ptr p.2.1 0 else .v (.pointer none)]))
 grd:m.Is=true->T[p.2.1]?=some (some (.box (CR m p.2.2)))
 vch:m.Is=true->∃l bs cl,T[p.2.2]?=some (some (KO l bs cl))/\Bs l.length bs cl/\(∀v,v∈l↔v∈V/\v.Of=m.ID)/\(l.map λv=>(v.By,v.Device)).Nodup
def G1(p:Nat×Nat×Nat)(m:MM):V_:=if m.Is then [p.1,p.2.1,p.2.2] else [p.1]
def MT(s:RP)(r:RM)(k:Nat):V_:=match s.ms[k]?,r.L[k]? with|some p,some m=>G1 p m|_,_=>[]
def RP.five(s:RP):V_:=[s.root,s.c,s.i,s.w,s.m]
structure FPr(s:RP)(r:RM):Prop where
 five:s.five.Nodup
 off:∀k,∀x∈MT s r k,x∉s.five
 own:∀k,(MT s r k).Nodup
 inj:∀k k' x,x∈MT s r k->x∈MT s r k'->k=k'
def aB7(s:RP)(r:RM)(x:Nat):Prop:=x∈s.five\/∃k,x∈MT s r k
structure RollAt(T:aK)(s:RP)(r:RM):Prop where
 root:T[s.root]?=some (some (.box [.mp s.c,.mp s.i,.mp s.w,.mp s.m,iv r.Back]))
 cards:T[s.c]?=some (some (.map false (r.Cards.map λc=>iK c.Device) (r.Cards.map λc=>.ag c.A) (List.range r.Cards.length) r.Cards.length))
 inn:∃bs cl,T[s.i]?=some (some (tK r.In bs cl))/\Bs r.In.length bs cl
 was:∃l bs cl,T[s.w]?=some (some (tK l bs cl))/\Bs l.length bs cl/\(∀d,d∈l↔d∈r.In\/d∈r.Gone)/\(l=[]↔r.In=[]/\r.Gone=[])
 mems:∃bs cl,T[s.m]?=some (some (.map false (r.L.map λm=>iK m.N) (s.ms.map λp=>.ptr p.1 0) bs cl))/\Bs r.L.length bs cl
 mslen:s.ms.length=r.L.length
 each:∀k(h:k<r.L.length)(h2:k<s.ms.length),MemAt T r.V s.ms[k] r.L[k]
 nd:FPr s r
@[go_sem] def aRr(d:Int):LF false [.int .i64] (iv d)=some (iK d):=fI (by simp[LF,rJ,iK]) rfl
@[go_sem] def aG2(d e:Int):rJ [.int .i64] (iK d) (iK e)=some (d==e):=fI (by simp[rJ]) rfl
def iW(d:Int):∀(l:B_)(i:Nat),eR [.int .i64] (iK d) (l.map iK) i=some ((l.findIdx? λy=>d==y).map (· + i))
 |[],_=>rfl
 | y::l,i=>by
  simp only[fG,eR,aG2,List.findIdx?_cons];have:=iW d l (i+1);cases d==y;simp only[this,jJ,if_false]
  cases l.findIdx? (λy=>d==y) with
  |none=>rfl
  |some j=>simp;omega
  simp
def MU{l:B_}{d:Int}(h:d∉l):(l.findIdx? λy=>d==y)=none:=m_
def aG3{l:B_}{d:Int}(h:d∈l):∃j,(l.findIdx? λy=>d==y)=some j/\j<l.length:=by
 cases e:l.findIdx? (λy=>d==y) with
 |none=>exact absurd (Md.1 e d h) s_|some j=>exact⟨j,rfl,(Ad.1 e).1⟩
def aG4(l:List CardM)(d:Int):(l.map (·.Device)).findIdx? (λy=>d==y)=l.findIdx? λc=>c.Device==d:=by rw[List.findIdx?_map];congr 1;grind
section
variable{T:aK}{s:RP}{r:RM}
def kE(h:RollAt T s r)(d:Int):aA PQ G bR [.ptr s.root 0,iv d] T λx o=>x=iv (eI r d)/\o=T:=by
 apply eH JK;have h1:=h.root;have h2:=h.cards;have a:=iW d (r.Cards.map (·.Device)) 0;rw[rI,aG4]at a;have n:(iK∘λc:CardM=>c.Device)=λc=>iK c.Device:=rfl;rw[n]at a
 cases e:r.Cards.findIdx? (λc=>c.Device==d) with
 | none=>
  rw[e]at a;simp only[xD]at a;have b:eI r d=0:=by grind[eI]
  rw[b];simp only[go_sem,h1,h2,a,dE]
 | some j=>
  rw[e]at a;simp only[iX,mG]at a;obtain⟨l,g,f⟩:=Ad.1 e;have b:eI r d=r.Cards[j].Member:=by unfold eI;rw[(aBG (p:=λc:CardM=>c.Device==d)).2 ⟨g,j,l,rfl,λk i=>by simpa using f k i⟩]
  have m:(r.Cards.map λc=>AV.ag c.A)[j]?=some (.ag r.Cards[j].A):=u_;rw[b];simp only[go_sem,h1,h2,a,m];simp only[go_sem,CardM.A_def,dE]
def K4(l:B_)(d:Int):(∃j,(l.findIdx? λy=>d==y)=some j/\j<l.length/\d∈l)\/((l.findIdx? λy=>d==y)=none/\d∉l):=by by_cases h:d∈l;obtain⟨j,e,a⟩:=aG3 h;simp_all;grind
def aEg(l:List MM)(n:Int):(l.map (·.N)).findIdx? (λy=>n==y)=l.findIdx? λm=>m.N==n:=by rw[List.findIdx?_map];congr 1;grind
def rW(h:RollAt T s r)(d:Int):aA PQ G iL [.ptr s.root 0,iv d] T λx f=>x=.v (.bool (lZ r d))/\f=T:=by
 apply eH Fi;have h1:=h.root;obtain⟨l,bs,n,h2,_,k,_⟩:=h.was;have a:=iW d l 0;unfold tK at h2;have g:aB6 r d=decide (d∈l):=by simp_all[aB6]
 simp only[go_sem];apply jA (kE h d);rintro x f ⟨rfl,rfl⟩;unfold lZ;rw[g];cases c:decide (0<eI r d);simp only[go_sem,gt_iff_lt,c,undef,lR,dE];rcases K4 l d with⟨j,e,m,b⟩|⟨e,b⟩
 rw[e]at a;simp only[iX,mG]at a;have i:(l.map λ_=>AV.v (.bool true))[j]?=some (.v (.bool true)):=u_;simp only[go_sem,gt_iff_lt,c,h1,h2,a,i,dE,decide_eq_true b];rw[e]at a;simp only[xD]at a;simp only[go_sem,gt_iff_lt,c,h1,h2,a,dE,decide_eq_false b]
def B5(h:RollAt T s r)(n:Int):aA PQ G nL [.ptr s.root 0,iv n] T λx l=>x=iv (sD r n)/\l=T:=by
 apply eH Gi;have h1:=h.root;obtain⟨bs,o,h2,_⟩:=h.mems;have a:=iW n (r.L.map (·.N)) 0;rw[rI,aEg]at a;have k:(iK∘λc:MM=>c.N)=λc=>iK c.N:=rfl;rw[k]at a
 cases e:r.L.findIdx? (λm=>m.N==n) with
 | none=>
  rw[e]at a;simp only[xD]at a;have b:sD r n=0:=by grind[sD,jL,qX]
  rw[b];simp only[go_sem,h1,h2,a,dE]
 | some j=>
  rw[e]at a;simp only[iX,mG]at a;obtain⟨f,_,_⟩:=Ad.1 e;have d:j<s.ms.length:=by rw[h.mslen];exact f
  have g:=(h.each j f d).mem;have b:sD r n=r.L[j].Role:=by grind[sD,jL,qX,Int.toNat_natCast]
  have i:(s.ms.map λp=>AV.ptr p.1 0)[j]?=some (.ptr s.ms[j].1 0):=u_;rw[b];simp only[go_sem,h1,h2,a,i,g,dE]
end
def S2{P:Program}{G:L_}{f:FuncId}{z:HFun}{H:List (Nat×Option Nat×Nat)}(E:tF P f H=some z){args:O_}{T:aK}{R:AV}(I:∀{h:GH}{φ:Nat->Value}{m n:Nat}{u:Value},Rp h φ m R u->Rp h φ n R u)
 (A:aF8 P G z args T λr d=>r=R/\d.take T.length=T):aA P G f args T λr d=>r=R/\d=T:=by
 have q:∀{h:GH}{φ:Nat->Value}{w w':World}{v:Value},Inv h φ w T->CS h φ T w (λr d=>r=R/\d.take T.length=T) v w'->CS h φ T w (λr d=>r=R/\d=T) v w':=by
  rintro h φ w w' v hI ⟨r,d,L,p,⟨rfl,B⟩,c,g,C⟩;have l:∀i o,T[i]?=some (some o)->d[i]?=some (some o):=λi o e=>by rw[<-B,BT]at e;split at e;exact e;simp at e
  refine⟨_,T,L,p,⟨rfl,rfl⟩,?_,?_,I C⟩;exact⟨c.os,c.tape,c.output,c.size,c.frame,c.le,c.gfr,c.phi,λi o b D F=>c.org i o b (l i o D) F,cN _,c.drawn⟩;exact⟨g.gh,λi o e=>GP (g.obj i o (l i o e)) (hI.obj i o e),λi j y x b t s=>g.dis i j y x b (l i y t) (l j x s)⟩
 intro h φ w k J hI K;rcases fT E A h φ w k J hI K with⟨a,b⟩|⟨v,w',a,b⟩
 exact .inl ⟨a,b.mono λe w' ⟨v,t,s⟩=>⟨v,t,q hI s⟩⟩;grind
def aKn{a b:Value}{h:GH}{φ:Nat->Value}{m n:Nat}{u:Value}(e:Rp h φ m (.tup [.v a,.v b]) u):Rp h φ n (.tup [.v a,.v b]) u:=by grind[Rp,cC]
def aF{T X:aK}{i:Nat}{o:Option AObj}(h:T[i]?=some o):(T++X)[i]?=some o:=m_
def RollAt.app{T X:aK}{s:RP}{r:RM}(h:RollAt T s r):RollAt (T++X) s r where
 root:=aF h.root
 cards:=aF h.cards
 inn:=let⟨bs,c,a,b⟩:=h.inn;⟨bs,c,aF a,b⟩
 was:=let⟨l,bs,c,a,b⟩:=h.was;⟨l,bs,c,aF a,b⟩
 mems:=let⟨bs,c,a,b⟩:=h.mems;⟨bs,c,aF a,b⟩
 mslen:=h.mslen
 each:=λk h1 h2=>let m:=h.each k h1 h2
  ⟨aF m.mem,λe=>aF (m.grd e),λe=>let⟨l,bs,c,a,b⟩:=m.vch e;⟨l,bs,c,aF a,b⟩⟩
 nd:=h.nd
def kU{T:aK}{i:Nat}{o:AObj}(h:T[i]?=some (some o)):cR T i=some o:=by simp[cR,h]
def aD{T:aK}{a:Option AObj}{X:aK}:(T++a::X)[T.length]?=some a:=s_
def aR{T:aK}{a b:Option AObj}{X:aK}:(T++a::b::X)[T.length+1]?=some b:=s_
def eJ{T:aK}{a b c:Option AObj}{X:aK}:(T++a::b::X).set (T.length+1) c=T++a::c::X:=s_
def aH{T X:aK}:(T++X).take T.length=T:=s_
def VD{T:aK}{i j a la:Nat}{c:V_}{ag:Bool}{ks:List C_}{vs:O_}{bs:V_}{f:Nat}{K:AV->aK->Prop}(k:cR T i=some (.mit (some j) a c la))(l:cR T j=some (.map ag ks vs bs f))(h1:a<=la)(h2:∀b∈bs,b<a)(l1:ks.length=bs.length)(l2:vs.length=bs.length)
 (d:(∀b∈bs,b∈c)->K (.v (.tuple #[.bool false])) T)
 (g:∀e(h:e<bs.length),bs[e]∉c->K (.tup [.v (.bool true),.v (iY ag (ks[e]'o_)),vs[e]'o_]) (T.set i (some (.mit (some j) a (c++[bs[e]]) f)))):@aCA T (.ptr i 0) ⟨K⟩:=by
 grind[aCA]
def VE{bs:V_}(h:bs.Nodup){e:Nat}(b:e<bs.length):bs.findIdx? (λy=>y==bs[e])=some e:=by rw[Ad];refine⟨b,s_,λj c=>?_⟩;simp only[beq_iff_eq];intro a;have:=(C9 h).1 a;omega
def Vt(x:Id)(m:MM):Bool:=m.Is&&decide (m.ID=x)
def RM.uniq(r:RM):Prop:=∀(i j:Nat)(b:i<r.L.length)(a:j<r.L.length),r.L[i].Is=true->r.L[j].Is=true->r.L[i].ID=r.L[j].ID->i=j
def Lm(r:RM)(x:Id):Int:=if pZ r x<0 then 0 else(r.L.getD (pZ r x).toNat default).N
section
variable{T:aK}{s:RP}{r:RM}
def aB8{x:Id}(u:r.uniq){i:Nat}(b:i<r.L.length)(h:Vt x r.L[i]=true):Lm r x=r.L[i].N:=by
 have h0:pZ r x=(i:Int):=by
  refine mC b (λj d c=>?_) h
  cases a:(r.L[j].Is&&decide (r.L[j].ID=x)) with
  |false=>rfl|true=>
   simp only[Vt,zJ,decide_eq_true_eq]at h a;have:=u i j b d h.1 a.1 (h.2.trans a.2.symm);omega
 grind[Lm,Int.toNat_natCast]
def aB9{x:Id}(h:∀i(a:i<r.L.length),Vt x r.L[i]=false):Lm r x=0:=by have h0:pZ r x=-1:=lD h;rw[Lm,h0];rfl
def AN (h:RollAt T s r) (u:r.uniq) (x:Id):aA PQ G qE [.ptr s.root 0,.ag x.A] T λy T'=>y=iv (Lm r x)/\T'=T:=by
 apply eH Fk;have h1:=h.root;obtain⟨bs,k,h2,c⟩:=h.mems;have a1:=λX:aK=>aF (X:=X) h1;have O:=λX:aK=>aF (X:=X) h2;simp only[go_sem,a1,O]
 refine kL (λn Q=>∃a:V_,a.Nodup/\(∀b∈a,b∈bs)/\n=bs.length-a.length/\(∀i(g:i<r.L.length),bs.getD i 0∈a->Vt x r.L[i]=false) /\
  Q=⟨T.length,[(11,.ptr (T.length+1) 0),(3,.ptr T.length 0)],T++[some (.box x.A),some (.mit (some s.m) k a k)]⟩) bs.length ⟨[],s_,s_,rfl,s_,?_⟩ ?_
 simp;rintro n Q ⟨a,F,o,hn,U,rfl⟩;simp only[go_sem];have b2:=λX:aK=>kU (O X);have v:=h.mslen;refine VD (i:=T.length+1) (j:=s.m) (kU aR) (b2 _) (cN _) c.lt (by simp[c.len]) (by simp[c.len,v]) (λz=>?_) λe M E=>?_;simp only[go_sem,aH];rw[aB9 λi g=>U i g (z _ ?_)];rw[rH,jN (by rw[c.len];exact g)];simp;have w:e<r.L.length:=by rw[<-c.len];exact M
 have K:e<s.ms.length:=o_;have J:=VE c.nd M;have Z:(r.L.map λm=>iK m.N)[e]?=some (iK r.L[e].N):=u_;have Y:(s.ms.map λp=>AV.ptr p.1 0)[e]?=some (.ptr s.ms[e].1 0):=u_;have B:=h.each e w K;have D:=λX:aK=>aF (X:=X) B.mem;have C:=Id.beq r.L[e].ID x;have P:Vt x r.L[e]=false->∃m,m<n/\∃l:V_,l.Nodup/\(∀b∈l,b∈bs)/\m=bs.length-l.length/\(∀i(g:i<r.L.length),bs.getD i 0∈l->Vt x r.L[i]=false) /\
   (⟨T.length,[(11,.ptr (T.length+1) 0),(3,.ptr T.length 0)],T++[some (.box x.A),some (.mit (some s.m) k (a++[bs[e]]) k)]⟩:St)=⟨T.length,[(11,.ptr (T.length+1) 0),(3,.ptr T.length 0)],T++[some (.box x.A),some (.mit (some s.m) k l k)]⟩:=by
  intro W;have t:(a++[bs[e]]).Nodup:=vQ.2 ⟨F,s_,λx V y S e'=>E (by rw[cA]at S;rw[<-S,<-e'];exact V)⟩;have q:∀b∈a++[bs[e]],b∈bs:=λb C=>(cG.1 C).elim (o b) λh=>by rw[cA.1 h];exact eQ M
  have H:=List.Nodup.length_le_of_subset t q;rw[dZ,GT]at H;refine⟨bs.length-(a++[bs[e]]).length,by rw[dZ,GT];omega,_,t,q,rfl,λi g B=>?_,rfl⟩;rcases cG.1 B with h1|h1;exact U i g h1;have I:i<bs.length:=by rw[c.len];exact g
  have h2:=cA.1 h1;rw[rH,jN I]at h2;have:=(C9 c.nd).1 (show bs[i]=bs[e] from h2);subst this;exact W
 simp only[go_sem,eJ,aR,O,Ke,J,Z,Y,iY];cases d:r.L[e].Is;simp only[go_sem,D,d,undef];simp_all[Vt];have R:=λX:aK=>aF (X:=X) (B.grd d);cases f:decide (r.L[e].ID=x);simp only[go_sem,aD,D,R,d,CR,C,f,Id.A_def];simp_all[Vt];simp only[go_sem,aD,D,R,d,CR,C,f,Id.A_def,aH];rw[aB8 u w (by rw[Vt,d,f];rfl)]
def vO(h:RollAt T s r)(n:Int):aA PQ G kA [.ptr s.root 0,iv n] T λx a=>x=.v (.bool (sD r n==3))/\a=T:=by refine eH Fl ?_;simp only[go_sem];apply jA (B5 h n);rintro x a ⟨rfl,rfl⟩;simp only[go_sem,dE]
def aBa(r:RM)(o:OpM)(n:Int):Int:=if jL r n<0 then 25 else if !(r.L.getD (jL r n).toNat default).Is||!decide ((r.L.getD (jL r n).toNat default).ID=o.Of) then 25 else 0
def yX(h:RollAt T s r)(n:Int):(∃bs d j,T[s.m]?=some (some (.map false (r.L.map λm=>iK m.N) (s.ms.map λp=>.ptr p.1 0) bs d))/\eR [.int .i64] (iK n) (r.L.map λm=>iK m.N) 0=some (some j)/\jL r n=(j:Int) /\
   ∃(f:j<r.L.length)(a:j<s.ms.length),(s.ms.map λp=>AV.ptr p.1 0)[j]?=some (.ptr s.ms[j].1 0)/\MemAt T r.V s.ms[j] r.L[j]/\r.L[j].N=n) \/
  (∃bs d,T[s.m]?=some (some (.map false (r.L.map λm=>iK m.N) (s.ms.map λp=>.ptr p.1 0) bs d))/\eR [.int .i64] (iK n) (r.L.map λm=>iK m.N) 0=some none/\jL r n=-1):=by
 obtain⟨bs,d,h2,_⟩:=h.mems;have b:=iW n (r.L.map (·.N)) 0;rw[rI,aEg]at b;have i:(iK∘λc:MM=>c.N)=λc=>iK c.N:=rfl;rw[i]at b
 cases e:r.L.findIdx? (λm=>m.N==n) with
 |none=>
  grind[jL,qX]
 |some j=>
  rw[e]at b;simp only[iX,mG]at b;obtain⟨f,g,_⟩:=Ad.1 e;have a:j<s.ms.length:=by rw[h.mslen];exact f
  exact .inl ⟨bs,d,j,h2,b,by unfold jL qX;rw[e],f,a,by rw[gE,jN a];rfl,h.each j f a,kp⟩
def Oy(h:RollAt T s r)(o:OpM)(n:Int):aA PQ G mB [.ptr s.root 0,.ag o.A,iv n] T λx u=>x=iv (aBa r o n)/\u=T:=by
 apply eH Hp;unfold aBa;have e:=λX:aK=>aF (X:=X) h.root;rcases yX h n with⟨bs,t,j,h2,c,g,q,p,i,m,_⟩|⟨bs,t,h2,c,g⟩
 have d:=λX:aK=>aF (X:=X) h2;have f:=λX:aK=>aF (X:=X) m.mem;have l:=Id.beq r.L[j].ID o.Of;rw[g,if_neg o_,nI,nH q];cases a:r.L[j].Is;simp only[go_sem,e,d,c,i,f,a,undef,aH];have k:=λX:aK=>aF (X:=X) (m.grd a);cases b:decide (r.L[j].ID=o.Of);simp only[go_sem,e,d,c,i,f,k,a,CR,l,b,aD,Id.A_def,aH];simp only[go_sem,e,d,c,i,f,k,a,CR,l,b,aD,Id.A_def,aH];have d:=λX:aK=>aF (X:=X) h2;rw[g];simp only[go_sem,e,d,c,undef,aH]
structure RM.wf(r:RM):Prop where
 uniq:r.uniq
 nn:∀(i j:Nat)(hi:i<r.L.length)(hj:j<r.L.length),r.L[i].N=r.L[j].N->i=j
 pos:∀m∈r.L,m.N≠0
 mg:∀m∈r.L,m.Guards.length<=1000
 need:r.need
def gP(r:RM)(o:OpM):Int×Int:=if(kD r o).2=0 then(Lm r o.Of,0) else(0,(kD r o).2)
def Hr(r:RM)(x:Id):(pZ r x=-1/\Lm r x=0)\/∃(i:Nat)(a:i<r.L.length),pZ r x=(i:Int)/\Vt x r.L[i]=true/\Lm r x=r.L[i].N:=by by_cases h0:pZ r x<0;grind[Lm,pZ,qX];obtain⟨i,e,a,h1⟩:=Hm (o_:0<=pZ r x);exact .inr ⟨i,a,e,h1,by rw[Lm,e,if_neg o_,nI,nH a]⟩
def lO{r:RM}{o:OpM}{i:Nat}(a:i<r.L.length)(e:pZ r o.Of=(i:Int)):kD r o=if(!decide (o.By∈r.L[i].Guards))=true then(-1,14) else((i:Int),0):=by grind[kD,Int.toNat_natCast]
def aEh(l:B_)(x:Int)(e:l.length<=100000):aA PQ G nN [rG l,iv x] [] λr T=>r=iv (qX (λy=>x==y) l)/\T=[]:=by refine aC BH ?_;simp only[go_sem,aP];refine aQ l.length (λi=>⟨0,[(0,rG l),(1,iv x),(7,iv l.length),(8,iv i)],[]⟩) (λi=>∀j(a:j<l.length),j<i->(x==l[j])=false) ?_ U_ ?_ ?_;simp only[go_sem];intro i b c;have d:(l.map λn=>[iv n])[i]?=some [iv l[i]]:=aO _ l i b;simp only[go_sem,aT b,d];cases h1:(x==l[i]);simp only[go_sem,fQ i o_];grind;simp only[go_sem];rw[mC b c h1];intro c;simp only[go_sem,aS (bP _)];rw[lD λj a=>c j a a]
def VF(l:B_)(x:Int)(a:l.length<=100000):aA PQ G iN [rG l,iv x] [] λr T=>r=.v (.bool (decide (x∈l)))/\T=[]:=by refine aC yD ?_;simp only[go_sem];apply cX (aEh l x a);simp only[go_sem,ge_iff_le,mN];grind
def xB(h:RollAt T s r)(w:r.wf)(o:OpM):aA PQ G lM [.ptr s.root 0,.ag o.A] T λy t=>y=.tup [iv (gP r o).1,iv (gP r o).2]/\t=T:=by
 apply S2 EU (λe=>aKn e);have K:=λX:aK=>aF (X:=X) h.root;have M:=AN (G:=G) h w.uniq o.Of;have d:=λX:aK=>AN (G:=G) (h.app (X:=X)) w.uniq o.Of;simp only[go_sem,aD];apply jA (d _);rintro y t ⟨rfl,rfl⟩;rcases Hr r o.Of with⟨q,p⟩|⟨i,c,q,p,n⟩
 have E:kD r o=(-1,25):=by grind[kD]
 have f:gP r o=(0,25):=by rw[gP,E];rfl
 rw[f];simp only[go_sem,p,aH];have F:=w.pos _ (eQ c);have f:gP r o=if decide (o.By∈r.L[i].Guards)=true then(r.L[i].N,0) else(0,14):=by rw[gP,lO c q,n];grind
 have b:r.L[i].Is=true:=by simp_all[Vt,zJ]
 have h0:(r.L[i].N==0)=false:=by simpa using F
 have B:=w.mg _ (eQ c);have a:=VF (G:=G) r.L[i].Guards o.By o_;rcases yX h r.L[i].N with⟨bs,I,j,h2,k,g,D,C,H,l,z⟩|⟨bs,I,h2,k,g⟩
 have:=w.nn j i D c z;subst this;have J:=λX:aK=>aF (X:=X) h2;have v:=λX:aK=>aF (X:=X) l.mem;have u:=λX:aK=>aF (X:=X) (l.grd b);rw[f];simp only[go_sem,n,h0,K,J,k,H,v,u,b,CR,aD];apply cX a;cases O:decide (o.By∈r.L[j].Guards);simp only[go_sem,aH];simp only[go_sem,aH];exfalso;have x:jL r r.L[i].N=-1:=g;unfold jL at x;have:=mN (λm:MM=>m.N==r.L[i].N) r.L;grind
end
section
variable{T:aK}{s:RP}{r:RM}
def a1P(r:RM)(o:OpM)(m:Int):Int:=if(!lZ r o.Device)=true then 17 else if(!(sD r m==3)&&eI r o.Device !=m)=true then 14 else 0
def a3P(r:RM)(o:OpM)(m:Int):Int:=if(!(sD r m==3))=true then 14 else if jL r o.Member<0 then 16 else 0
def a4P(r:RM)(m:Int):Int:=if sD r m<2 then 14 else 0
def a5P(r:RM)(o:OpM)(m:Int):Int:=if(!(sD r m==3)&&eI r o.Of.a !=m)=true then 14 else 0
def a7P(r:RM)(o:OpM):Int:=if(gP r o).2≠0 then(gP r o).2 else if(eI r o.Device !=(gP r o).1)=true then 16 else if(!lZ r o.Device)=true then 17 else 0
def aIj(h:RollAt T s r)(o:OpM)(m:Int):aA PQ G wS [.ptr s.root 0,.ag o.A,iv m] T λx a=>x=iv (a1P r o m)/\a=T:=by refine eH KG ?_;unfold a1P;simp only[go_sem,aD];apply jA (rW h.app o.Device);rintro y a ⟨rfl,rfl⟩;cases d:lZ r o.Device;simp only[go_sem,aH];simp only[go_sem];apply jA (vO h.app m);rintro y a ⟨rfl,rfl⟩;cases c:(sD r m==3);simp only[go_sem,aD];apply jA (kE h.app o.Device);rintro y a ⟨rfl,rfl⟩;cases b:(eI r o.Device !=m);simp only[go_sem,b,aH];simp only[go_sem,b,aH];simp only[go_sem,undef,aH]
def aIk (h:RollAt T s r) (o:OpM) (m:Int):aA PQ G wT [.ptr s.root 0,.ag o.A,iv m] T λx k=>x=iv (JI r o m (sD r m==3))/\k=T:=by
 apply eH KH;unfold JI;have i:=λX:aK=>aF (X:=X) h.root;obtain⟨bs,C,hI,_⟩:=h.inn;have q:=λX:aK=>aF (X:=X) hI;unfold tK at q;have c:=iW o.Device r.In 0;by_cases g:o.Device=0;have d:(o.Device !=0)=false:=kp;rw[if_neg kp];rcases yX h o.Member with⟨p,n,j,h2,b,a,w,u,l,B,_⟩|⟨p,n,h2,b,a⟩
 have t:=λX:aK=>aF (X:=X) h2;rw[a,if_neg o_];simp only[go_sem,aD,d,i,t,b,l];apply jA (vO h.app m);rintro y k ⟨rfl,rfl⟩;cases z:(sD r m==3);cases f:(o.Member !=m);simp only[go_sem,f,aH];simp only[go_sem,f,aH];simp only[go_sem,undef,aH];have t:=λX:aK=>aF (X:=X) h2;rw[a,if_pos d_];simp only[go_sem,aD,d,i,t,b,aH];have d:(o.Device !=0)=true:=kp;rw[if_pos g];rcases K4 r.In o.Device with⟨j,e,w,a⟩|⟨e,a⟩
 rw[e]at c;simp only[iX,mG]at c;have l:(r.In.map λ_=>AV.v (.bool true))[j]?=some (.v (.bool true)):=u_;simp only[go_sem,aD,d,i,q,c,l];apply jA (kE h.app o.Device);rintro y k ⟨rfl,rfl⟩;simp only[go_sem];apply jA (vO h.app m);rintro y k ⟨rfl,rfl⟩;rw[decide_eq_true a];cases z:(sD r m==3);cases f:(eI r o.Device !=m);simp only[go_sem,f,aH];simp only[go_sem,f,aH];simp only[go_sem,undef,aH];rw[e]at c;simp only[xD]at c;simp only[go_sem,aD,d,i,q,c,aH,decide_eq_false a]
def aIl (h:RollAt T s r) (o:OpM) (m:Int):aA PQ G wU [.ptr s.root 0,.ag o.A,iv m] T λx g=>x=iv (a3P r o m)/\g=T:=by
 apply eH KI;unfold a3P;have f:=λX:aK=>aF (X:=X) h.root;simp only[go_sem];apply jA (vO h.app m);rintro y g ⟨rfl,rfl⟩;cases q:(sD r m==3);simp only[go_sem,aH];rcases yX h o.Member with⟨d,c,j,h2,a,b,l,i,k,n,_⟩|⟨d,c,h2,a,b⟩
 have e:=λX:aK=>aF (X:=X) h2;have p:(!(jL r o.Member==-1))=true:=by rw[b];simp
 simp only[go_sem,aD,f,e,a,k,aH];simp_all;have e:=λX:aK=>aF (X:=X) h2;simp only[go_sem,b,aD,f,e,a,aH]
def aIm(h:RollAt T s r)(o:OpM)(m:Int):aA PQ G wV [.ptr s.root 0,.ag o.A,iv m] T λx a=>x=iv (a4P r m)/\a=T:=by refine eH KJ ?_;unfold a4P;simp only[go_sem];apply jA (B5 h.app m);rintro y a ⟨rfl,rfl⟩;simp only[go_sem];refine aL (λh1=>?_) (λh1=>?_);simp only[go_sem,aH,of_decide_eq_true h1];simp only[go_sem,aH,of_decide_eq_false h1]
def aIn(h:RollAt T s r)(o:OpM)(m:Int):aA PQ G wW [.ptr s.root 0,.ag o.A,iv m] T λx b=>x=iv (a5P r o m)/\b=T:=by refine eH KK ?_;unfold a5P;simp only[go_sem];apply jA (vO h.app m);rintro y b ⟨rfl,rfl⟩;cases d:(sD r m==3);simp only[go_sem,aD];apply jA (kE h.app o.Of.a);rintro y b ⟨rfl,rfl⟩;cases c:(eI r o.Of.a !=m);simp only[go_sem,c,aH];simp only[go_sem,c,aH];simp only[go_sem,undef,aH]
def aIo(h:RollAt T s r)(w:r.wf)(o:OpM)(m:Int):aA PQ G wY [.ptr s.root 0,.ag o.A,iv m] T λx b=>x=iv (a7P r o)/\b=T:=by
 apply eH KM;unfold a7P;simp only[go_sem,aD];apply jA (xB h.app w o);rintro y b ⟨rfl,rfl⟩;generalize gP r o=g at *
 cases a:(g.2 !=0);have c:g.2=0:=M_;rw[if_neg oy];simp only[go_sem,a,aD];apply jA (kE h.app o.Device);rintro y b ⟨rfl,rfl⟩;cases d:(eI r o.Device !=g.1);simp only[go_sem,d,aD];apply jA (rW h.app o.Device);rintro y b ⟨rfl,rfl⟩;cases e:lZ r o.Device;simp only[go_sem,aH];simp only[go_sem,aH];simp only[go_sem,d,aH];have c:g.2≠0:=M_;rw[if_pos c];simp only[go_sem,a,aH]
end
structure BX where
 To:Fq
 Eph:Fq
 Body:Fq
 Tag:Fq
def BX.A(b:BX):O_:=[.v (fu b.To),.v (fu b.Eph),.v (fu b.Body),.v (fu b.Tag)]

end Hud
