import Derived.Test.YtfbnbkidnmhhoaaGreatDoorLib07
set_option linter.all false
namespace Hud
set_option maxRecDepth 99999
open Go
def aMx:=eVf (cF aBC [])
def EQ:=eVf (cF oT [])
def aM6:=eVf (cF iK [])
def aK6:=eVf (cF X2 [])
def aLX:=eVf (cF aDy [])
def aK7:=eVf (cF Y3 [])
def aLs:=eVf (cF aBD [])
def aKo:=eVf (cF aAO [])
def aIz:=eVf (cF RM [])
def aOV:=eVf (cF aV [])
def aK1:=eVf (cF Gs [])
def aLN:=eVf (cF W1 [])
def aLY:=eVf (cF X0 [])
def Av:=eVf (cF nQ [])
def BV:=eVf (cF oS [])
def aK2:=eVf (cF lQ [])
def aMp:=eVf (cF Z2 [])
def aMr:=eVf (cF RP [])
end Hud
namespace Hud
set_option maxRecDepth 99999
open Go
def Aw:=eVf (cF kH [])
def pJ:=eVf (cF bK [])
def sP:=eVf (cF bO [])
def oU:=eVf (cF eK [])
def rS:=eVf (cF gO [])
def oV:=eVf (cF eM [])
def pW:=eVf (cF fK [])
def pK:=eVf (cF fB [])
def lS:=eVf (cF dA [])
def oF:=eVf (cF cQ [])
def rC:=eVf (cF dL [])
def rT:=eVf (cF dR [])
def oG:=eVf (cF bW [])
def tH:=eVf (cF Wr [])
def tI:=eVf (cF cY [])
end Hud
namespace Hud
set_option maxRecDepth 99999
open Go
open W
def LV:=eVf (cF uV [])
def aQs:=eVf (cF qW [])
def aQt:=eVf (cF aM3 [])
def SL:=eVf (cF AX [])
def SM:=eVf (cF GA [])
def HW:=eVf (cF pF [])
def aQu:=eVf (cF aMI [])
def aQv:=eVf (cF Br [])
def aQw:=eVf (cF aMH [])
def FN:=eVf (cF vD [])
def N4:=eVf (cF gV [])
def UO:=eVf (cF E8 [])
def LW:=eVf (cF AB [])
def FO:=eVf (cF jZ [])
def FQ:cF uZ []=some ⟨25,[(2,none)],S [i0 2,S [R0 3 1 [ge v0 (u 4294967296)],If 4 [2] (S [R0 5 2 [A 0 (B .shr v0 (u 32))],E0 [A 2 (w 32)]])],S [R0 7 1 [ge v0 (u 65536)],If 8 [] (S [R0 9 2 [A 0 (B .shr v0 (u 16))],R0 11 2 [A 2 (ad v2 (w 16))]])],S [R0 13 1 [ge v0 (u 256)],If 14 [] (S [R0 15 2 [A 0 (B .shr v0 (u 8))],R0 17 2 [A 2 (ad v2 (w 8))]])],R 19 6 [0] [v2,cw .u8 v0,A 2 (ad (t 19) (cw .i64 (x (.ixS (.const (.string (Hud.bs [0,1,2,2,3,3,3,3,4,4,4,4,4,4,4,4,5,5,5,5,5,5,5,5,5,5,5,5,5,5,5,5,6,6,6,6,6,6,6,6,6,6,6,6,6,6,6,6,6,6,6,6,6,6,6,6,6,6,6,6,6,6,6,6,7,7,7,7,7,7,7,7,7,7,7,7,7,7,7,7,7,7,7,7,7,7,7,7,7,7,7,7,7,7,7,7,7,7,7,7,7,7,7,7,7,7,7,7,7,7,7,7,7,7,7,7,7,7,7,7,7,7,7,7,7,7,7,7,8,8,8,8,8,8,8,8,8,8,8,8,8,8,8,8,8,8,8,8,8,8,8,8,8,8,8,8,8,8,8,8,8,8,8,8,8,8,8,8,8,8,8,8,8,8,8,8,8,8,8,8,8,8,8,8,8,8,8,8,8,8,8,8,8,8,8,8,8,8,8,8,8,8,8,8,8,8,8,8,8,8,8,8,8,8,8,8,8,8,8,8,8,8,8,8,8,8,8,8,8,8,8,8,8,8,8,8,8,8,8,8,8,8,8,8,8,8,8,8,8,8,8,8,8,8,8,8]))) (zt 21)))))],.ret]⟩:=r_
def N5:=eVf (cF xU [])
def N6:=eVf (cF Bo [(2,none,1),(3,none,1)])
def SN:=eVf (cF GB [])
def SO:=eVf (cF wD [])
def qG:=eVf (cF nS [])
def yU:=eVf (cF aH9 [])
def HX:=eVf (cF yQ [])
def fN:=eVf (cF kS [])
def yA:=eVf (cF vE [])
end Hud
namespace Hud
def Xf(m:Nat):Nat->Nat->Nat->Nat->Nat|0,_,_,a=>a|f+1,b,e,a=>if e=0 then a else Xf m f (b*b%m) (e/2) (if e%2=1 then a*b%m else a)
def SP (m:Nat):∀(f b e acc:Nat),e<2^f->Xf m f b e acc%m=acc*b^e%m
 |0,b,e,acc,h=>by
  have:e=0:=A_;subst this;simp[Xf]
 | f+1,b,e,acc,h=>by
  simp only[Xf];split;rename_i c;subst c;simp;rw[SP m f _ (e/2) _ dH];have h2:b^e=(b*b)^(e/2)*b^(e%2):=by rw[<-Nat.pow_two,<-IA,<-aBX];congr 1;omega
  rw[CY,Kn,Mn,<-Kn,<-CY,h2];rcases Nat.mod_two_eq_zero_or_one e with a|a;rw[a];simp;rw[a];simp only[if_true,Nat.pow_one];rw[CY,Mn,<-CY];congr 1;rw[aBZ,QP b]
def PP:Nat:=2305843009213693951
def NN:Nat:=2305843009213693950
def Wb:O3:=[2,3,5,7,11,13,31,41,61,151,331,1321]
def aGX:37^NN%PP=1:=by have:=SP PP 61 37 NN 1 s_;rw[Km]at this;rw[<-this];decide +kernel
def aJR:∀r∈Wb,37^(NN/r)%PP≠1:=by
 intro r b;have a:∀r∈Wb,Xf PP 61 37 (NN/r) 1%PP≠1:=ox;have:=SP PP 61 37 (NN/r) 1 (QJ (Ml _ _) s_);rw[Km]at this;rw[<-this];exact a r b
def N7:∀r∈Wb,1<r/\∀d,d ∣ r->d=1\/d=r:=by
 have a:∀r∈Wb,1<r/\∀d,d<r->1<d->r%d≠0:=ox;intro r c;obtain⟨g,h2⟩:=a r c;refine⟨g,λd b=>?_⟩;have f:=Nat.le_of_dvd o_ b;have j:d≠0:=λe=>by subst e;rw[Nat.zero_dvd]at b;omega
 by_cases h:d=1;exact .inl h;by_cases i:d=r;exact .inr i;exact absurd (Nat.mod_eq_zero_of_dvd b) (h2 d o_ o_)
def aFg:NN=2*(3^2*(5^2*(7*(11*(13*(31*(41*(61*(151*(331*1321)))))))))):=s_
def aHM{r m:Nat}(a:∀d,d ∣ r->d=1\/d=r):Nat.Coprime m r\/r ∣ m:=by rcases a (Nat.gcd m r) (Nat.gcd_dvd_right m r) with h|h;exact .inl h;exact .inr (h ▸ Nat.gcd_dvd_left m r)
def aCO {e:Nat} (o:e ∣ NN) (l:e<NN):∃r∈Wb,e ∣ NN/r:=by
 obtain⟨m,j⟩:=o;have g:m≠1:=λh=>by subst h;omega
 have i:∃r∈Wb,r ∣ m:=by
  refine QB λf=>g ?_;have a:∀r∈Wb,Nat.Coprime m r:=λr b=>(aHM (N7 r b).2).resolve_right λh=>f ⟨r,b,h⟩;have c:Nat.Coprime m NN:=by
   rw[aFg];exact Me (a 2 s_) <| Me (Nat.Coprime.pow_right _ (a 3 s_)) <| Me (Nat.Coprime.pow_right _ (a 5 s_)) <|
    Me (a 7 s_) <| Me (a 11 s_) <| Me (a 13 s_) <| Me (a 31 s_) <|
    Me (a 41 s_) <| Me (a 61 s_) <| Me (a 151 s_) <| Me (a 331 s_) (a 1321 s_)
  have:Nat.gcd m NN=m:=Nat.gcd_eq_left ⟨e,by rw[QP];exact j⟩;rw[<-this];exact c
 obtain⟨r,b,k,n⟩:=i;refine⟨r,b,k,?_⟩;have d:0<r:=by have:=(N7 r b).1;omega
 rw[j,n,Nat.mul_left_comm,Nat.mul_div_cancel_left _ d]
def UP{g m:Nat}(d:1<m):∀(a b:Nat),g^a%m=1->g^b%m=1->g^Nat.gcd a b%m=1:=by
 intro a b
 induction a,b using Nat.gcd.induction with
 |H0 n=>intro _ h;simpa using h|H1 a b f ih=>
  intro c h2;rw[Nat.gcd_rec];refine ih ?_ c;have e:b=a*(b/a)+b%a:=(QL b a).symm;rw[e,aBX,IA,CY,Kn,c,Nat.one_pow,EZ d,Km,Mn]at h2;exact h2
def aHN{d:Nat}(h0:0<d)(c:d<NN):37^d%PP≠1:=by intro h;have i:=UP (g:=37) (m:=PP) s_ d NN h aGX;have a:=Nat.gcd_dvd_right d NN;have e:Nat.gcd d NN<=d:=Nat.le_of_dvd h0 (Nat.gcd_dvd_left d NN);obtain⟨r,b,k,f⟩:=aCO a o_;apply aJR r b;rw[f,IA,Kn,i,Nat.one_pow];decide
def aCP(i:Nat):Nat.Coprime (37^i) PP:=Nat.Coprime.pow_left i s_
def aHO{i j:Nat}(c:i<j)(l:j<NN):37^i%PP≠37^j%PP:=by
 intro h;have b:PP ∣ 37^j-37^i:=Nat.dvd_of_mod_eq_zero (Nat.sub_mod_eq_zero_of_mod_eq h.symm);have e:37^j-37^i=37^i*(37^(j-i)-1):=by rw[Nat.mul_sub,<-aBX,Bb];congr 2;omega
 rw[e]at b;have a:=Nat.Coprime.dvd_of_dvd_mul_left (aCP i).symm b;apply aHN (d:=j-i) o_ o_;have m:1<=37^(j-i):=Nat.one_le_pow _ _ s_;obtain⟨k,g⟩:=a;have f:37^(j-i)=1+PP*k:=o_;rw[f,Nat.add_mul_mod_self_left];decide
def aCQ:∀(n:Nat)(l:O3),l.Nodup->(∀x∈l,x<n)->l.length<=n
 |0,l,_,h=>by
  cases l with
  |nil=>simp|cons x l=>have:=h x k_;omega
 | n+1,l,d,h=>by
  have g:=aCQ n (l.filter (· ≠ n)) (d.filter _) (λx b=>by
   simp only[gR,decide_eq_true_eq]at b;have:=h x b.1;have:=b.2
   omega)
  have h2:l.length<=(l.filter (· ≠ n)).length+1:=by
   clear h g
   induction l with
   |nil=>simp| cons x l ih=>
    obtain⟨b,c⟩:=BU.1 d;by_cases a:x=n;subst a;have:l.filter (· ≠ x)=l:=Gm.2 λy f=>by simp only[ne_eq,decide_not,EX,decide_eq_false_iff_not];exact λe=>b (e ▸ f)
    rw[List.filter_cons_of_neg k_,this];simp;have:=ih c;simp only[List.filter_cons,ne_eq,a,not_false_eq_true,decide_true,if_true,sE];simpa using this
  omega
def aCR:∀n,n<=NN->((List.range n).map λi=>37^i%PP).Nodup:=by intro n f;rw[Rh,Mh];refine TU ?_ (List.pairwise_lt_range (n:=n));intro a b e d c;rw[uM]at e d;exact aHO c o_
def Wc{L:O3}{n:Nat}(g:L.length+1=n)(f:L.Nodup)(d:0∉L)(c:∀y∈L,y<n){x:Nat}(h0:0<x)(e:x<n):x∈L:=by
 refine QB λb=>?_
 have:=aCQ n (0::x::L) (by
  rw[BU,BU];refine⟨λh=>?_,b,f⟩;rcases cS.1 h with h|h;omega
  exact d h) (by
  intro y a;rcases cS.1 a with rfl|a;omega;rcases cS.1 a with rfl|a;exact e
  exact c y a)
 simp only[sE]at this;omega
def aFh(n:Nat):0∉((List.range n).map λi=>37^i%PP):=by intro h;obtain⟨i,_,b⟩:=dF.1 h;have:PP ∣ 37^i:=Nat.dvd_of_mod_eq_zero b;have a:Nat.gcd (37^i) PP=PP:=Nat.gcd_eq_right this;rw[aCP i]at a;exact absurd a s_
def aHP:0<PP:=s_
def aJS:NN+1=PP:=s_
def aHQ(n:Nat)(c:n+1=PP)(e:n<=NN){x:Nat}(h0:0<x)(a:x<PP):∃i,x=37^i%PP:=by
 have:=Wc (L:=(List.range n).map λi=>37^i%PP) (n:=PP) (by rw[aP,QK];exact c) (aCR n e) (aFh n) (λy b=>by
  obtain⟨i,_,rfl⟩:=dF.1 b
  exact zM _ aHP) h0 a
 obtain⟨i,_,d⟩:=dF.1 this;exact⟨i,d.symm⟩
def aFi{x:Nat}(h0:0<x)(a:x<PP):∃i,x=37^i%PP:=aHQ NN aJS (cN _) h0 a
def aCS{x:Nat}(h:x%PP≠0):x^NN%PP=1:=by obtain⟨i,a⟩:=aFi (x:=x%PP) o_ (zM _ s_);rw[Kn,a,<-Kn,<-IA,QP,IA,Kn,aGX,Nat.one_pow];decide
def aFj{x y:Nat}(h:x*y%PP=0):x%PP=0\/y%PP=0:=by
 by_cases a:x%PP=0;exact .inl a;refine .inr ?_;have b:=aCS a;have e:x^NN=x^(NN-1)*x:=by rw[<-QM];rfl
 have:x^NN*y%PP=0:=by rw[e,aBZ,CY,h,aGN,Nat.zero_mod]
 rw[CY,b,Km,Mn]at this;exact this
end Hud
namespace Hud
instance:NeZero PP:=⟨s_⟩
abbrev Fq:=Fin PP
def aFk{a b:Fq}(h:a*b=0):a=0\/b=0:=by
 have c:(a*b).val=0:=by rw[h];rfl
 rw[Fin.val_mul]at c;rcases aFj c with h2|h2;left;apply Fin.ext;rw[EZ a.isLt]at h2;simpa using h2;right;apply Fin.ext;rw[EZ b.isLt]at h2;simpa using h2
def Jy(a:Fq)(n:Nat):(a^n).val=a.val^n%PP:=m_
def aAo{a:Fq}(h:a≠0):a^NN=1:=by apply Fin.ext;rw[Jy,aCS];rfl;rw[EZ a.isLt];simp_all
theorem aTm(a:Fq):a^PP=a:=by
 have b:∀n m:Nat,n=m+1->a^n=a^m*a:=by rintro n m rfl;grind
 have e:=b PP NN aJS.symm;by_cases h:a=0;rw[e,h];grind;rw[e,aAo h];grind
def inv(a:Fq):Fq:=a^(NN-1)
def aNs{a:Fq}(h:a≠0):a*inv a=1:=by
 have b:∀n m:Nat,n=m+1->a^n=a^m*a:=by rintro n m rfl;grind
 have e:=b NN (NN-1) s_;rw[inv,<-aAo h,e];grind
def aLM(a:Fq):a*0=0:=Fin.mul_zero a
def aOO(a:Fq):0*a=0:=Fin.zero_mul a
def aOW(a:Fq):0+a=a:=Fin.zero_add a
def aOD(a:Fq):a+0=a:=Fin.add_zero a
def aNv:(1:Fq)≠0:=s_
def ev:List Fq->Fq->Fq|[],_=>0|c::l,t=>c+t*ev l t
def zp(l:List Fq):Prop:=∀c∈l,c=0
def aPW{l:List Fq}(h:zp l)(t:Fq):ev l t=0:=by
 induction l with
 |nil=>rfl|cons c l ih=>
  have b:=h c k_;have h2:=ih λd a=>h d db;simp_all[ev,aLM,aOW]
def sd(z:Fq):List Fq->List Fq|[]=>[]|[_]=>[]|_::d::l=>ev (d::l) z::sd z (d::l)
def aUJ(z:Fq):∀l,(sd z l).length=l.length-1|[]=>rfl|[_]=>rfl|_::d::l=>by have:=aUJ z (d::l);grind[sd,List.length_cons]
def aX0(z t:Fq):∀l,ev l t=(t-z)*ev (sd z l) t+ev l z|[]=>by simp only[ev,sd,aLM,aOW]|[c]=>by simp only[ev,sd];grind|c::d::l=>by have:=aX0 z t (d::l);have e:ev (c::d::l) t=c+t*ev (d::l) t:=rfl;have b:ev (c::d::l) z=c+z*ev (d::l) z:=rfl;have a:ev (sd z (c::d::l)) t=ev (d::l) z+t*ev (sd z (d::l)) t:=rfl;grind
def aX1{z:Fq}:∀{l},ev l z=0->zp (sd z l)->zp l
 |[],_,_=>by simp[zp]|[c],h,_=>by
  simp only[ev]at h;have e:c=0:=m_;intro x a;simp_all
 |c::d::l,h,b=>by
  simp only[sd]at b;have f:=b _ (EV);have h2:=aX1 f λx a=>b x (GU _ a);have g:ev (c::d::l) z=c+z*ev (d::l) z:=rfl;rw[g,f]at h;have e:c=0:=m_;intro x a;rcases cS.1 a with rfl|a;exact e;exact h2 x a
def aQx:∀(n:Nat){l:List Fq}{R:List Fq},l.length<=n->¬zp l->R.Nodup->(∀z∈R,ev l z=0)->R.length<n
 |0,l,R,g,b,_,_=>by
  grind[zp]
 |n+1,l,[],_,_,_,_=>by simp| n+1,l,z::R,g,b,f,c=>by
  obtain⟨j,h2⟩:=BU.1 f;have a:=c z k_;have:=aQx n (l:=sd z l) (R:=R) (by rw[aUJ];omega) (λh=>b (aX1 a h)) h2 λy d=>by
   have e:=aX0 z y l;rw[c y (by simp[d]),a]at e;have i:(y-z)*ev (sd z l) y=0:=m_;rcases aFk i with h|h;grind;exact h
  simp_all
def aOX{l R:List Fq}(d:l.length<=R.length)(c:R.Nodup)(b:∀z∈R,ev l z=0):zp l:=by refine QB λa=>?_;have:=aQx l.length (cN _) a c b;omega
def pa:List Fq->List Fq->List Fq|[],q=>q|p,[]=>p|c::p,d::q=>(c+d)::pa p q
theorem aK5(t:Fq):∀p q,ev (pa p q) t=ev p t+ev q t|[],q=>by simp only[pa,ev];grind|c::p,[]=>by simp only[pa,ev];grind|c::p,d::q=>by have:=aK5 t p q;grind[pa,ev]
theorem aJu:∀p q,(pa p q).length=max p.length q.length|[],q=>by simp[pa]|c::p,[]=>by simp[pa]|c::p,d::q=>by simp only[pa,sE,aJu p q];omega
def ps(c:Fq)(p:List Fq):List Fq:=p.map (c*·)
theorem aKs(c t:Fq)(p:List Fq):ev (ps c p) t=c*ev p t:=by
 induction p with
 |nil=>simp only[ps,uP,ev];grind|cons d p ih=>
  grind[ps,ev]
def pm:List Fq->List Fq->List Fq|[],_=>[]|c::p,q=>pa (ps c q) (0::pm p q)
theorem aGT(t:Fq)(q:List Fq):∀p,ev (pm p q) t=ev p t*ev q t|[]=>by simp only[pm,ev];grind|c::p=>by simp only[pm,aK5,aKs,ev,aGT t q p];grind
def mon(d:Nat)(l:List Fq):Prop:=∃f,l=f++[1]/\f.length=d
def gL{d:Nat}{l:List Fq}(h:mon d l):l.length=d+1:=by obtain⟨f,rfl,rfl⟩:=h;simp
def aLZ{d:Nat}{l:List Fq}(h:mon d l):¬zp l:=by obtain⟨f,rfl,_⟩:=h;intro a;exact aNv (a 1 k_)
def aOE{d:Nat}:∀{p q:List Fq},mon d p->q.length<=d->mon d (pa p q)
 |p,[],h,_=>by
  cases p<;>exact h
 |[],l::q,h,i=>by
  obtain⟨f,a,_⟩:=h;simp at a
 | c::p,e::q,⟨f,a,b⟩,i=>by
  cases f with
  |nil=>simp at b;subst b;simp at i|cons x f=>
   simp only[jC,List.cons.injEq]at a;obtain⟨rfl,rfl⟩:=a;obtain⟨g,k,j⟩:=aOE (d:=f.length) (p:=f++[1]) (q:=q) ⟨f,rfl,rfl⟩ (by simp at b i;omega);exact⟨(c+e)::g,by simp only[pa,k,jC],by simp at b⊢;omega⟩
def aTn{d:Nat}:∀{p q:List Fq},mon d q->p.length<=d->mon d (pa p q)
 |[],q,h,_=>h
 |c::p,[],⟨f,a,_⟩,i=>by simp at a
 | c::p,e::q,⟨f,a,b⟩,i=>by
  cases f with
  |nil=>simp at b;subst b;simp at i
  |cons x f=>
   simp only[jC,List.cons.injEq]at a;obtain⟨rfl,rfl⟩:=a;obtain⟨g,k,j⟩:=aTn (d:=f.length) (p:=p) (q:=f++[1]) ⟨f,rfl,rfl⟩ (by simp at b i;omega);exact⟨(c+e)::g,by simp only[pa,k,jC],by simp at b⊢;omega⟩
def aOi(q:List Fq):∀p,(pm p q).length<=p.length+q.length|[]=>by simp[pm]|c::p=>by have:=aOi q p;grind[pm,aJu,ps,List.length_map,List.length_cons]
def aMt {e:Nat} {q:List Fq} (h:mon e q):∀{d:Nat}{p:List Fq},mon d p->mon (d+e) (pm p q)
 |d,[],⟨f,a,_⟩=>by simp at a
 | d,c::p,⟨f,a,i⟩=>by
  cases f with
  | nil=>
   simp only[dM,List.cons.injEq]at a;obtain⟨rfl,rfl⟩:=a;simp at i;subst i;have k:ps 1 q=q:=by
    unfold ps
    conv=>rhs;rw[<-List.map_id q]
    apply LD;grind
   simp only[pm,k,pQ];obtain⟨g,rfl,b⟩:=h
   cases g with
   |nil=>
    simp at b;subst b;refine⟨[],?_,rfl⟩;rfl
   |cons x g=>
    refine⟨(x+0)::g,?_,by simpa using b⟩;simp_all[jC,pa]
  | cons x f=>
   simp only[jC,List.cons.injEq]at a;obtain⟨rfl,rfl⟩:=a;simp only[pm];have ih:=aMt h (d:=f.length) (p:=f++[1]) ⟨f,rfl,rfl⟩;have:mon (d+e) (0::pm (f++[1]) q):=by obtain⟨g,b,j⟩:=ih;exact⟨0::g,by rw[b];rfl,by simp at i⊢;omega⟩
   refine aTn this ?_;have:=gL h;grind[ps,List.length_map]
def pr:List Fq->List Fq|[]=>[1]|z::R=>pm [-z,1] (pr R)
def aX2(t:Fq):∀R,ev (pr R) t=R.foldr (λz a=>(t-z)*a) 1|[]=>by simp only[pr,ev,List.foldr_nil,aLM,aOD]|z::R=>by simp only[pr,aGT,List.foldr_cons,<-aX2 t R,ev];grind
def aNS:∀R:List Fq,mon R.length (pr R)|[]=>⟨[],rfl,rfl⟩|z::R=>by have:=aMt (aNS R) (d:=1) (p:=[-z,1]) ⟨[-z],rfl,rfl⟩;rw[sE,Nat.add_comm];exact this
def aJE{t:Fq}:∀{R:List Fq},ev (pr R) t=0↔t∈R
 |[]=>by
  grind[pr,ev]
 | z::R=>by simp only[pr,aGT,cS,<-aJE (t:=t) (R:=R),ev];constructor;intro h;rcases aFk h with h|h;left;grind;exact .inr h;grind
def aXm{p q:List Fq}{R:List Fq}(e:p.length<=R.length)(d:q.length<=R.length)(a:R.Nodup)(h:∀z∈R,ev p z=ev q z):∀t,ev p t=ev q t:=by
 intro t;have b:=aOX (l:=pa p (ps (-1) q)) (R:=R) sk a λz c=>by grind[aK5,aKs]
 have h2:=aPW b t;grind[aK5,aKs]
end Hud
namespace Hud
def aUK(n:Nat):∃l:List (Fin n),l.Nodup/\l.length=n/\∀x,x∈l:=⟨List.finRange n,List.nodup_finRange n,List.length_finRange,λx=>List.mem_finRange x⟩
def aPb{l:List Fq}(b:l.length<=PP)(h:∀t,ev l t=0):zp l:=by obtain⟨R,a,h2,_⟩:=aUK PP;exact aOX o_ a λz _=>h z
def aPm {p q:List Fq} (a:p.length=q.length) (f:p.length<=PP) (h:∀t,ev p t=ev q t):p=q:=by
 have b:∀(p q:List Fq),p.length=q.length->zp (pa p (ps (-1) q))->p=q:=by
  intro p
  induction p with
  |nil=>intro q a _;exact(Ae a.symm).symm| cons c p ih=>
   intro q a b
   cases q with
   |nil=>simp at a|cons d q=>
    have g:=b (c+-1*d) (by simp[ps,pa]);have h2:=ih q oe λx e=>b x (by simp only[ps,fG,pa];exact GU _ e);grind
 refine b p q a (aPb sk λt=>?_);grind[aK5,aKs]
def aI(l:List Fq):List Fq:=(l.reverse.dropWhile (· == 0)).reverse
theorem aKH(l:List Fq)(c:Fq):aI (l++[c])=if c=0 then aI l else l++[c]:=by grind[aI,List.reverse_append,List.reverse_singleton,List.singleton_append,List.dropWhile_cons]
theorem aRf:aI []=[]:=rfl
theorem aOF(t c:Fq):∀l:List Fq,ev (l++[c]) t=ev l t+c*t^l.length
 |[]=>by
  have:t^0=1:=m_;simp only[dM,ev,gQ,this,aLM,aOD,aOW];grind
 |d::l=>by have:=aOF t c l;grind[ev,List.length_cons]
def aPx{p:List Fq->Prop}(h0:p [])(a:∀l c,p l->p (l++[c])):∀l,p l:=by
 intro l;rw[<-List.reverse_reverse l]
 induction l.reverse with
 |nil=>exact h0|cons c r ih=>rw[List.reverse_cons];exact a _ _ ih
theorem aH3(t:Fq):∀l,ev (aI l) t=ev l t:=by refine aPx rfl λl c ih=>?_;grind[aKH,aOF]
def ID:∀l,(aI l).length<=l.length:=by refine aPx (cN _) λl c ih=>?_;grind[aKH]
def tr(l:List Fq):Prop:=l=[]\/∃f c,l=f++[c]/\c≠0
def aEU:∀l,tr (aI l):=by refine aPx (.inl rfl) λl c ih=>?_;rw[aKH];split;exact ih;rename_i h;exact .inr ⟨l,c,rfl,h⟩
def aBE{l:List Fq}(h:tr l):aI l=l:=by
 rcases h with rfl|⟨f,c,rfl,a⟩
 rfl;grind[aKH]
def aMu:∀l,∃k,l=aI l++List.replicate k 0:=by refine aPx ⟨0,rfl⟩ λl c ih=>?_;rw[aKH];split;rename_i h;subst h;obtain⟨k,a⟩:=ih;exact⟨k+1,by rw[List.replicate_succ',<-lq2,<-a]⟩;simp
def aJL{l:List Fq}:aI l=[]↔zp l:=by
 constructor;intro h c d;obtain⟨k,b⟩:=aMu l;grind;intro h;rcases aEU l with a|⟨f,c,a,d⟩
 exact a;obtain⟨k,b⟩:=aMu l;exact absurd (h c (by rw[b,a];simp)) d
def aM0{d:Nat}{l:List Fq}(h:mon d l):tr l:=by obtain⟨f,rfl,_⟩:=h;exact .inr ⟨f,1,rfl,aNv⟩
def aNT {m:Nat} {g k R:List Fq} (d:mon m g) (u:R.length<=m) (s:k.length+m+1<=PP) (h:∀t,ev R t=ev k t*ev g t):zp k/\zp R:=by
 have a:zp k:=by
  refine QB λi=>?_;have p:aI k≠[]:=λe=>i (aJL.1 e);rcases aEU k with h2|⟨f,c,h2,o⟩
  exact p h2;obtain⟨v,r⟩:∃v,c*v=1:=⟨inv c,aNs o⟩
  have l:mon f.length (ps v (aI k)):=by refine⟨ps v f,?_,by simp[ps]⟩;grind[ps]
  have j:=aMt d l;have b:=aOE (q:=ps (-v) R) j ov;have n:f.length+1<=k.length:=by have:=ID k;simp_all
  refine aLZ b (aPb (by rw[gL b];omega) λt=>?_);grind[aK5,aGT,aKs,aH3]
 refine⟨a,aPb (by have:=gL d;omega) λt=>?_⟩;rw[h t,aPW a,aOO]
def aQy(l:List Fq)(i j:Nat)(v:Fq)(h:i<l.length):(l.set i v).getD j 0=if i=j then v else l.getD j 0:=m_
def aSK(t v:Fq):∀(l:List Fq)(i:Nat),i<l.length->ev (l.set i v) t=ev l t+(v-l.getD i 0)*t^i
 |[],i,h=>by simp at h|c::l,0,_=>by
  grind[ev,List.getD_cons_zero]
 |c::l,i+1,h=>by have:=aSK t v l i n_;grind[ev,List.getD_cons_succ]
def Is(c:Fq):List Fq->Nat->List Fq->List Fq|[],_,a=>a|x::b,k,a=>Is c b (k+1) (a.set k (a.getD k 0-c*x))
def aID(c:Fq):∀(b:List Fq)(k:Nat)(a:List Fq),(Is c b k a).length=a.length|[],_,_=>rfl|x::b,k,a=>by rw[Is,aID c b,cL]
def aPK(c t:Fq):∀(b:List Fq)(k:Nat)(a:List Fq),k+b.length<=a.length->ev (Is c b k a) t=ev a t-c*t^k*ev b t
 |[],k,a,_=>by
  grind[Is,ev]
 |x::b,k,a,h=>by
  have d:k<a.length:=c_;rw[Is,aPK c t b (k+1) _ (by rw[cL];simp only[sE]at h;omega),aSK t _ a k d];grind[ev]
def aQz(c:Fq):∀(b:List Fq)(k:Nat)(a:List Fq)(j:Nat),k+b.length<=a.length->(Is c b k a).getD j 0=if k<=j/\j<k+b.length then a.getD j 0-c*b.getD (j-k) 0 else a.getD j 0
 |[],k,a,j,_=>by
  grind[Is]
 |x::b,k,a,j,h=>by
  have d:k<a.length:=c_;rw[Is,aQz c b (k+1) _ j (by rw[cL];simp only[sE]at h;omega),aQy _ _ _ _ d];grind
def aJ7(b:List Fq)(v:Fq):Nat->List Fq×List Fq->List Fq×List Fq|0,s=>s|k+1,(q,a)=>aJ7 b v k (q.set k (a.getD (k+b.length-1) 0*v),Is (a.getD (k+b.length-1) 0*v) b k a)
def aRg {b f:List Fq} {c:Fq} (l:b=f++[c]) {v:Fq} (o:c*v=1):∀(k:Nat)(q a:List Fq),k<=q.length->q.length+b.length<=a.length+1->(∀j,k+b.length-1<=j->a.getD j 0=0)->(∀j,j<k->q.getD j 0=0) ->
 (aJ7 b v k (q,a)).1.length=q.length/\(aJ7 b v k (q,a)).2.length=a.length/\(∀j,b.length-1<=j->(aJ7 b v k (q,a)).2.getD j 0=0) /\
 (∀t,ev (aJ7 b v k (q,a)).1 t*ev b t+ev (aJ7 b v k (q,a)).2 t=ev q t*ev b t+ev a t)/\(∀j,k<=j->(aJ7 b v k (q,a)).1.getD j 0=q.getD j 0)
 |0,q,a,_,_,m,_=>⟨rfl,rfl,λj i=>m j o_,λt=>rfl,λj _=>rfl⟩| k+1,q,a,C,p,m,n=>by
  have s:b.length=f.length+1:=by rw[l];simp
  have e:b.getD (b.length-1) 0=c:=by rw[l];simp
  simp only[aJ7];generalize r:a.getD (k+b.length-1) 0*v=d;have g:=aQz d b k a
  obtain⟨B,h2,A,w,u⟩:=aRg l o k (q.set k d) (Is d b k a) (by rw[cL];omega) (by rw[cL,aID];exact p) (λj i=>by
   rw[g j o_];by_cases h:j=k+b.length-1;rw[if_pos o_,(o_:j-k=b.length-1),e,<-r,h];generalize a.getD (k+b.length-1) 0=x;grind;rw[if_neg o_]
   exact m j o_) (λj i=>by rw[aQy _ _ _ _ o_,if_neg o_];exact n j o_)
  refine⟨by rw[B,cL],by rw[h2,aID],A,λt=>?_,λj i=>?_⟩;rw[w t,aSK t d q k o_,aPK d t b k a o_,n k o_];generalize ev q t=x;generalize ev b t=y;generalize ev a t=z;grind;rw[u j o_,aQy _ _ _ _ o_,if_neg o_]
def dm(a b:List Fq):List Fq×List Fq :=
 if aI b=[] then([],[]) else if(aI a).length<(aI b).length then([],aI a) else
  let s:=aJ7 (aI b) (inv ((aI b).getD ((aI b).length-1) 0)) ((aI a).length-(aI b).length+1) (List.replicate ((aI a).length-(aI b).length+1) 0,aI a)
  (aI s.1,aI s.2)
def aSa{l:List Fq}{m:Nat}(h:∀j,m<=j->l.getD j 0=0):(aI l).length<=m:=by
 rcases aEU l with a|⟨f,c,a,d⟩
 rw[a];simp;obtain⟨k,b⟩:=aMu l;rcases eD m (aI l).length with h2|h2;have:=h ((aI l).length-1) o_;grind;exact h2
def aPX {a b:List Fq} (u:¬zp b):(∀t,ev a t=ev (dm a b).1 t*ev b t+ev (dm a b).2 t)/\(dm a b).2.length<(aI b).length/\tr (dm a b).1/\tr (dm a b).2 /\
 ((dm a b).1=[]\/(dm a b).1.length+(aI b).length<=(aI a).length+1)/\(dm a b).2.length<=(aI a).length:=by
 have m:aI b≠[]:=λh=>u (aJL.1 h);have k:0<(aI b).length:=H3.2 m;unfold dm;rw[if_neg m];by_cases i:(aI a).length<(aI b).length;rw[if_pos i];refine⟨λt=>?_,i,.inl rfl,aEU a,.inl rfl,cN _⟩;simp only[ev,aH3,aOO,aOW];rw[if_neg i];simp only;rcases aEU b with h2|⟨f,c,h2,g⟩
 simp_all;have d:(aI b).getD ((aI b).length-1) 0=c:=by rw[h2];simp
 rw[d];have e:=aNs g;revert e;generalize inv c=v;intro e;have q:∀j,(List.replicate ((aI a).length-(aI b).length+1) (0:Fq)).getD j 0=0:=λj=>by simp[rH,List.getElem?_replicate];split<;>rfl
 have r:=aRg h2 e ((aI a).length-(aI b).length+1) (List.replicate ((aI a).length-(aI b).length+1) 0) (aI a) k_ f_
  (λj z=>by rw[rH,sX o_];rfl) (λj _=>q j)
 revert r;generalize aJ7 (aI b) v ((aI a).length-(aI b).length+1) (List.replicate ((aI a).length-(aI b).length+1) 0,aI a)=s;rintro⟨p,y,o,n,_⟩;rw[QE]at p;have x:=ID s.1;have w:=ID s.2;refine⟨λt=>?_,?_,aEU _,aEU _,.inr o_,o_⟩;have:=n t;rw[aPW (l:=List.replicate _ 0) (λc g=>YM g),aOO,aOW,aH3,aH3]at this;rw[aH3,aH3,this];have:=aSa o;omega
end Hud
namespace Hud
def aQA(t:Fq)(l:List Fq):∀k,ev (l++List.replicate k 0) t=ev l t|0=>by simp|k+1=>by rw[List.replicate_succ',<-lq2,aOF,aQA t l k,aOO,aOD]
def aOY{l:List Fq}(h:tr l):∀k,aI (l++List.replicate k 0)=l|0=>by simpa using aBE h|k+1=>by rw[List.replicate_succ',<-lq2,aKH,if_pos rfl,aOY h k]
def aSL{p q:List Fq}(b:tr p)(a:tr q)(c:p.length<=PP)(h2:q.length<=PP)(h:∀t,ev p t=ev q t):p=q:=by
 have:=aPm (p:=p++List.replicate (max p.length q.length-p.length) 0) (q:=q++List.replicate (max p.length q.length-q.length) 0) f_ f_ λt=>by rw[aQA,aQA,h t]
 rw[<-aOY b (max p.length q.length-p.length),this,aOY a]
def aX3{l:List Fq}(h:tr l)(a:zp l):l=[]:=by rw[<-aBE h];exact aJL.2 a
def aPy {m:Nat} {a g h:List Fq} (j:mon m g) (H:¬zp a) (M:h.length+a.length+m+2<=PP) (N:∀t,ev a t=ev h t*ev g t):
 (dm a g).2=[]/\(∀t,ev a t=ev (dm a g).1 t*ev g t)/\(dm a g).1.length+m=(aI a).length/\(∀n,mon n a->mon (n-m) (dm a g).1/\m<=n):=by
 obtain⟨B,A,z,w,u,P⟩:=aPX (a:=a) (b:=g) (aLZ j);rw[aBE (aM0 j),gL j]at A u;have K:=ID a;revert B A z w u;generalize(dm a g).1=Q;generalize(dm a g).2=R;intro B A z w u;have s:Q.length<=a.length+1:=m_;have D:=aNT (k:=pa h (ps (-1) Q)) (R:=R) j o_ sk λt=>by grind[aK5,aKs]
 have I:=aX3 w D.2;subst I;have e:∀t,ev a t=ev Q t*ev g t:=λt=>by have:=B t;simp only[ev,aOD]at this;exact this
 refine⟨rfl,e,?_⟩;rcases z with rfl|⟨f,c,rfl,C⟩
 exact absurd (aPb o_ λt=>by rw[e t];simp only[ev,aOO]) H;obtain⟨v,L⟩:∃v,c*v=1:=⟨inv c,aNs C⟩
 have E:mon f.length (ps v (f++[c])):=by refine⟨ps v f,?_,by simp[ps]⟩;grind[ps]
 obtain⟨F,J,d⟩:=aMt j E;have l:aI a=ps c F++[c]:=by
  refine aSL (aEU a) (.inr ⟨_,_,rfl,C⟩) o_ (by simp[ps,d];simp at s;omega) λt=>?_;have:ps c F++[c]=ps c (F++[1]):=by
   simp only[ps,bZ,fG,uP];have:c*1=c:=m_;rw[this]
  rw[this,<-J,aKs,aGT,aKs,aH3,e t];generalize ev (f++[c]) t=x;generalize ev g t=y;grind
 refine⟨by rw[l];simp[ps,d];omega,λn p=>?_⟩;have G:=gL p;rw[aBE (aM0 p)]at l;obtain⟨O,r,q⟩:=p;rw[r]at l;have o:=(List.append_inj' l rfl).2;have i:=congrArg List.length l;simp[ps,d,q]at i;simp only[List.cons.injEq,and_true]at o;subst o;exact⟨⟨f,rfl,o_⟩,o_⟩
def aJF:Nat->List Fq->List Fq->List Fq|0,a,_=>a|n+1,a,b=>if b=[] then a else aJF n b (dm a b).2
def aPz(a:List Fq):Fq:=a.getD (a.length-1) 0
def aRC(a:List Fq):List Fq:=if a=[] then [] else ps (inv (aPz a)) a
def X1(a b:List Fq):List Fq:=aRC (aJF ((aI b).length+1) (aI a) (aI b))
def aQB (L:Nat):∀(n:Nat)(a b:List Fq),tr a->tr b->a.length<=L->b.length<=L->b.length<n ->
 tr (aJF n a b)/\(aJF n a b).length<=L/\(aJF n a b=[]->a=[]/\b=[]) /\
 (∃u v,u.length<=n*(L+1)+1/\v.length<=n*(L+1)+1/\∀t,ev (aJF n a b) t=ev u t*ev a t+ev v t*ev b t) /\
 (∃h,h.length<=n*(L+1)+1/\∀t,ev a t=ev h t*ev (aJF n a b) t)/\(∃h,h.length<=n*(L+1)+1/\∀t,ev b t=ev h t*ev (aJF n a b) t)
 |0,a,b,_,_,_,_,h=>by omega| n+1,a,b,z,l,k,j,K=>by
  have G:∀t:Fq,ev [1] t=1:=λt=>by simp only[ev,aLM,aOD]
  simp only[aJF];by_cases d:b=[]
  subst d;rw[if_pos rfl];refine⟨z,k,λh=>⟨h,rfl⟩,⟨[1],[],k_,k_,λt=>?_⟩,⟨[1],k_,λt=>?_⟩,⟨[],k_,λt=>?_⟩⟩;grind[ev];grind;simp only[ev,aOO];rw[if_neg d];have H:¬zp b:=λh=>d (aX3 l h);obtain⟨i,w,A,s,f,r⟩:=aPX (a:=a) (b:=b) H;rw[aBE l]at w f;rw[aBE z]at f r;revert i w A s f r;generalize(dm a b).1=Q;generalize(dm a b).2=R;intro i w A s f r;have M:Q.length<=L+1:=m_;obtain⟨q,p,o,⟨u,v,S,P,m⟩,⟨x,O,e⟩,⟨y,N,c⟩⟩:=aQB L n b R l s j o_ o_;revert q p o m e c;generalize aJF n b R=g;intro q p o m e c;rw[Gp];refine⟨q,p,λh=>absurd (o h).1 d,⟨v,pa u (ps (-1) (pm v Q)),o_,?_,λt=>?_⟩,⟨pa (pm Q x) y,?_,λt=>?_⟩,⟨x,o_,e⟩⟩;have:=aOi Q v;rw[aJu];simp only[ps,aP];omega;rw[m t,aK5,aKs,aGT];have:=i t;generalize ev a t=J at *
  generalize ev b t=F at *
  generalize ev u t=E at *
  generalize ev v t=D at *
  generalize ev Q t=C at *
  generalize ev R t=B at *
  grind;have:=aOi x Q;rw[aJu];omega;rw[aK5,aGT,i t];have U:=e t;have T:=c t;generalize ev b t=F at *
  generalize ev x t=E at *
  generalize ev y t=D at *
  generalize ev Q t=C at *
  generalize ev R t=B at *
  generalize ev g t=I at *
  grind
def aSM{L:Nat}{a b:List Fq}(F:a.length<=L)(E:b.length<=L)(q:¬(zp a/\zp b)):
 ∃m,mon m (X1 a b)/\m+1<=L/\(∃u v,u.length<=(L+1)*(L+1)+1/\v.length<=(L+1)*(L+1)+1/\∀t,ev (X1 a b) t=ev u t*ev a t+ev v t*ev b t) /\
 (∃h,h.length<=(L+1)*(L+1)+1/\∀t,ev a t=ev h t*ev (X1 a b) t)/\(∃h,h.length<=(L+1)*(L+1)+1/\∀t,ev b t=ev h t*ev (X1 a b) t):=by
 have B:=ID a;have A:=ID b;obtain⟨n,l,k,⟨u,v,K,J,j⟩,⟨x,I,i⟩,⟨y,H,d⟩⟩:=aQB L ((aI b).length+1) (aI a) (aI b) (aEU a) (aEU b) o_ o_ o_;have G:((aI b).length+1)*(L+1)+1<=(L+1)*(L+1)+1:=by have:=aOo (L+1) (o_:(aI b).length+1<=L+1);omega
 unfold X1;revert n l k j i d;generalize aJF ((aI b).length+1) (aI a) (aI b)=g;intro n l k j i d;rcases n with rfl|⟨f,c,rfl,s⟩
 obtain⟨z,h2⟩:=k rfl;exact absurd ⟨aJL.1 z,aJL.1 h2⟩ q;unfold aRC;rw[if_neg k_];have r:aPz (f++[c])=c:=by simp[aPz]
 rw[r];have e:=aNs s;revert e;generalize inv c=w;intro e;refine⟨f.length,⟨ps w f,?_,by simp[ps]⟩,by simpa using l,⟨ps w u,ps w v,ov,ov,λt=>?_⟩,⟨ps c x,ov,λt=>?_⟩,⟨ps c y,ov,λt=>?_⟩⟩;simp only[ps,bZ,fG,uP];have:w*c=1:=by rw[<-e];grind
 rw[this];rw[aKs,aKs,aKs,j t,aH3,aH3];generalize ev a t=p;generalize ev b t=o;generalize ev u t=D;generalize ev v t=C;grind;have:=i t;rw[aH3]at this;rw[aKs,aKs,this];generalize ev x t=p;generalize ev (f++[c]) t=o;grind;have:=d t;rw[aH3]at this;rw[aKs,aKs,this];generalize ev y t=p;generalize ev (f++[c]) t=o;grind
def Sp(a R:List Fq):Prop:=mon R.length a/\R.Nodup/\∀z,ev a z=0↔z∈R
def aMv{a R:List Fq}{n:Nat}(b:mon n a)(d:R.Nodup)(c:∀z∈R,ev a z=0):R.length<=n:=by have:=aQx (n+1) (l:=a) (R:=R) (by rw[gL b];exact cN _) (aLZ b) d c;omega
def aUL{a R:List Fq}{n:Nat}(c:mon n a)(b:R.Nodup)(f:R.length=n)(e:∀z∈R,ev a z=0):Sp a R:=by
 subst f;refine⟨c,b,λz=>⟨λh=>?_,e z⟩⟩;refine QB λd=>?_;have:=aMv (R:=z::R) c (BU.2 ⟨d,b⟩) λy g=>m_;simp at this;omega
def aXn{a R g h:List Fq}{m:Nat}(d:Sp a R)(j:mon m g)(i:mon (R.length-m) h)(o:m<=R.length)(k:∀t,ev a t=ev h t*ev g t):
 Sp g (R.filter λz=>ev g z=0)/\Sp h (R.filter λz=>¬ev g z=0):=by
 have p:=aMv (R:=R.filter λz=>ev g z=0) j (d.2.1.filter _) λz b=>by simpa using(gR.1 b).2
 have c:∀z∈R.filter (λz=>¬ev g z=0),ev h z=0:=λz b=>by obtain⟨h2,n⟩:=gR.1 b;have:=k z;rw[(d.2.2 z).2 h2]at this;rcases aFk this.symm with e|e;exact e;simp[e]at n
 have h2:=aMv (R:=R.filter λz=>¬ev g z=0) i (d.2.1.filter _) c;have f:(R.filter λz=>ev g z=0).length+(R.filter λz=>¬ev g z=0).length=R.length:=by
  generalize R=l
  induction l with
  |nil=>rfl|cons z l ih=>
   grind
 exact⟨aUL j (d.2.1.filter _) o_ λz b=>by simpa using(gR.1 b).2,aUL i (d.2.1.filter _) o_ c⟩
end Hud
namespace Hud
def aPc(q:List Fq)(a:q≠[]):∀p,p≠[]->(pm p q).length+1=p.length+q.length
 |[],h=>absurd rfl h|[c],_=>by
  have:0<q.length:=H3.2 a;grind[pm,aJu,ps,List.length_map,List.length_cons,List.length_nil]
 |c::d::p,_=>by have:=aPc q a (d::p) k_;grind[pm,aJu,ps,List.length_map,List.length_cons]
def aJc(a b:List Fq):List Fq:=if aI a=[]\/aI b=[] then [] else aI (pm (aI a) (aI b))
def aRD(t:Fq)(a b:List Fq):ev (aJc a b) t=ev a t*ev b t:=by unfold aJc;split;rename_i h;rcases h with h|h;rw[<-aH3 t a,h];simp only[ev,aOO];rw[<-aH3 t b,h];simp only[ev,aLM];grind[aH3,aGT]
def aSb(a b:List Fq):aJc a b=[]\/(aJc a b).length+1<=a.length+b.length:=by unfold aJc;split;exact .inl rfl;rename_i h;simp only[not_or]at h;have e:=aPc (aI b) h.2 (aI a) h.1;have h2:=ID (pm (aI a) (aI b));have d:=ID a;have c:=ID b;omega
def aWa(a b:List Fq):tr (aJc a b):=by unfold aJc;split;exact .inl rfl;exact aEU _
def aUM{d e:Nat}{a b:List Fq}(f:mon d a)(c:mon e b):mon (d+e) (aJc a b):=by have g:=gL f;have h2:=gL c;unfold aJc;rw[aBE (aM0 f),aBE (aM0 c),if_neg (λh=>by rcases h with h|h<;>simp[h]at g h2),aBE (aM0 (aMt c f))];exact aMt c f
def aUN {n m:Nat} {a b:List Fq} (d:mon n a) (j:mon m b) (E:m<=n) (w:n+1<=PP):mon (n-m) (dm a b).1/\(dm a b).2.length<=m:=by
 obtain⟨l,u,s,r,k,K⟩:=aPX (a:=a) (b:=b) (aLZ j);rw[aBE (aM0 j),gL j]at u k;rw[aBE (aM0 d),gL d]at k;revert l u s r k;generalize(dm a b).1=Q;generalize(dm a b).2=R;intro l u s r k;refine⟨?_,o_⟩;rcases s with rfl|⟨f,c,rfl,A⟩
 have:a=R:=aSL (aM0 d) r (by rw[gL d];exact w) o_ λt=>by rw[l t];simp only[ev,aOO,aOW]
 have:=gL d;subst_vars;omega;obtain⟨v,C⟩:∃v,c*v=1:=⟨inv c,aNs A⟩
 have B:v*c=1:=by rw[<-C];grind
 have G:mon f.length (ps v (f++[c])):=by refine⟨ps v f,?_,by simp[ps]⟩;grind[ps]
 have H:f.length+m<=n:=c_;have D:=aOE (q:=ps v R) (aMt j G) ov;obtain⟨F,I,i⟩:=D;have p:a=ps c F++[c]:=by
  refine aSL (aM0 d) (.inr ⟨_,_,rfl,A⟩) (by rw[gL d];exact w) (by simp[ps,i];omega) λt=>?_;have:ps c F++[c]=ps c (F++[1]):=by grind[ps]
  rw[this,<-I,aKs,aK5,aGT,aKs,aKs,l t];generalize ev (f++[c]) t=x;generalize ev b t=y;generalize ev R t=z;grind
 obtain⟨J,o,g⟩:=d;rw[o]at p;have h:=(List.append_inj' p rfl).2;have e:=congrArg List.length p;simp[ps,i,g]at e;simp only[List.cons.injEq,and_true]at h;subst h;exact⟨f,rfl,o_⟩
def aMM(md:List Fq):Nat->Nat->List Fq->List Fq->List Fq|0,_,out,_=>out|f+1,n,out,a=>if n=0 then out else aMM md f (n/2) (if n%2=1 then(dm (aJc out a) md).2 else out) (dm (aJc a a) md).2
def aTo{md:List Fq}{z:Fq}(b:¬zp md)(c:ev md z=0)(x:List Fq):ev (dm x md).2 z=ev x z:=by rw[(aPX (a:=x) b).1 z,c,aLM,aOW]
def MD(x:Fq)(n:Nat):x^n=(x*x)^(n/2)*x^(n%2):=by
 have a:∀m k:Nat,x^(2*m+k)=(x*x)^m*x^k:=by
  intro m
  induction m with
  |zero=>
   grind
  |succ m ih=>
   intro k;have b:∀(x:Fq)(k:Nat),x^(k+1)=x^k*x:=λx k=>m_;grind
 rw[<-a,QL]
def pw0(x:Fq):x^0=1:=m_
def pw1(x:Fq):x^1=x:=m_
def aRh{md:List Fq}{z:Fq}(b:¬zp md)(c:ev md z=0):∀(f n:Nat)(out a:List Fq),n<2^f->ev (aMM md f n out a) z=ev out z*(ev a z)^n
 |0,n,out,a,h=>by
  have:n=0:=A_;subst this;rw[aMM,pw0];grind
 | f+1,n,out,a,h=>by rw[aMM];split;rename_i d;subst d;grind;rw[aRh b c f (n/2) _ _ dH,aTo b c,aRD,MD (ev a z) n];rcases Nat.mod_two_eq_zero_or_one n with h2|h2;rw[h2,if_neg o_,pw0];grind;rw[h2,if_pos rfl,aTo b c,aRD,pw1];grind
def Fm(md w:List Fq)(m n:Nat)(r:List Fq):Prop:=∃k,(∀t,(ev w t)^n=ev md t*ev k t+ev r t)/\((k=[]/\mon n r/\n<=m)\/(mon (n-m) k/\m<=n/\r.length<=m))
theorem Wd(x:Fq)(a b:Nat):x^(a+b)=x^a*x^b:=m_
def aUO {md w:List Fq} {m:Nat} (e:mon m md) (N:1<=m) (W:2*m+1<=PP) {i g:Nat} {r1 d:List Fq} (r:Fm md w m i r1) (h2:Fm md w m g d):Fm md w m (i+g) (dm (aJc r1 d) md).2:=by
 obtain⟨l,E,r⟩:=r;obtain⟨n,D,h2⟩:=h2;obtain⟨R,Q,d3,d4,I,Z⟩:=aPX (a:=aJc r1 d) (b:=md) (aLZ e);rw[aBE (aM0 e),gL e]at Q I;rw[aBE (aWa r1 d)]at I;have H:=aSb r1 d;have f:∀t,ev r1 t*ev d t=ev (dm (aJc r1 d) md).1 t*ev md t+ev (dm (aJc r1 d) md).2 t:=λt=>by rw[<-R t,aRD]
 have C:∀x,r1.length+d.length<=x+m+1->(dm (aJc r1 d) md).1.length<=x:=m_;rcases r with⟨rfl,k,T⟩|⟨k,T,Y⟩<;>rcases h2 with⟨rfl,j,S⟩|⟨j,S,X⟩
 have o:=aUM k j;by_cases O:i+g<m;have B:dm (aJc r1 d) md=([],aJc r1 d):=by unfold dm;rw[aBE (aM0 e),aBE (aM0 o),if_neg (λh=>by have:=gL e;rw[h]at this;simp at this),if_pos (by rw[gL o,gL e];omega)]
 rw[B];refine⟨[],λt=>?_,.inl ⟨rfl,o,o_⟩⟩;grind;obtain⟨K,J⟩:=aUN o e o_ o_;refine⟨(dm (aJc r1 d) md).1,λt=>?_,.inr ⟨K,o_,J⟩⟩;grind[Wd,ev];have A:=gL k;refine⟨pa (pm r1 n) (dm (aJc r1 d) md).1,λt=>?_,.inr ⟨?_,o_,o_⟩⟩;rw[Wd,E t,D t,aK5,aGT];have:=f t;simp only[ev,aLM,aOW];grind;have:=aMt j k;rw[(o_:i+g-m=i+(g-m))];exact aOE this (by have:=C i o_;omega);have s:=gL j;refine⟨pa (pm l d) (dm (aJc r1 d) md).1,λt=>?_,.inr ⟨?_,o_,o_⟩⟩;rw[Wd,E t,D t,aK5,aGT];have:=f t;simp only[ev,aLM,aOW];generalize ev r1 t=x at *
 generalize ev d t=y at *
 generalize ev (dm (aJc r1 d) md).1 t=z at *
 generalize ev (dm (aJc r1 d) md).2 t=u at *
 generalize ev md t=v at *
 generalize ev l t=v2 at *
 grind;have:=aMt j k;rw[(o_:i+g-m=(i-m)+g)];exact aOE this (by have:=C g o_;omega);have A:=gL k;have s:=gL j;refine⟨pa (pa (pa (pm md (pm l n)) (pm l d)) (pm n r1)) (dm (aJc r1 d) md).1,λt=>?_,.inr ⟨?_,o_,o_⟩⟩;rw[Wd,E t,D t,aK5,aK5,aK5,aGT,aGT,aGT,aGT];have:=f t;generalize ev r1 t=x at *
 generalize ev d t=y at *
 generalize ev (dm (aJc r1 d) md).1 t=z at *
 generalize ev (dm (aJc r1 d) md).2 t=u at *
 generalize ev md t=v at *
 generalize ev l t=U at *
 generalize ev n t=v2 at *
 grind;have P:=aMt (aMt j k) e;rw[(o_:i+g-m=m+(i-m+(g-m)))];have F:∀(p q:List Fq)(x:Nat),p≠[]->p.length+q.length<=x+1->p.length<=x->(pm p q).length<=x:=by
  intro p q x M V L;by_cases G:q=[]
  subst G;have:∀p:List Fq,(pm p []).length<=p.length:=by
   intro p
   induction p with
   |nil=>simp[pm]|cons c p ih=>simp only[pm,aJu,ps,uP,gQ,sE];omega
  have r:=this p;omega;have:=aPc q G p M;omega
 refine aOE (aOE (aOE P (F _ _ _ (λh=>by rw[h]at A;simp at A) o_ o_)) (F _ _ _ (λh=>by rw[h]at s;simp at s) o_ o_)) (by have:=C (m-1+1) o_;omega)
def aRE {md w:List Fq} {m:Nat} (b:mon m md) (c:1<=m) (j:2*m+1<=PP):∀(f n i e:Nat)(out a:List Fq),n<2^f->Fm md w m i out->Fm md w m e a->Fm md w m (i+e*n) (aMM md f n out a)
 |0,n,i,e,out,a,h,g,_=>by
  have:n=0:=A_;subst this;exact g
 | f+1,n,i,e,out,a,h,g,k=>by
  rw[aMM];split;simp_all;have d:=aUO b c j k k;have o:=QL n 2;rcases Nat.mod_two_eq_zero_or_one n with h2|h2;rw[if_neg o_];have:=aRE b c j f (n/2) i (e+e) out _ dH g d;have l:e*n=(e+e)*(n/2):=by rw[<-Nat.two_mul,QP 2 e,aBZ];congr 1;omega
  rw[l];exact this;rw[if_pos h2];have:=aRE b c j f (n/2) (i+e) (e+e) _ _ dH (aUO b c j g k) d;have l:i+e*n=i+e+(e+e)*(n/2):=by
   have:e*n=e*(2*(n/2)+1):=by congr 1;omega
   rw[this,Nat.mul_add,Bb,<-aBZ,QP e 2,Nat.two_mul];omega
  rw[l];exact this
def aQC{md:List Fq}{m:Nat}(c:mon m md)(d:1<=m):∀(f n:Nat)(out a:List Fq),out.length<=m->(aMM md f n out a).length<=m|0,n,out,a,h=>h| f+1,n,out,a,h=>by rw[aMM];split;exact h;apply aQC c d f _ _ _;split;have:=(aPX (a:=aJc out a) (b:=md) (aLZ c)).2.1;rw[aBE (aM0 c),gL c]at this;omega;exact h
def aSN{md c:List Fq}{m:Nat}(e:mon m md)(n:1<=m)(hm:m<=1000)(T:∀t,ev c t=ev (aMM md 61 PP [1] [0,1]) t-t)(C:c.length<=m+1):
 ∃R,Sp (X1 md c) R/\R.length<=m/\∀z,z∈R↔ev md z=0:=by
 have O:∀t:Fq,ev [0,1] t=t:=λt=>by simp only[ev,aLM,aOD,aOW];grind
 have U:PP=2305843009213693951:=rfl;obtain⟨k,G,B⟩:=aRE (md:=md) (w:=[0,1]) e n o_ 61 PP 0 1 [1] [0,1] s_ ⟨[],λt=>by rw[pw0];simp only[ev,aLM,aOD,aOW],.inl ⟨rfl,⟨[],rfl,rfl⟩,o_⟩⟩
  ⟨[],λt=>by rw[pw1];simp only[ev,aLM,aOW],.inl ⟨rfl,⟨[0],rfl,rfl⟩,n⟩⟩
 rw[pQ,Km]at G B;have s:mon (PP-m) k:=m_;obtain⟨d,o,g2,⟨u,v,g3,g4,E⟩,⟨x,g6,D⟩,⟨y,g8,I⟩⟩:=aSM (L:=m+1) (a:=md) (b:=c) (by rw[gL e];exact cN _) C (λh=>aLZ e h.1);have hB:(m+1+1)*(m+1+1)+1<=1002*1002+1:=by have:=aJh (o_:m+1+1<=1002) (o_:m+1+1<=1002);omega
 have P:=gL e;obtain⟨Z,p,Y,K⟩:=aPy o (aLZ e) (h:=x) o_ D;obtain⟨r,X⟩:=K m e;revert p r;generalize(dm md (X1 md c)).1=Q;intro p r;revert o E D I p;generalize X1 md c=g;intro o E D I p;have V:mon (m-d+(PP-m)) (pa (pm Q k) y):=aOE (aMt s r) o_;have f:∀t,ev g t*ev (pa (pm Q k) y) t=0:=λt=>by grind[aTm,aK5,aGT]
 obtain⟨A,q,W,J⟩:=aUK PP;have N:=aMv (R:=A.filter λz=>ev g z=0) o (q.filter _) λz j=>by simpa using(gR.1 j).2
 have M:=aMv (R:=A.filter λz=>¬ev g z=0) V (q.filter _) λz j=>by have h2:=(gR.1 j).2;rcases aFk (f z) with i|i;simp[i]at h2;exact i
 have F:(A.filter λz=>ev g z=0).length+(A.filter λz=>¬ev g z=0).length=A.length:=by
  clear N M q W J
  induction A with
  |nil=>rfl|cons z l ih=>
   grind
 have S:(A.filter λz=>ev g z=0).length=d:=o_;refine⟨A.filter λz=>ev g z=0,aUL o (q.filter _) S (λz j=>by simpa using(gR.1 j).2),o_,λz=>?_⟩;rw[gR];constructor;grind;intro h;refine⟨J z,?_⟩;have H:=G z;rw[O,aTm,h,aOO,aOW]at H;have h2:=T z;rw[<-H]at h2;have i:=E z;rw[h,h2]at i;have:ev g z=0:=by rw[i];generalize ev u z=a1;generalize ev v z=a2;grind
 simpa using this
def aSO{a c R:List Fq}{s:Fq}(g:Sp a R)(q:1<=R.length)(H:R.length<=1000)(I:∀t,ev c t=ev (aMM a 61 (NN/2) [1] [s,1]) t-1)(j:c.length<=R.length+1):
 Sp (X1 a c) (R.filter λz=>(z+s)^(NN/2)=1)/\Sp (dm a (X1 a c)).1 (R.filter λz=>¬(z+s)^(NN/2)=1):=by
 have w:PP=2305843009213693951:=rfl;have r:=gL g.1;have i:∀z,z∈R->(ev c z=0↔(z+s)^(NN/2)=1):=λz e=>by
  have K:=aRh (aLZ g.1) ((g.2.2 z).2 e) 61 (NN/2) [1] [s,1] s_;have T:ev [1] z=1:=K_;have S:ev [s,1] z=z+s:=by simp only[ev,aLM,aOD];grind
  grind
 obtain⟨d,l,Q,⟨u,v,P,O,C⟩,⟨x,N,B⟩,⟨y,M,A⟩⟩:=aSM (L:=R.length+1) (a:=a) (b:=c) o_ j (λh=>aLZ g.1 h.1);have J:(R.length+1+1)*(R.length+1+1)+1<=1002*1002+1:=by have:=aJh (o_:R.length+1+1<=1002) (o_:R.length+1+1<=1002);omega
 obtain⟨G,p,F,o⟩:=aPy l (aLZ g.1) (h:=x) o_ B;obtain⟨n,m⟩:=o _ g.1;have k:=aXn g l n m p;have f:∀z∈R,(ev (X1 a c) z=0↔(z+s)^(NN/2)=1):=λz e=>by rw[<-i z e];constructor;intro h;rw[A z,h,aLM];intro h;rw[C z,h,(g.2.2 z).2 e,aLM,aLM,aOD]
 have E:(R.filter λz=>ev (X1 a c) z=0)=R.filter λz=>(z+s)^(NN/2)=1:=List.filter_congr λz e=>by simp[f z e]
 have D:(R.filter λz=>¬ev (X1 a c) z=0)=R.filter λz=>¬(z+s)^(NN/2)=1:=List.filter_congr λz e=>by simp[f z e]
 rw[E,D]at k;exact k
def aUP {x y:Fq} (h:x≠y):∃s:Fq,((x+s)^(NN/2)=1)≠((y+s)^(NN/2)=1):=by
 obtain⟨i,l⟩:∃i:Fq,2*i=1:=⟨inv 2,aNs s_⟩
 have e:(x-y)*i≠0:=λm=>m_;refine⟨-(x+y)*i,?_⟩;have g:x+-(x+y)*i=(x-y)*i:=m_;have f:y+-(x+y)*i=-1*((x-y)*i):=m_;rw[g,f];generalize(x-y)*i=d at e;have c:d^(NN/2)*d^(NN/2)=1:=by rw[<-Wd];exact aAo e
 have a:(-1*d)^(NN/2)=- d^(NN/2):=by
  have b:∀n:Nat,(-1*d)^(2*n+1)=- d^(2*n+1):=by
   intro n;have o:∀(x:Fq)(k:Nat),x^(k+1)=x^k*x:=λx k=>m_
   induction n with
   |zero=>rw[aGN,pQ,pw1,pw1];grind|succ n ih=>
    grind
  exact b 576460752303423487
 rw[a];generalize d^(NN/2)=w at c;have j:w=1\/w=-1:=by
  have:(w-1)*(w+1)=0:=m_;rcases aFk this with h|h;left;grind;right;grind
 grind
end Hud
