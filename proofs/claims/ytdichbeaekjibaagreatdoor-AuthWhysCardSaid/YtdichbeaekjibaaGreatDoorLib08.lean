import Derived.Test.YtdichbeaekjibaaGreatDoorLib07
set_option linter.all false
namespace Hud
set_option maxRecDepth 99999
open Go
def EQ:=eVf (cF oT [])
def Av:=eVf (cF nQ [])
def BV:=eVf (cF oS [])
end Hud
namespace Hud
set_option maxRecDepth 99999
open Go
def Aw:=eVf (cF kH [])
def pJ:=eVf (cF bK [])
def sP:=eVf (cF bO [])
def oU:=eVf (cF eK [])
def rS:=eVf (cF gO [])
def oV:=eVf (cF eM [])
def pW:=eVf (cF fK [])
def pK:=eVf (cF fB [])
def lS:=eVf (cF dA [])
def oF:=eVf (cF cQ [])
def rC:=eVf (cF dL [])
def rT:=eVf (cF dR [])
def oG:=eVf (cF bW [])
def tH:=eVf (cF aBA [])
def tI:=eVf (cF cY [])
end Hud
namespace Hud
set_option maxRecDepth 99999
open Go
open W
def LV:=eVf (cF uV [])
def N2:=eVf (cF qW [])
def SL:=eVf (cF AX [])
def SM:=eVf (cF GA [])
def HW:=eVf (cF pF [])
def N3:=eVf (cF Br [])
def FN:=eVf (cF vD [])
def N4:=eVf (cF gV [])
def UO:=eVf (cF E8 [])
def LW:=eVf (cF AB [])
def FO:=eVf (cF jZ [])
def FQ:cF uZ []=some ⟨25,[(2,none)],S [i0 2,S [R0 3 1 [ge v0 (u 4294967296)],If 4 [2] (S [R0 5 2 [A 0 (B .shr v0 (u 32))],E0 [A 2 (w 32)]])],S [R0 7 1 [ge v0 (u 65536)],If 8 [] (S [R0 9 2 [A 0 (B .shr v0 (u 16))],R0 11 2 [A 2 (ad v2 (w 16))]])],S [R0 13 1 [ge v0 (u 256)],If 14 [] (S [R0 15 2 [A 0 (B .shr v0 (u 8))],R0 17 2 [A 2 (ad v2 (w 8))]])],R 19 6 [0] [v2,cw .u8 v0,A 2 (ad (t 19) (cw .i64 (x (.ixS (.const (.string (Hud.bs [0,1,2,2,3,3,3,3,4,4,4,4,4,4,4,4,5,5,5,5,5,5,5,5,5,5,5,5,5,5,5,5,6,6,6,6,6,6,6,6,6,6,6,6,6,6,6,6,6,6,6,6,6,6,6,6,6,6,6,6,6,6,6,6,7,7,7,7,7,7,7,7,7,7,7,7,7,7,7,7,7,7,7,7,7,7,7,7,7,7,7,7,7,7,7,7,7,7,7,7,7,7,7,7,7,7,7,7,7,7,7,7,7,7,7,7,7,7,7,7,7,7,7,7,7,7,7,7,8,8,8,8,8,8,8,8,8,8,8,8,8,8,8,8,8,8,8,8,8,8,8,8,8,8,8,8,8,8,8,8,8,8,8,8,8,8,8,8,8,8,8,8,8,8,8,8,8,8,8,8,8,8,8,8,8,8,8,8,8,8,8,8,8,8,8,8,8,8,8,8,8,8,8,8,8,8,8,8,8,8,8,8,8,8,8,8,8,8,8,8,8,8,8,8,8,8,8,8,8,8,8,8,8,8,8,8,8,8,8,8,8,8,8,8,8,8,8,8,8,8,8,8,8,8,8,8]))) (zt 21)))))],.ret]⟩:=a_
def N5:=eVf (cF xU [])
def N6:=eVf (cF Bo [(2,none,1),(3,none,1)])
def SN:=eVf (cF GB [])
def SO:=eVf (cF wD [])
def qG:=eVf (cF nS [])
def yU:=eVf (cF lX [])
def HX:=eVf (cF yQ [])
def fN:=eVf (cF kS [])
def yA:=eVf (cF vE [])
end Hud
namespace Hud
def Xf(m:Nat):Nat->Nat->Nat->Nat->Nat|0,_,_,a=>a|f+1,b,e,a=>if e=0 then a else Xf m f (b*b%m) (e/2) (if e%2=1 then a*b%m else a)
def SP (m:Nat):∀(f b e acc:Nat),e<2^f->Xf m f b e acc%m=acc*b^e%m
 |0,b,e,acc,h=>by
  have:e=0:=dt;subst this;simp[Xf]
 | f+1,b,e,acc,h=>by
  simp only[Xf];split;rename_i h0;subst h0;simp;rw[SP m f _ (e/2) _ (by rw[QM]at h;omega)];have h2:b^e=(b*b)^(e/2)*b^(e%2):=by rw[<-Nat.pow_two,<-IA,<-aBX];congr 1;omega
  rw[CY,Kn,Mn,<-Kn,<-CY,h2];rcases Nat.mod_two_eq_zero_or_one e with h3|h3;rw[h3];simp;rw[h3];simp only[if_true,Nat.pow_one];rw[CY,Mn,<-CY];congr 1;rw[aBZ,QP b]
def PP:Nat:=2305843009213693951
def NN:Nat:=2305843009213693950
def Wb:V_:=[2,3,5,7,11,13,31,41,61,151,331,1321]
def aGX:37^NN%PP=1:=by have:=SP PP 61 37 NN 1 d_;rw[Km]at this;rw[<-this];decide +kernel
def aJR:∀r∈Wb,37^(NN/r)%PP≠1:=by
 intro r b;have a:∀r∈Wb,Xf PP 61 37 (NN/r) 1%PP≠1:=d7;have:=SP PP 61 37 (NN/r) 1 (QJ (Ml _ _) d_);rw[Km]at this;rw[<-this];exact a r b
def N7:∀r∈Wb,1<r/\∀d,d ∣ r->d=1\/d=r:=by
 have a:∀r∈Wb,1<r/\∀d,d<r->1<d->r%d≠0:=d7;intro r c;obtain⟨h1,h2⟩:=a r c;refine⟨h1,λd b=>?_⟩;have f:=Nat.le_of_dvd o_ b;have h0:d≠0:=λe=>by subst e;rw[Nat.zero_dvd]at b;omega
 by_cases h:d=1;exact .inl h;by_cases g:d=r;exact .inr g;exact absurd (Nat.mod_eq_zero_of_dvd b) (h2 d o_ o_)
def aFg:NN=2*(3^2*(5^2*(7*(11*(13*(31*(41*(61*(151*(331*1321)))))))))):=d_
def aHM{r m:Nat}(a:∀d,d ∣ r->d=1\/d=r):Nat.Coprime m r\/r ∣ m:=by rcases a (Nat.gcd m r) (Nat.gcd_dvd_right m r) with h|h;exact .inl h;exact .inr (h ▸ Nat.gcd_dvd_left m r)
def aCO {e:Nat} (o:e ∣ NN) (l:e<NN):∃r∈Wb,e ∣ NN/r:=by
 obtain⟨m,j⟩:=o;have g:m≠1:=λh=>by subst h;omega
 have i:∃r∈Wb,r ∣ m:=by
  refine QB λf=>g ?_;have a:∀r∈Wb,Nat.Coprime m r:=λr b=>(aHM (N7 r b).2).resolve_right λh=>f ⟨r,b,h⟩;have c:Nat.Coprime m NN:=by
   rw[aFg];exact Me (a 2 d_) <| Me (Nat.Coprime.pow_right _ (a 3 d_)) <| Me (Nat.Coprime.pow_right _ (a 5 d_)) <|
    Me (a 7 d_) <| Me (a 11 d_) <| Me (a 13 d_) <| Me (a 31 d_) <|
    Me (a 41 d_) <| Me (a 61 d_) <| Me (a 151 d_) <| Me (a 331 d_) (a 1321 d_)
  have:Nat.gcd m NN=m:=Nat.gcd_eq_left ⟨e,by rw[QP];exact j⟩;rw[<-this];exact c
 obtain⟨r,b,k,n⟩:=i;refine⟨r,b,k,?_⟩;have d:0<r:=by have:=(N7 r b).1;omega
 rw[j,n,Nat.mul_left_comm,Nat.mul_div_cancel_left _ d]
def UP{g m:Nat}(c:1<m):∀(a b:Nat),g^a%m=1->g^b%m=1->g^Nat.gcd a b%m=1:=by
 intro a b
 induction a,b using Nat.gcd.induction with
 |H0 n=>intro _ h;simpa using h|H1 a b e ih=>
  intro h1 h2;rw[Nat.gcd_rec];refine ih ?_ h1;have d:b=a*(b/a)+b%a:=(QL b a).symm;rw[d,aBX,IA,CY,Kn,h1,Nat.one_pow,EZ c,Km,Mn]at h2;exact h2
def aHN{d:Nat}(h0:0<d)(c:d<NN):37^d%PP≠1:=by intro h;have i:=UP (g:=37) (m:=PP) d_ d NN h aGX;have a:=Nat.gcd_dvd_right d NN;have e:Nat.gcd d NN<=d:=Nat.le_of_dvd h0 (Nat.gcd_dvd_left d NN);obtain⟨r,b,k,f⟩:=aCO a o_;apply aJR r b;rw[f,IA,Kn,i,Nat.one_pow];decide
def aCP(i:Nat):Nat.Coprime (37^i) PP:=Nat.Coprime.pow_left i d_
def aHO{i j:Nat}(c:i<j)(l:j<NN):37^i%PP≠37^j%PP:=by
 intro h;have b:PP ∣ 37^j-37^i:=Nat.dvd_of_mod_eq_zero (Nat.sub_mod_eq_zero_of_mod_eq h.symm);have e:37^j-37^i=37^i*(37^(j-i)-1):=by rw[Nat.mul_sub,<-aBX,Bb];congr 2;omega
 rw[e]at b;have a:=Nat.Coprime.dvd_of_dvd_mul_left (aCP i).symm b;apply aHN (d:=j-i) o_ o_;have h1:1<=37^(j-i):=Nat.one_le_pow _ _ d_;obtain⟨k,g⟩:=a;have f:37^(j-i)=1+PP*k:=o_;rw[f,Nat.add_mul_mod_self_left];decide
def aCQ:∀(n:Nat)(l:V_),l.Nodup->(∀x∈l,x<n)->l.length<=n
 |0,l,_,h=>by
  cases l with
  |nil=>simp|cons x l=>have:=h x s_;omega
 | n+1,l,d,h=>by
  have h1:=aCQ n (l.filter (· ≠ n)) (d.filter _) (λx b=>by
   simp only[gR,decide_eq_true_eq]at b;have:=h x b.1;have:=b.2
   omega)
  have h2:l.length<=(l.filter (· ≠ n)).length+1:=by
   clear h h1
   induction l with
   |nil=>simp| cons x l ih=>
    obtain⟨b,c⟩:=BU.1 d;by_cases a:x=n;subst a;have:l.filter (· ≠ x)=l:=Gm.2 λy f=>by simp only[ne_eq,decide_not,EX,decide_eq_false_iff_not];exact λe=>b (e ▸ f)
    rw[List.filter_cons_of_neg s_,this];simp;have:=ih c;simp only[List.filter_cons,ne_eq,a,not_false_eq_true,decide_true,if_true,sE];simpa using this
  omega
def aCR:∀n,n<=NN->((List.range n).map λi=>37^i%PP).Nodup:=by intro n f;rw[Rh,Mh];refine TU ?_ (List.pairwise_lt_range (n:=n));intro a b e d c;rw[uM]at e d;exact aHO c o_
def Wc{L:V_}{n:Nat}(g:L.length+1=n)(f:L.Nodup)(d:0∉L)(c:∀y∈L,y<n){x:Nat}(h0:0<x)(e:x<n):x∈L:=by
 refine QB λb=>?_
 have:=aCQ n (0::x::L) (by
  rw[BU,BU];refine⟨λh=>?_,b,f⟩;rcases cS.1 h with h|h;omega
  exact d h) (by
  intro y a;rcases cS.1 a with rfl|a;omega;rcases cS.1 a with rfl|a;exact e
  exact c y a)
 simp only[sE]at this;omega
def aFh(n:Nat):0∉((List.range n).map λi=>37^i%PP):=by intro h;obtain⟨i,_,a⟩:=dF.1 h;have:PP ∣ 37^i:=Nat.dvd_of_mod_eq_zero a;have h1:Nat.gcd (37^i) PP=PP:=Nat.gcd_eq_right this;rw[aCP i]at h1;exact absurd h1 d_
def aHP:0<PP:=d_
def aJS:NN+1=PP:=d_
def aHQ(n:Nat)(c:n+1=PP)(e:n<=NN){x:Nat}(h0:0<x)(a:x<PP):∃i,x=37^i%PP:=by
 have:=Wc (L:=(List.range n).map λi=>37^i%PP) (n:=PP) (by rw[aP,QK];exact c) (aCR n e) (aFh n) (λy b=>by
  obtain⟨i,_,rfl⟩:=dF.1 b
  exact zM _ aHP) h0 a
 obtain⟨i,_,d⟩:=dF.1 this;exact⟨i,d.symm⟩
def aFi{x:Nat}(h0:0<x)(a:x<PP):∃i,x=37^i%PP:=aHQ NN aJS (cN _) h0 a
def aCS{x:Nat}(h:x%PP≠0):x^NN%PP=1:=by obtain⟨i,a⟩:=aFi (x:=x%PP) o_ (zM _ d_);rw[Kn,a,<-Kn,<-IA,QP,IA,Kn,aGX,Nat.one_pow];decide
def aFj{x y:Nat}(h:x*y%PP=0):x%PP=0\/y%PP=0:=by
 by_cases a:x%PP=0;exact .inl a;refine .inr ?_;have h1:=aCS a;have e:x^NN=x^(NN-1)*x:=by rw[<-QM];rfl
 have:x^NN*y%PP=0:=by rw[e,aBZ,CY,h,aGN,Nat.zero_mod]
 rw[CY,h1,Km,Mn]at this;exact this
end Hud
namespace Hud
instance:NeZero PP:=⟨d_⟩
abbrev Fq:=Fin PP
def aFk{a b:Fq}(h:a*b=0):a=0\/b=0:=by
 have h1:(a*b).val=0:=oh;rw[Fin.val_mul]at h1;rcases aFj h1 with h2|h2;left;apply Fin.ext;rw[EZ a.isLt]at h2;simpa using h2;right;apply Fin.ext;rw[EZ b.isLt]at h2;simpa using h2
def Jy(a:Fq)(n:Nat):(a^n).val=a.val^n%PP:=m_
def aAo{a:Fq}(h:a≠0):a^NN=1:=by apply Fin.ext;rw[Jy,aCS];rfl;rw[EZ a.isLt];simp_all
def inv(a:Fq):Fq:=a^(NN-1)
def aNv:(1:Fq)≠0:=d_
def ev:List Fq->Fq->Fq|[],_=>0|c::l,t=>c+t*ev l t
def zp(l:List Fq):Prop:=∀c∈l,c=0
def sd(z:Fq):List Fq->List Fq|[]=>[]|[_]=>[]|_::d::l=>ev (d::l) z::sd z (d::l)
def pa:List Fq->List Fq->List Fq|[],q=>q|p,[]=>p|c::p,d::q=>(c+d)::pa p q
def ps(c:Fq)(p:List Fq):List Fq:=p.map (c*·)
def pm:List Fq->List Fq->List Fq|[],_=>[]|c::p,q=>pa (ps c q) (0::pm p q)
def pr:List Fq->List Fq|[]=>[1]|z::R=>pm [-z,1] (pr R)
end Hud
namespace Hud
end Hud
namespace Hud
end Hud
namespace Hud
def MD(x:Fq)(n:Nat):x^n=(x*x)^(n/2)*x^(n%2):=by
 have a:∀m k:Nat,x^(2*m+k)=(x*x)^m*x^k:=by
  intro m
  induction m with
  |zero=>
   grind
  |succ m ih=>
   intro k;have b:∀(x:Fq)(k:Nat),x^(k+1)=x^k*x:=λx k=>m_;grind
 rw[<-a,QL]
def pw0(x:Fq):x^0=1:=m_
def pw1(x:Fq):x^1=x:=m_
def Wd(x:Fq)(a b:Nat):x^(a+b)=x^a*x^b:=m_
end Hud
