import Derived.Test.YtlhonkjgkfdnmaaGreatDoorLib03
import Derived.Test.YtlhonkjgkfdnmaaGreatDoorLib12
set_option linter.all false
set_option maxHeartbeats 40000000
namespace Hud
set_option maxRecDepth 99999
open Go
open W
def LV:=eVf (cF uV [])
def N2:=eVf (cF qW [])
def SL:=eVf (cF AX [])
def SM:=eVf (cF GA [])
def HW:=eVf (cF pF [])
def N3:=eVf (cF Br [])
def FN:=eVf (cF vD [])
def N4:=eVf (cF gV [])
def UO:=eVf (cF E8 [])
def LW:=eVf (cF AB [])
def FO:=eVf (cF jZ [])
def FQ:cF uZ []=some ⟨25,[(2,none)],S [i0 2,S [R0 3 1 [ge v0 (u 4294967296)],If 4 [2] (S [R0 5 2 [A 0 (B .shr v0 (u 32))],E0 [A 2 (w 32)]])],S [R0 7 1 [ge v0 (u 65536)],If 8 [] (S [R0 9 2 [A 0 (B .shr v0 (u 16))],R0 11 2 [A 2 (ad v2 (w 16))]])],S [R0 13 1 [ge v0 (u 256)],If 14 [] (S [R0 15 2 [A 0 (B .shr v0 (u 8))],R0 17 2 [A 2 (ad v2 (w 8))]])],R 19 6 [0] [v2,cw .u8 v0,A 2 (ad (t 19) (cw .i64 (x (.ixS (.const (.string (Hud.bs [0,1,2,2,3,3,3,3,4,4,4,4,4,4,4,4,5,5,5,5,5,5,5,5,5,5,5,5,5,5,5,5,6,6,6,6,6,6,6,6,6,6,6,6,6,6,6,6,6,6,6,6,6,6,6,6,6,6,6,6,6,6,6,6,7,7,7,7,7,7,7,7,7,7,7,7,7,7,7,7,7,7,7,7,7,7,7,7,7,7,7,7,7,7,7,7,7,7,7,7,7,7,7,7,7,7,7,7,7,7,7,7,7,7,7,7,7,7,7,7,7,7,7,7,7,7,7,7,8,8,8,8,8,8,8,8,8,8,8,8,8,8,8,8,8,8,8,8,8,8,8,8,8,8,8,8,8,8,8,8,8,8,8,8,8,8,8,8,8,8,8,8,8,8,8,8,8,8,8,8,8,8,8,8,8,8,8,8,8,8,8,8,8,8,8,8,8,8,8,8,8,8,8,8,8,8,8,8,8,8,8,8,8,8,8,8,8,8,8,8,8,8,8,8,8,8,8,8,8,8,8,8,8,8,8,8,8,8,8,8,8,8,8,8,8,8,8,8,8,8,8,8,8,8,8,8]))) (zt 21)))))],.ret]⟩:=k_
def N5:=eVf (cF xU [])
def N6:=eVf (cF Bo [(2,none,1),(3,none,1)])
def SN:=eVf (cF GB [])
def SO:=eVf (cF wD [])
def qG:=eVf (cF nS [])
def yU:=eVf (cF lX [])
def HX:=eVf (cF yQ [])
def fN:=eVf (cF kS [])
def yA:=eVf (cF vE [])
end Hud
namespace Hud
open Go
variable{G:L_}
abbrev FP:Nat:=2305843009213693951
def bS(n:Nat)(h:n<2^64):IntKind.u64.wrap (n:Int)=(n:Int):=by grind[IntKind.wrap,IntKind.bits,IntKind.signed]
def aAp(x:Nat)(b:x<2^64):bV .and (.int .u64 (x:Int)) (.int .u64 2305843009213693951)=some (.int .u64 ((x%2305843009213693952:Nat):Int)):=by
 have h1:(BitVec.ofInt 64 (x:Int)).toNat=x:=h_;have h2:(BitVec.ofInt 64 2305843009213693951).toNat=2^61-1:=d_;have h3:(BitVec.ofInt 64 (x:Int) &&& BitVec.ofInt 64 2305843009213693951).toNat=x%2305843009213693952:=by rw[YI,h1,h2,aGE]
 have a:bV .and (.int .u64 (x:Int)) (.int .u64 2305843009213693951)=some (.int .u64 (IntKind.u64.wrap ((BitVec.ofInt 64 (x:Int) &&& BitVec.ofInt 64 2305843009213693951).toNat:Int))):=Y_;rw[a,h3,bS _ o_]
def We(x:Nat):bV .shr (.int .u64 (x:Int)) (.int .u64 61)=some (.int .u64 ((x/2305843009213693952:Nat):Int)):=by
 have:(x:Int).fdiv (2^min 61 64)=((x/2305843009213693952:Nat):Int):=m_;rw[<-this];simp only[bV];rfl
def eY(x y:Nat)(h:x+y<2^64):bV .add (.int .u64 (x:Int)) (.int .u64 (y:Int))=some (.int .u64 ((x+y:Nat):Int)):=by simp only[bV,if_true];rw[<-Int.natCast_add,bS _ h]
def aAq(x:Nat)(h:2305843009213693951<=x)(h2:x<2^64):bV .sub (.int .u64 (x:Int)) (.int .u64 2305843009213693951)=some (.int .u64 ((x-2305843009213693951:Nat):Int)):=by simp only[bV,if_true];rw[(o_:(x:Int)-2305843009213693951=((x-2305843009213693951:Nat):Int)),bS _ o_]
def HY(x:Nat)(b:x<2^64):bV .and (.int .u64 (x:Int)) (.int .u64 4294967295)=some (.int .u64 ((x%2^32:Nat):Int)):=by
 have h1:(BitVec.ofInt 64 (x:Int)).toNat=x:=h_;have h2:(BitVec.ofInt 64 4294967295).toNat=2^32-1:=d_;have h3:(BitVec.ofInt 64 (x:Int) &&& BitVec.ofInt 64 4294967295).toNat=x%2^32:=by rw[YI,h1,h2,aGE]
 have a:bV .and (.int .u64 (x:Int)) (.int .u64 4294967295)=some (.int .u64 (IntKind.u64.wrap ((BitVec.ofInt 64 (x:Int) &&& BitVec.ofInt 64 4294967295).toNat:Int))):=Y_;rw[a,h3,bS _ o_]
def Wf(x:Nat):bV .shr (.int .u64 (x:Int)) (.int .u64 32)=some (.int .u64 ((x/2^32:Nat):Int)):=by
 have:(x:Int).fdiv (2^min 32 64)=((x/2^32:Nat):Int):=m_;rw[<-this];simp only[bV];rfl
def lE(x y:Nat)(h:x*y<2^64):bV .mul (.int .u64 (x:Int)) (.int .u64 (y:Int))=some (.int .u64 ((x*y:Nat):Int)):=by simp only[bV,if_true];rw[<-Int.natCast_mul,bS _ h]
def aAr(x y:Nat):bV .mul (.int .u64 (x:Int)) (.int .u64 (y:Int))=some (.int .u64 ((x*y%2^64:Nat):Int)):=Y_
def Gy(G:L_)(x:Nat)(c:x<2^64):aA PQ G gV [.v (.int .u64 (x:Int))] [] λr g=>r=.v (.int .u64 ((x%FP:Nat):Int))/\g=[]:=by
 apply aC N4;have f:=aAp x c;have e:=eY (x%2305843009213693952) (x/2305843009213693952) o_;simp only[↓f,↓We,↓e,go_sem];refine aL (λb=>?_) (λb=>?_);have a:2305843009213693951<=x%2305843009213693952+x/2305843009213693952:=by have:=of_decide_eq_true b;omega
 have d:=aAq _ a o_;simp only[↓d,go_sem];have:x%2305843009213693952+x/2305843009213693952-2305843009213693951=x%FP:=od;simp only[this];have a:x%2305843009213693952+x/2305843009213693952<2305843009213693951:=by have:=of_decide_eq_false b;omega
 simp only[go_sem];have:x%2305843009213693952+x/2305843009213693952=x%FP:=od;simp only[this]
def aJT(G:L_)(x y:Nat)(b:x<2^64)(a:y<2^64):aA PQ G Br [.v (.int .u64 (x:Int)),.v (.int .u64 (y:Int))] [] λr d=>r=.v (.int .u64 (((x+y)%FP:Nat):Int))/\d=[]:=by refine aC N3 ?_;have c:=eY (x%FP) (y%FP) od;simp only[go_sem];apply cX (Gy G x b);simp only[go_sem];apply cX (Gy G y a);simp only[↓c,go_sem];apply cX (Gy G _ od);simp only[go_sem,<-Tc]
def Qm(x y:Nat):x*y=(x/2^32*(y/2^32))*2^64+(x/2^32*(y%2^32)+x%2^32*(y/2^32))*2^32+x%2^32*(y%2^32):=by have b:=QL x 4294967296;have a:=QL y 4294967296;grind
def aHR(x y:Nat):x/2^32*(y/2^32)+(x/2^32*(y%2^32)+x%2^32*(y%2^32)/2^32)/2^32+((x/2^32*(y%2^32)+x%2^32*(y%2^32)/2^32)%2^32+x%2^32*(y/2^32))/2^32=x*y/2^64:=by rw[Qm x y];omega
def aFl(G:L_)(x y:Nat)(h:x<2^64)(g:y<2^64):aA PQ G vD [.v (.int .u64 (x:Int)),.v (.int .u64 (y:Int))] [] λr t=>
 r=.tup [.v (.int .u64 ((x*y/2^64:Nat):Int)),.v (.int .u64 ((x*y%2^64:Nat):Int))]/\t=[]:=by
 apply aC FN;have b:∀a c:Nat,a<2^32->c<2^32->a*c<=18446744065119617025:=λa c D C=>aJh (o_:a<=4294967295) (o_:c<=4294967295);have A:=b (x%2^32) (y%2^32) o_ o_;have z:=b (x/2^32) (y%2^32) o_ o_;have w:=b (x%2^32) (y/2^32) o_ o_;have u:=b (x/2^32) (y/2^32) o_ o_;have i:=aHR x y;have B:x*y/2^64<2^64:=Nat.div_lt_of_lt_mul (Nat.mul_lt_mul'' h g);have s:=HY x h;have q:=HY y g;have p:=lE _ _ (o_:x%2^32*(y%2^32)<2^64);have o:=lE _ _ (o_:x/2^32*(y%2^32)<2^64);have n:=eY (x/2^32*(y%2^32)) (x%2^32*(y%2^32)/2^32) o_;have m:=HY (x/2^32*(y%2^32)+x%2^32*(y%2^32)/2^32) o_;have l:=lE _ _ (o_:x%2^32*(y/2^32)<2^64);have k:=eY ((x/2^32*(y%2^32)+x%2^32*(y%2^32)/2^32)%2^32) (x%2^32*(y/2^32)) o_;have j:=lE _ _ (o_:x/2^32*(y/2^32)<2^64);have f:=eY (x/2^32*(y/2^32)) ((x/2^32*(y%2^32)+x%2^32*(y%2^32)/2^32)/2^32) o_;have e:=eY (x/2^32*(y/2^32)+(x/2^32*(y%2^32)+x%2^32*(y%2^32)/2^32)/2^32) (((x/2^32*(y%2^32)+x%2^32*(y%2^32)/2^32)%2^32+x%2^32*(y/2^32))/2^32) o_;have d:=aAr x y;simp only[↓s,↓q,↓Wf,↓p,↓o,↓n,↓m,↓l,↓k,↓j,↓f,↓e,↓d,go_sem,i]
def aAs(x:Nat)(h:x*8<2^64):bV .shl (.int .u64 (x:Int)) (.int .u64 3)=some (.int .u64 ((x*8:Nat):Int)):=by
 have:IntKind.u64.wrap ((x:Int)*2^(min 3 64))=((x*8:Nat):Int):=by rw[(s_:(x:Int)*2^(min 3 64)=((x*8:Nat):Int)),bS _ h]
 rw[<-this];simp only[bV];rfl
def aJU(G:L_)(x y:Nat)(d:x<2^64)(b:y<2^64):aA PQ G qW [.v (.int .u64 (x:Int)),.v (.int .u64 (y:Int))] [] λr j=>r=.v (.int .u64 ((x*y%FP:Nat):Int))/\j=[]:=by
 apply aC N2;have c:x%FP<2305843009213693951:=od;have a:y%FP<2305843009213693951:=od;have f:x*y%FP=(x%FP)*(y%FP)%FP:=CY _ _ _;have g:(x%FP)*(y%FP)<=5316911983139663487003542222693990401:=aJh (o_:x%FP<=2305843009213693951) (o_:y%FP<=2305843009213693951);rw[f];simp only[go_sem];apply cX (Gy G x d);simp only[go_sem];apply cX (Gy G y b);simp only[go_sem];apply cX (aFl G _ _ o_ o_);generalize(x%FP)*(y%FP)=z at g;have i:=aAs (z/2^64) o_;simp only[go_sem];apply cX (Gy G _ o_);have h:=eY (z%2^64%FP) (z/2^64*8) od;simp only[↓i,↓h,go_sem];apply cX (Gy G _ od);have e:(z%2^64%FP+z/2^64*8)%FP=z%FP:=od;simp only[go_sem,e]
def aGY{a b:Nat}(h:b<=a):decide ((a:Int)>=(b:Int))=true:=decide_eq_true o_
def aGZ{a b:Nat}(h:a<b):decide ((a:Int)>=(b:Int))=false:=decide_eq_false o_
def aCT{a b:Nat}(h:b<a):decide ((a:Int)>(b:Int))=true:=decide_eq_true o_
def aCU{a b:Nat}(h:a<=b):decide ((a:Int)>(b:Int))=false:=decide_eq_false o_
def N9{a b:Nat}(h:a<=b):decide ((a:Int)<=(b:Int))=true:=decide_eq_true o_
def OA{a b:Nat}(h:b<a):decide ((a:Int)<=(b:Int))=false:=decide_eq_false o_
def aLL(l:V_)(i:Nat)(h:i<l.length):(ul l)[i]?=some [.v (.int .u64 ((l.getD i 0:Nat):Int))]:=h_
def SZ(n m:Nat)(h:n<=2^63-1):IntKind.i64.wrap ((n:Int).tdiv (m:Int))=((n/m:Nat):Int):=by rw[<-Int.ofNat_tdiv];exact Ib (uR (Ml n m) h)
def aNw(n:Nat)(h:n<=2^63-1):IntKind.i64.wrap ((n:Int).tdiv 2)=((n/2:Nat):Int):=SZ n 2 h
def aFr(n:Nat)(h:n<=2^63-1):IntKind.i64.wrap ((n:Int).tdiv 4)=((n/4:Nat):Int):=SZ n 4 h
def aJV(n:Nat)(h:n<=2^63-1):IntKind.i64.wrap ((n:Int).tdiv 8)=((n/8:Nat):Int):=SZ n 8 h
def HS(a b k:Nat)(l:V_):Prop:=SR (a+k) b l/\∀p q,a<=p->p<a+k->a+k<=q->q<b->l.getD p 0<=l.getD q 0
def aFs{a b k:Nat}{l:V_}(u:b<=l.length)(t:a+k<b)(h:HP a 0 (k+1) l)(f:HS a b (k+1) l):HP a 1 k (iO l a (a+k))/\HS a b k (iO l a (a+k)):=by
 have d:=rU l a (a+k) o_ o_;have o:=aHS h;have e:∀p,a<=p->p<=a+k->l.getD p 0<=l.getD a 0:=λp h1 h2=>by have:=o (p-a) o_;rwa[(o_:a+(p-a)=p)]at this
 refine⟨λp c h1 h2 h3=>?_,λi j h1 h2 h3=>?_,λp q h1 h2 h3 v=>?_⟩;rw[d,d,if_neg o_,if_neg o_,if_neg o_,if_neg o_];exact h p c o_ h2 o_;rw[d,d];by_cases n:i=a+k;rw[if_pos n];by_cases r:j=a+k;simp_all;rw[if_neg r,if_neg o_];exact f.2 a j (cN _) o_ o_ h3;rw[if_neg n,if_neg o_,if_neg o_,if_neg o_];exact f.1 i j o_ h2 h3;rw[d,d,if_neg (by omega:¬p=a+k)];have s:(if p=a then l.getD (a+k) 0 else l.getD p 0)<=l.getD a 0/\∀q,a+(k+1)<=q->q<b->(if p=a then l.getD (a+k) 0 else l.getD p 0)<=l.getD q 0:=by split;exact⟨e _ o_ (cN _),λq m g=>f.2 (a+k) q o_ o_ m g⟩;exact⟨e _ h1 o_,λq m g=>f.2 p q h1 o_ m g⟩
 grind
def aJW{a b k:Nat}{l d:V_}(f:a+k<=l.length)(e:HS a b k l)(c:PR a (a+k) l d):HS a b k d:=by refine⟨e.1.outside c (.inr o_),λp q h1 h2 h3 j=>?_⟩;rw[c.2.1 q (.inr h3)];exact c.all f (Q:=λx=>x<=l.getD q 0) (λi h g=>e.2 i q h g h3 j) p h1 h2
def Ub(n:Nat)(h:n<256):IntKind.u8.wrap (n:Int)=(n:Int):=by grind[IntKind.wrap,IntKind.bits,IntKind.signed]
def aFt(x:Nat)(o:x<65536):aA PQ G uZ [.v (.int .u64 (x:Int))] [] λr m=>(∃n:Nat,r=iv n/\n<=16/\x<2^n/\(x=0\/2^n<=2*x))/\m=[]:=by
 apply aC FQ;generalize f:bs _=a;have b:(List.range 256).all (λi=>match a.data[i]? with|some t=>decide (t.toNat<=8/\i<2^t.toNat/\(i=0\/2^t.toNat<=2*i))|none=>false)=true:=by rw[<-f];decide +kernel
 clear f;have e:∀i,i<256->∃t,a.data[i]?=some t/\t.toNat<=8/\i<2^t.toNat/\(i=0\/2^t.toNat<=2*i):=by intro i l;have:=oD.1 b i (uM.2 l);grind
 have j:decide ((x:Int)>=4294967296)=false:=decide_eq_false o_;have g:decide ((x:Int)>=65536)=false:=decide_eq_false o_;by_cases h:256<=x;have c:decide ((x:Int)>=256)=true:=decide_eq_true o_;have k:bV .shr (.int .u64 (x:Int)) (.int .u64 8)=some (.int .u64 ((x/256:Nat):Int)):=by
  have:(x:Int).fdiv (2^min 8 64)=((x/256:Nat):Int):=m_;rw[<-this];simp only[bV];rfl
 obtain⟨t,t1,t2,d,t4⟩:=e (x/256) o_;have w1:=Ib (o_:t.toNat<=9223372036854775807);have w2:IntKind.i64.wrap (IntKind.i64.wrap 8+(t.toNat:Int))=((8+t.toNat:Nat):Int):=by rw[show IntKind.i64.wrap 8=8 from rfl,aJ o_ o_];omega
 have w3:IntKind.i64.wrap (8+(t.toNat:Int))=((8+t.toNat:Nat):Int):=a_;simp only[go_sem,j,g,c,↓k,Ub _ (o_:x/256<256),t1,w1,w2,w3];refine⟨8+t.toNat,rfl,o_,?_,.inr ?_⟩;grind;rw[aBX];have:(2:Nat)^8=256:=rfl;omega;have c:decide ((x:Int)>=256)=false:=decide_eq_false o_;obtain⟨t,t1,t2,d,t4⟩:=e x o_;have w1:=Ib (o_:t.toNat<=9223372036854775807);have w2:IntKind.i64.wrap (0+(t.toNat:Int))=(t.toNat:Int):=by rw[Int.zero_add];exact w1
 simp only[go_sem,j,g,c,Ub _ (o_:x<256),t1,w1,w2];exact⟨t.toNat,rfl,o_,d,t4⟩
def aD6(x:Nat)(b:x<65536):aA PQ G pF [.v (.int .u64 (x:Int))] [] λr a=>(∃n:Nat,r=iv n/\n<=16/\x<2^n/\(x=0\/2^n<=2*x))/\a=[]:=by refine aC HW ?_;simp only[go_sem];apply Jo (aFt x b);rintro r a ⟨⟨n,rfl,c⟩,rfl⟩;simp only[go_sem];exact⟨n,rfl,c⟩
def aAB(n:Nat)(h:n<=16):bV .shl (.int .u64 1) (.int .i64 (n:Int))=some (.int .u64 ((2^n:Nat):Int)):=by
 have h2:(2:Nat)^n<=2^16:=Gl o_ h;have e:(1:Int)*2^(min ((n:Int)).toNat 64)=((2^n:Nat):Int):=m_;have:IntKind.u64.wrap ((1:Int)*2^(min ((n:Int)).toNat 64))=((2^n:Nat):Int):=by rw[e,bS _ o_]
 rw[<-this];rfl
def aAC(n:Nat)(c:0<n)(b:n<65536):aA PQ G nQ [iv n] [] λr a=>(∃m:Nat,r=.v (.int .u64 (m:Int))/\n<m/\m<=2*n)/\a=[]:=by refine aC Av ?_;simp only[go_sem,bS n o_];apply Jo (aD6 n b);rintro r a ⟨⟨k,rfl,h1,h2,h3⟩,rfl⟩;simp only[go_sem,↓aAB k h1];grind
def Wq(x:Int)(y:Nat)(a:y<2^64):∃z:Nat,z<=y/\bV .and (.int .u64 x) (.int .u64 (y:Int))=some (.int .u64 (z:Int)):=by
 refine⟨(BitVec.ofInt 64 x &&& BitVec.ofInt 64 (y:Int)).toNat,?_,?_⟩;have h1:(BitVec.ofInt 64 (y:Int)).toNat=y:=h_;rw[YI,h1];exact Nat.and_le_right;have:bV .and (.int .u64 (x:Int)) (.int .u64 (y:Int))=some (.int .u64 (IntKind.u64.wrap ((BitVec.ofInt 64 (x:Int) &&& BitVec.ofInt 64 (y:Int)).toNat:Int))):=Y_;rw[this,bS _ (BitVec.isLt _)]
def aHY(x:Int):aA PQ G oS [.ptr 0 0] [some (.box [.v (.int .u64 x)])] λr a=>∃z:Int,r=.v (.int .u64 z)/\a=[some (.box [.v (.int .u64 z)])]:=by refine aC BV ?_;simp only[go_sem];simp
def Ws(x y:Nat)(h:y<=x)(h2:x<2^64):bV .sub (.int .u64 (x:Int)) (.int .u64 (y:Int))=some (.int .u64 ((x-y:Nat):Int)):=by simp only[bV,if_true];rw[(o_:(x:Int)-(y:Int)=((x-y:Nat):Int)),bS _ o_]
def Pt(a b i j:Nat)(l:V_):Prop:=a<i/\i<=j+1/\a<=j/\j<b/\(∀k,a<k->k<i->l.getD k 0<=l.getD a 0)/\∀k,j<k->k<b->l.getD a 0<=l.getD k 0
def aZ9(a b j:Nat)(l:V_):Prop:=a<=j/\j<b/\(∀k,a<=k->k<j->l.getD k 0<=l.getD j 0)/\∀k,j<k->k<b->l.getD j 0<=l.getD k 0
def Y4{a b i j:Nat}{l:V_}(t:b<=l.length)(h:Pt a b i j l)(g:i<=j)(h1:l.getD a 0<=l.getD i 0)(h2:l.getD j 0<l.getD a 0):i<j/\Pt a b (i+1) (j-1) (iO l i j):=by
 obtain⟨r,q,p,o,n,m⟩:=h;have f:i≠j:=λe=>by subst e;omega
 have s:=rU l i j o_ o_;refine⟨o_,o_,o_,o_,o_,λk d c=>?_,λk d c=>?_⟩;grind;grind
def aD7{a b i j:Nat}{l:V_}(s:b<=l.length)(h:Pt a b i j l)(g:j<i):aZ9 a b j (iO l j a):=by
 obtain⟨p,o,d,c,n,m⟩:=h;have r:=rU l j a o_ o_;have q:(iO l j a).getD j 0=l.getD a 0:=h_;refine⟨d,c,λk f e=>?_,λk f e=>?_⟩;grind;grind
def Pe(a b i j:Nat)(l:V_):Prop:=a<i/\i<=j+1/\a<=j/\j<b/\(∀k,a<k->k<i->l.getD k 0<=l.getD a 0)/\∀k,j<k->k<b->l.getD a 0<l.getD k 0
def aFu{a b i j:Nat}{l:V_}(u:b<=l.length)(h:Pe a b i j l)(m:i<=j)(h1:l.getD a 0<l.getD i 0)(h2:l.getD j 0<=l.getD a 0):i<j/\Pe a b (i+1) (j-1) (iO l i j)/\(iO l i j).getD a 0=l.getD a 0:=by
 obtain⟨s,r,q,p,o,n⟩:=h;have g:i≠j:=λe=>by subst e;omega
 have t:=rU l i j o_ o_;have c:(iO l i j).getD a 0=l.getD a 0:=m_;refine⟨o_,⟨o_,o_,o_,o_,λk f d=>?_,λk f d=>?_⟩,c⟩;grind;grind
def Bv{a b j:Nat}{l c:V_}(h:aZ9 a b j l)(m:b<=l.length)(g:PR a j l c):aZ9 a b j c:=by obtain⟨h1,h2,h3,i⟩:=h;have e:c.getD j 0=l.getD j 0:=g.2.1 j (.inr (cN _));refine⟨h1,h2,λk f d=>?_,λk f d=>?_⟩;rw[e];exact g.all o_ (Q:=λx=>x<=l.getD j 0) h3 k f d;rw[e,g.2.1 k (.inr o_)];exact i k f d
def AE{a b j:Nat}{l c:V_}(h:aZ9 a b j l)(m:b<=l.length)(f:PR (j+1) b l c):aZ9 a b j c:=by obtain⟨h1,h2,h3,o⟩:=h;have e:c.getD j 0=l.getD j 0:=f.2.1 j (.inl o_);refine⟨h1,h2,λk g d=>?_,λk g d=>?_⟩;rw[e,f.2.1 k (.inl o_)];exact h3 k g d;rw[e];exact f.all m (Q:=λx=>l.getD j 0<=x) (λi p n=>o i o_ n) k o_ d
def Bw{a b j:Nat}{l:V_}(h:aZ9 a b j l)(h1:SR a j l)(h2:SR (j+1) b l):SR a b l:=by obtain⟨n,m,k,i⟩:=h;intro p q f c d;by_cases o:p<j;by_cases g:q<j;exact h1 p q f c g;grind;by_cases e:p=j;grind;exact h2 p q o_ c d
def Dm{a b j:Nat}{l:V_}(h:aZ9 a b j l):SQ (j+1) b l:=.inr λi h1 h2=>h.2.2.2 i o_ h2
def Uc{a b i v:Nat}{c f:V_}(s:i<=b)(r:b<=c.length)(h1:∀k,a<=k->k<i->c.getD k 0<=v)(h2:∀k,i<=k->k<b->v<c.getD k 0)(h3:∀k,a<=k->k<b->v<=c.getD k 0)(h:PR i b c f)(m:SR i b f):SR a b f:=by intro p q l j g;have e:∀k,k<i->f.getD k 0=c.getD k 0:=λk o=>h.2.1 k (.inl o);by_cases d:p<i;rw[e p d];by_cases n:q<i;grind;exact uR (h1 p l d) (H9 (h.all r (Q:=λx=>v<x) h2 q o_ g));exact m p q o_ j g
section
variable{P:Program}{G:L_}{st:St}
def OF{t:Bool}{a b:HC}{K:St->Prop}{Q:Ex->St->Prop}(R:St->Prop)(h1:t=true->@cW P G a st ⟨@HH ⟨R⟩ ⟨Q⟩⟩)(h2:t=false->@cW P G b st ⟨@HH ⟨R⟩ ⟨Q⟩⟩)(c:∀s,R s->K s):
 @Gv t ⟨@cW P G a st ⟨@HH ⟨K⟩ ⟨Q⟩⟩⟩ ⟨@cW P G b st ⟨@HH ⟨K⟩ ⟨Q⟩⟩⟩ :=
 aL (λh=>cB R (h1 h) c) (λh=>cB R (h2 h) c)
end
abbrev fu(a:Fq):Value:=.int .u64 (a.val:Int)
def FU(a:Fq):a.val<2305843009213693951:=a.isLt
def aJX(a:Fq):aA PQ G gV [.v (fu a)] [] λr b=>r=.v (fu a)/\b=[]:=by have:=Gy G a.val (by have:=FU a;omega);rwa[EZ (show a.val<FP from a.isLt)]at this
def aJY(a b:Fq):aA PQ G Br [.v (fu a),.v (fu b)] [] λr c=>r=.v (fu (a+b))/\c=[]:=
 aJT G a.val b.val (by have:=FU a;omega) (by have:=FU b;omega)
def Ud(a b:Fq):aA PQ G qW [.v (fu a),.v (fu b)] [] λr c=>r=.v (fu (a*b))/\c=[]:=
 aJU G a.val b.val (by have:=FU a;omega) (by have:=FU b;omega)
def aAE(a n:Nat):aA PQ G yQ [.v (.int .u64 (a:Int)),.v (.int .u64 (n:Int))] [] λr b=>r=.cl vE [.ptr 0 0,.ptr 1 0]/\b=[some (.box [.v (.int .u64 (a:Int))]),some (.box [.v (.int .u64 (n:Int))])]:=by refine aC HX ?_;simp only[go_sem]
def aJZ(a:Fq):1*a=a:=Fin.one_mul a
def aHZ(a:Fq):a*1=a:=Fin.mul_one a
def aH0(a b c:Fq):a*b*c=a*(b*c):=Fin.mul_assoc a b c
def aH1(a b:Fq):a*b=b*a:=Fin.mul_comm a b
def aK0(a:Fq):a^1=a:=m_
def OH(a:Fq):a^0=1:=m_
def aAF(x:Nat)(b:x<2^64):bV .and (.int .u64 (x:Int)) (.int .u64 1)=some (.int .u64 ((x%2:Nat):Int)):=by
 have h1:(BitVec.ofInt 64 (x:Int)).toNat=x:=h_;have h2:(BitVec.ofInt 64 1).toNat=2^1-1:=d_;have h3:(BitVec.ofInt 64 (x:Int) &&& BitVec.ofInt 64 1).toNat=x%2:=s_;have a:bV .and (.int .u64 (x:Int)) (.int .u64 1)=some (.int .u64 (IntKind.u64.wrap ((BitVec.ofInt 64 (x:Int) &&& BitVec.ofInt 64 1).toNat:Int))):=Y_;rw[a,h3,bS _ o_]
def Qu(x:Nat):bV .shr (.int .u64 (x:Int)) (.int .u64 1)=some (.int .u64 ((x/2:Nat):Int)):=by
 have:(x:Int).fdiv (2^min 1 64)=((x/2:Nat):Int):=m_;rw[<-this];simp only[bV];rfl
def aD8 (a:Fq) (n:Nat) (j:n<2^64):aA PQ G xU [.v (fu a),.v (.int .u64 (n:Int))] [] λr p=>r=.v (fu (a^n))/\p=[]:=by
 apply aC N5;simp only[go_sem];apply kM (aAE a.val n);simp only[go_sem];refine NX rfl (vZ yA) λr h1 h2 h g=>?_;simp only[go_sem];refine Ic [0,1,2,3] (aB _) d_ (λi l=>by simp at l⊢;omega) rfl rfl (aC yA ?_);simp only[go_sem];apply cX (aJX a);simp only[go_sem];refine cO (λm s=>∃out b:Fq,out*b^m=a^n/\m<2^64/\s=⟨4,[(0,.yl 3),(2,.ptr 2 0),(4,.v (fu b))],[some (.box [.v (fu out)]),some (.box [.v (fu a)]),some (.box [.v (.int .u64 (m:Int))]),some (.lp r [(5,.ptr 0 0)])]⟩) n ⟨1,a,aJZ _,j,?_⟩ ?_;simp only[go_sem];rfl;rintro m s ⟨out,b,d,k,rfl⟩;rcases JX m with rfl|c;have f:decide (((0:Nat):Int)>0)=false:=d_;simp only[go_sem,h1,h2];have:out=a^n:=by rw[<-d,OH,aHZ]
 subst this;rfl;have f:decide ((m:Int)>0)=true:=ox;have o:=aAF m k;simp only[go_sem,f,↓o];apply h _ _ _ _ _ rfl rfl;simp only[go_sem];refine aL (λe=>?_) (λe=>?_);simp only[go_sem];apply cX (Ud out b);simp only[go_sem];apply cX (Ud b b);simp only[↓Qu,go_sem];refine⟨m/2,o_,out*b,b*b,?_,o_,rfl⟩;have h3:m%2=1:=by simp at e;omega
 rw[<-d,MD b m,h3,aH0,aK0,aH1 b];simp only[go_sem];apply cX (Ud b b);simp only[↓Qu,go_sem];refine⟨m/2,o_,out,b*b,?_,o_,rfl⟩;have h3:m%2=0:=by simp at e;omega
 rw[<-d,MD b m,h3,OH,aHZ]


end Hud
namespace Hud
set_option maxRecDepth 99999
open Go
def aJu:=eVf (cF aID [(11,none,1002)])
end Hud
