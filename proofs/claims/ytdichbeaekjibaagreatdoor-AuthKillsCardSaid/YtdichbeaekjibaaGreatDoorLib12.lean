import Derived.Test.YtdichbeaekjibaaGreatDoorLib11
set_option linter.all false
namespace Hud
open Go
section
section
variable {G:Nat→Option (List AV)}
set_option maxHeartbeats 2000000
end
end
section
section
variable {P:Program} {G:Nat→Option (List AV)} {st:St}
end
section
variable {G:Nat→Option (List AV)}
set_option maxHeartbeats 20000000
end
end
section
structure GM where
 Cards:List CardM
 L:List OpM
 I:List Id
 Up:List (List Nat)
 In:List (List Bool)
 deriving DecidableEq,Inhabited
abbrev Ow (l:List Nat):AV:=.ls 1 (l.map λn:Nat=>[iv (n:Int)])
abbrev Qt (l:List Bool):AV:=.ls 1 (l.map λb=>[AV.v (.bool b)])
def GM.A (g:GM):List AV:=[.ls 5 (g.Cards.map CardM.A),.ls 27 (g.L.map OpM.A),ids g.I,.ls 1 (g.Up.map λl=>[Ow l]),.ls 1 (g.In.map λl=>[Qt l])]
def GM.A_def (g:GM):g.A=[.ls 5 (g.Cards.map CardM.A),.ls 27 (g.L.map OpM.A),ids g.I,.ls 1 (g.Up.map λl=>[Ow l]),.ls 1 (g.In.map λl=>[Qt l])]:=bJ rfl rfl
@[go_sem] def GM.g0 (g:GM):g.A[0]?=some (.ls 5 (g.Cards.map CardM.A)):=bJ rfl rfl
@[go_sem] def GM.g1 (g:GM):g.A[1]?=some (.ls 27 (g.L.map OpM.A)):=bJ rfl rfl
@[go_sem] def GM.g2 (g:GM):g.A[2]?=some (ids g.I):=bJ rfl rfl
@[go_sem] def GM.g3 (g:GM):g.A[3]?=some (.ls 1 (g.Up.map λl=>[Ow l])):=bJ rfl rfl
@[go_sem] def GM.g4 (g:GM):g.A[4]?=some (.ls 1 (g.In.map λl=>[Qt l])):=bJ rfl rfl
@[go_sem] def GM.len (g:GM):g.A.length=5:=bJ rfl rfl
@[go_sem] def GM.t5 (g:GM):g.A.take 5=g.A:=bJ rfl rfl
@[go_sem] def GM.ids0 (g:GM):fU g.A=[]:=bJ rfl rfl
def GM.one0 (g:GM):g.A.all eO=true:=by simp [GM.A,eO]
@[go_sem] def GM.one (g:GM):g.A.all eO=true:=GM.one0 g
@[go_sem] def GM.rn (L:List Nat) (g:GM):uF L g.A=g.A:=bJ rfl rfl
@[go_sem] def GM.bk (L:List Nat) (n:Nat) (g:GM):B9 L n g.A=g.A:=bJ rfl rfl
@[go_sem] def GM.sl (i k:Nat) (es:List (List AV)) (g:GM):Fb i k es g.A=g.A:=bJ rfl rfl
structure GM.ok (g:GM):Prop where
 n:g.L.length≤1000
 cn:g.Cards.length≤1000
 cs:∀ c∈g.Cards,c.ok
 ops:∀ o∈g.L,o.ok
 i:g.I.length=g.L.length
 is:∀ x∈g.I,x.ok
 un:g.Up.length=g.L.length
 up:∀ u∈g.Up,u.length≤1000∧∀ k∈u,k<g.L.length
 inn:g.In.length=g.L.length
 ins:∀ r∈g.In,r.length=g.L.length
def aM (I:List Id) (x:Id):Int:=zV (λy=>decide (y=x)) I
def eK (cs:List CardM) (d:Int):CardM×Bool:=match cs.find? (λc=>c.Device==d) with | some c=>(c,true) | none=>(default,false)
def K6 (Up:List (List Nat)) (up:List Nat) (a:List Bool) (i:Nat):List Bool :=
 if (if decide (i∈up) then a.set i true else a).getD i false then (Up.getD i []).foldl (λb k=>b.set k true) (if decide (i∈up) then a.set i true else a) else (if decide (i∈up) then a.set i true else a)
def Hw (Up:List (List Nat)) (up:List Nat):Nat→List Bool→List Bool
 | 0,a=>a
 | i+1,a=>Hw Up up i (K6 Up up a i)
def lE (g:GM) (up:List Nat):List Bool:=Hw g.Up up g.L.length (List.replicate g.L.length false)
def GQ (o:OpM) (e:OpM×Bool):Bool:=e.2&&e.1.By==o.By
def DJ (L:List OpM) (o:OpM) (inn:List Bool):Bool :=
 (L.zip inn).all (λe=>!(GQ o e)||decide (e.1.Seq<o.Seq))&&((o.Seq==1)||(L.zip inn).any λe=>GQ o e&&e.1.Seq==o.Seq-1)
def MO (I:List Id) (l:List Id):Option (List Nat):=if l.all (λx=>decide (0≤aM I x)) then some (l.map λx=>(aM I x).toNat) else none
def HQ (g:GM) (o:OpM) (up:List Nat):Bool:=up.all λi=>(up.all λk=>!((g.In.getD i []).getD k false))&&!decide (o.At<(g.L.getD i default).At)
@[go_sem] def OpM.e1 (o:OpM):(o.A.drop 1)[0]?=some (iv o.Seq):=bJ rfl rfl
@[go_sem] def OpM.e2 (o:OpM):(o.A.drop 2)[0]?=some (iv o.Kind):=bJ rfl rfl
@[go_sem] def OpM.e3 (o:OpM):(o.A.drop 3)[0]?=some (iv o.At):=bJ rfl rfl
@[go_sem] def OpM.e4 (o:OpM):(o.A.drop 4)[0]?=some (ids o.Past):=bJ rfl rfl
@[go_sem] def OpM.e5 (o:OpM):(o.A.drop 5)[0]?=some (iv o.Device):=bJ rfl rfl
@[go_sem] def OpM.e6 (o:OpM):(o.A.drop 6)[0]?=some (iv o.Old):=bJ rfl rfl
@[go_sem] def OpM.e7 (o:OpM):(o.A.drop 7)[0]?=some (iv o.Member):=bJ rfl rfl
@[go_sem] def OpM.e8 (o:OpM):(o.A.drop 8)[0]?=some (iv o.Role):=bJ rfl rfl
@[go_sem] def OpM.e9 (o:OpM):(o.A.drop 9)[0]?=some (.ls 2 (o.Path.map NodeM.A)):=bJ rfl rfl
@[go_sem] def OpM.e13 (o:OpM):(o.A.drop 13)[0]?=some (iv o.N):=bJ rfl rfl
@[go_sem] def OpM.e14 (o:OpM):(o.A.drop 14)[0]?=some (.ls 1 (bl o.Body)):=bJ rfl rfl
@[go_sem] def OpM.e15 (o:OpM):(o.A.drop 15)[0]?=some (.ls 1 (ul o.Refs)):=bJ rfl rfl
@[go_sem] def OpM.e19 (o:OpM):(o.A.drop 19)[0]?=some (uK o.Guards):=bJ rfl rfl
@[go_sem] def OpM.e20 (o:OpM):(o.A.drop 20)[0]?=some (iv o.Need):=bJ rfl rfl
@[go_sem] def OpM.e21 (o:OpM):(o.A.drop 21)[0]?=some (iv o.Wait):=bJ rfl rfl
@[go_sem] def OpM.e22 (o:OpM):(o.A.drop 22)[0]?=some (De o.Boxes):=bJ rfl rfl
@[go_sem] def OpM.e23 (o:OpM):(o.A.drop 23)[0]?=some (uv o.Pub):=bJ rfl rfl
@[go_sem] def OpM.e24 (o:OpM):(o.A.drop 24)[0]?=some (.ls 4 (o.Hist.map SealM.A)):=bJ rfl rfl
@[go_sem] def OpM.e25 (o:OpM):(o.A.drop 25)[0]?=some (uv o.SR):=bJ rfl rfl
@[go_sem] def OpM.e26 (o:OpM):(o.A.drop 26)[0]?=some (uv o.SS):=bJ rfl rfl
end
section
abbrev fu (a:Fq):Value:=.int .u64 ((a.val:Nat):Int)
def DK (a:Fq):a.val<2305843009213693951:=a.isLt
section
variable {G:Nat→Option (List AV)}
def aEV (a:Fq):aC PQ G eR [.v (fu a)] [] λr T'=>r=.v (fu a)∧T'=[]:=by
 have:=EV G a.val (by have:=DK a;omega);rwa [CL (show a.val<FP from a.isLt)] at this
def aEW (a b:Fq):aC PQ G yG [.v (fu a),.v (fu b)] [] λr T'=>r=.v (fu (a+b))∧T'=[] :=
 aEP G a.val b.val (by have:=DK a;omega) (by have:=DK b;omega)
def Qu (a b:Fq):aC PQ G nG [.v (fu a),.v (fu b)] [] λr T'=>r=.v (fu (a*b))∧T'=[] :=
 aEQ G a.val b.val (by have:=DK a;omega) (by have:=DK b;omega)
def Wl (a n:Nat):aC PQ G uN [.v (.int .u64 (a:Int)),.v (.int .u64 (n:Int))] [] λr T'=>r=.cl rJ [.ptr 0 0,.ptr 1 0]∧T'=[some (.box [.v (.int .u64 (a:Int))]),some (.box [.v (.int .u64 (n:Int))])]:=by
 refine aD E9 (by decide) ?_;simp only [go_sem]
def aEX (a:Fq):1*a=a:=Fin.one_mul a
def aDf (a:Fq):a*1=a:=Fin.mul_one a
def aCa (a b c:Fq):a*b*c=a*(b*c):=Fin.mul_assoc a b c
def aCb (a b:Fq):a*b=b*a:=Fin.mul_comm a b
def aEY (a:Fq):a^1=a:=by grind
def K7 (a:Fq):a^0=1:=by grind
def Wm (x:Nat) (hx:x<18446744073709551616):bM .and (.int .u64 (x:Int)) (.int .u64 1)=some (.int .u64 ((x%2:Nat):Int)):=by
 have h1:(BitVec.ofInt 64 (x:Int)).toNat=x:=by simp_all
 have h2:(BitVec.ofInt 64 1).toNat=2^1-1:=by decide
 have h3:(BitVec.ofInt 64 (x:Int) &&& BitVec.ofInt 64 1).toNat=x%2:=by
  simp
 have h4:bM .and (.int .u64 (x:Int)) (.int .u64 1)=some (.int .u64 (IntKind.u64.wrap ((BitVec.ofInt 64 (x:Int) &&& BitVec.ofInt 64 1).toNat:Int))):=by
  rfl
 rw [h4,h3,bT _ (by omega)]
def NV (x:Nat):bM .shr (.int .u64 (x:Int)) (.int .u64 1)=some (.int .u64 ((x/2:Nat):Int)):=by
 have:(x:Int).fdiv (2^min 1 64)=((x/2:Nat):Int):=by grind
 rw [←this];simp only [bM];rfl
def Y5 (a:Fq) (n:Nat) (hn:n<18446744073709551616):aC PQ G tR [.v (fu a),.v (.int .u64 (n:Int))] [] λr T'=>r=.v (fu (a^n))∧T'=[]:=by
 refine aD Kq (by decide) ?_;simp only [go_sem];refine aQ (aA _) rfl (Wl a.val n) ?_;simp only [go_sem];refine M9 rfl (wC tX) λr h1 h2 hy hyR=>?_;simp only [go_sem];refine Fz [0,1,2,3] (aA _) (by decide) (λi hi=>by simp at hi ⊢;omega) rfl rfl (aD tX (by decide) ?_);simp only [go_sem];refine aB (aA _) rfl (aEV a) rfl ?_;simp only [go_sem];refine jE (λm s=>∃ out b:Fq,out*b^m=a^n∧m<18446744073709551616∧s=⟨4,[(0,.yl 3),(2,.ptr 2 0),(4,.v (fu b))],[some (.box [.v (fu out)]),some (.box [.v (fu a)]),some (.box [.v (.int .u64 (m:Int))]),some (.lp r [(5,.ptr 0 0)])]⟩) n ⟨1,a,aEX _,hn,?_⟩ ?_
 ·simp only [go_sem];rfl
 ·rintro m s ⟨out,b,hp,hm,rfl⟩;rcases Mh m with rfl | hpos
  ·have hd:decide (((0:Nat):Int)>0)=false:=by decide
   simp only [go_sem,h1,h2];have:out=a^n:=by rw [←hp,K7,aDf]
   subst this;rfl
  ·have hd:decide ((m:Int)>0)=true:=by simpa using hpos
   have a1:=Wm m hm;simp only [go_sem,hd,↓a1];refine hy _ _ _ _ _ rfl rfl ?_;simp only [go_sem];refine aK (λhb=>?_) (λhb=>?_)
   ·simp only [go_sem];refine aB (aA _) rfl (Qu out b) rfl ?_;simp only [go_sem];refine aB (aA _) rfl (Qu b b) rfl ?_;simp only [↓NV,go_sem];refine ⟨m/2,by omega,out*b,b*b,?_,by omega,rfl⟩;have h3:m%2=1:=by simp at hb;omega
    rw [←hp,JA b m,h3,aCa,aEY,aCb b]
   ·simp only [go_sem];refine aB (aA _) rfl (Qu b b) rfl ?_;simp only [↓NV,go_sem];refine ⟨m/2,by omega,out,b*b,?_,by omega,rfl⟩;have h3:m%2=0:=by simp at hb;omega
    rw [←hp,JA b m,h3,K7,aDf]
end
end
section
def jS (x m:Nat) (h:m≠0):bM .rem (.int .u64 (x:Int)) (.int .u64 (m:Int))=some (.int .u64 ((x%m:Nat):Int)):=by
 grind [bM]
def Ad (x m:Nat) (h:m≠0) (hx:x<18446744073709551616):bM .quo (.int .u64 (x:Int)) (.int .u64 (m:Int))=some (.int .u64 ((x/m:Nat):Int)):=by
 have:((m:Nat):Int)≠0:=by omega
 have h2:x/m<18446744073709551616:=Mg (Ml _ _) hx;simp only [bM,if_true,if_neg this];rw [Int.tdiv_eq_ediv_of_nonneg (by omega),←Int.natCast_ediv,bT _ h2]
def Dn (x:Nat):bM .rem (.int .u64 (x:Int)) (.int .u64 2305843009213693951)=some (.int .u64 ((x%2305843009213693951:Nat):Int)):=jS x 2305843009213693951 (by decide)
def Sz (x:Nat):bM .rem (.int .u64 (x:Int)) (.int .u64 4294967296)=some (.int .u64 ((x%4294967296:Nat):Int)):=jS x 4294967296 (by decide)
def S0 (x:Nat):bM .rem (.int .u64 (x:Int)) (.int .u64 536870912)=some (.int .u64 ((x%536870912:Nat):Int)):=jS x 536870912 (by decide)
def Wo (x:Nat):bM .rem (.int .u64 (x:Int)) (.int .u64 2)=some (.int .u64 ((x%2:Nat):Int)):=jS x 2 (by decide)
def K8 (x:Nat) (hx:x<18446744073709551616):bM .quo (.int .u64 (x:Int)) (.int .u64 4294967296)=some (.int .u64 ((x/4294967296:Nat):Int)):=Ad x 4294967296 (by decide) hx
def S2 (x:Nat) (hx:x<18446744073709551616):bM .quo (.int .u64 (x:Int)) (.int .u64 536870912)=some (.int .u64 ((x/536870912:Nat):Int)):=Ad x 536870912 (by decide) hx
def Wp (x:Nat) (hx:x<18446744073709551616):bM .quo (.int .u64 (x:Int)) (.int .u64 2)=some (.int .u64 ((x/2:Nat):Int)):=Ad x 2 (by decide) hx
def S3 (x:Nat) (h:x*4294967296<18446744073709551616):bM .mul (.int .u64 (x:Int)) (.int .u64 4294967296)=some (.int .u64 ((x*4294967296:Nat):Int)):=iW x 4294967296 h
def Wq (x:Nat) (h:8*x<18446744073709551616):bM .mul (.int .u64 8) (.int .u64 (x:Int))=some (.int .u64 ((8*x:Nat):Int)):=iW 8 x h
section
variable {G:Nat→Option (List AV)}
def aCc (a b:Fq):aC PQ G Dj [.v (fu a),.v (fu b)] [] λr T'=>r=.v (fu (a+b))∧T'=[]:=by
 refine aD Ob (by decide) ?_;have ha:=DK a;have hb:=DK b;have m1:a.val%2305843009213693951=a.val:=CL ha;have m2:b.val%2305843009213693951=b.val:=CL hb;have a1:=dG a.val b.val (by omega);simp only [↓Dn,m1,m2,↓a1,go_sem];rfl
def Y6 (x y:Nat) (l h m:Nat) (hl:l=x%4294967296*(y%4294967296)) (hm:m=x/4294967296*(y%4294967296)+x%4294967296*(y/4294967296)) (hh:h=x/4294967296*(y/4294967296)) :
  (l%2305843009213693951+m%536870912*4294967296+m/536870912+8*h)%2305843009213693951=x*y%2305843009213693951:=by
 rw [NE x y,←hl,←hm,←hh];omega
def Qv (a b:Fq):aC PQ G wH [.v (fu a),.v (fu b)] [] λr T'=>r=.v (fu (a*b))∧T'=[]:=by
 refine aD OZ (by decide) ?_;have ha:=DK a;have hb:=DK b;have e:(a*b).val=a.val*b.val%2305843009213693951:=rfl;unfold fu;rw [e];generalize a.val=x at *
 generalize b.val=y at *
 have m1:x%2305843009213693951=x:=CL ha;have m2:y%2305843009213693951=y:=CL hb;have bb:∀ a c A C:Nat,a≤A→c≤C→a*c≤A*C:=λa c A C ha hc=>Xt ha hc;have b1:=bb (x%4294967296) (y%4294967296) 4294967295 4294967295 (by omega) (by omega);have b2:=bb (x/4294967296) (y%4294967296) 536870911 4294967295 (by omega) (by omega);have b3:=bb (x%4294967296) (y/4294967296) 4294967295 536870911 (by omega) (by omega);have b4:=bb (x/4294967296) (y/4294967296) 536870911 536870911 (by omega) (by omega);have q1:=K8 x (by omega);have q2:=K8 y (by omega);have p1:=iW (x%4294967296) (y%4294967296) (by omega);have p2:=iW (x/4294967296) (y%4294967296) (by omega);have p3:=iW (x%4294967296) (y/4294967296) (by omega);have p4:=iW (x/4294967296) (y/4294967296) (by omega);have p5:=dG (x/4294967296*(y%4294967296)) (x%4294967296*(y/4294967296)) (by omega);have hmb:x/4294967296*(y%4294967296)+x%4294967296*(y/4294967296)≤4611686008763711490:=by omega
 have hf:=Y6 x y _ _ _ rfl rfl rfl;generalize x%4294967296*(y%4294967296)=l at *
 generalize x/4294967296*(y%4294967296)+x%4294967296*(y/4294967296)=m at *
 generalize x/4294967296*(y/4294967296)=h at *
 have r1:=S3 (m%536870912) (by omega);have r2:=dG (l%2305843009213693951) (m%536870912*4294967296) (by omega);have r3:=S2 m (by omega);have r4:=dG (l%2305843009213693951+m%536870912*4294967296) (m/536870912) (by omega);have r5:=Wq h (by omega);have r6:=dG (l%2305843009213693951+m%536870912*4294967296+m/536870912) (8*h) (by omega);simp only [↓Dn,m1,m2,↓Sz,↓q1,↓q2,↓p1,↓p2,↓p3,↓p4,↓p5,↓S0,↓r1,↓r2,↓r3,↓r4,↓r5,↓r6,go_sem,hf]
def Qw (a:Fq) (n:Nat) (hn:n<18446744073709551616):aC PQ G sK [.v (fu a),.v (.int .u64 (n:Int))] [] λr T'=>r=.v (fu (a^n))∧T'=[]:=by
 refine aD Oc (by decide) ?_;have m1:a.val%2305843009213693951=a.val:=CL (DK a);simp only [↓Dn,m1,go_sem];refine jE (λm s=>∃ out b:Fq,out*b^m=a^n∧m<18446744073709551616∧s=⟨0,[(5,.v (fu out)),(6,.v (fu b)),(7,.v (.int .u64 (m:Int)))],[]⟩) n ⟨1,a,aEX _,hn,?_⟩ ?_
 ·rfl
 ·rintro m s ⟨out,b,hp,hm,rfl⟩;rcases Mh m with rfl | hpos
  ·have hd:decide (((0:Nat):Int)>0)=false:=by decide
   have:out=a^n:=by grind
   subst this;simp only [go_sem]
  ·have hd:decide ((m:Int)>0)=true:=by simpa using hpos
   have a1:=Wo m;have a2:=Wp m hm;simp only [go_sem,hd,↓a1];refine aK (λhb=>?_) (λhb=>?_)
   ·have h3:m%2=1:=by simp at hb;omega
    simp only [go_sem];refine aB (aA _) rfl (Qv out b) rfl ?_;simp only [go_sem];refine aB (aA _) rfl (Qv b b) rfl ?_;simp only [go_sem,↓a2];refine ⟨m/2,by omega,out*b,b*b,?_,by omega,rfl⟩;rw [←hp,JA b m,h3,aCa,aEY,aCb b]
   ·have h3:m%2=0:=by simp at hb;omega
    simp only [go_sem];refine aB (aA _) rfl (Qv b b) rfl ?_;simp only [go_sem,↓a2];refine ⟨m/2,by omega,out,b*b,?_,by omega,rfl⟩;rw [←hp,JA b m,h3,K7,aDf]
end
end
section
@[go_sem] def shA (args:List AV) (T:aH) (I:List Nat):List AV:=(List.range args.length).map λi=>aP (CQ ⟨T.length,mM 0 args,T⟩ I).s i
@[go_sem] def shT (args:List AV) (T:aH) (I:List Nat):aH:=(CQ ⟨T.length,mM 0 args,T⟩ I).T
section
variable {P:Program} {G:Nat→Option (List AV)} {f:FuncId} {args args':List AV} {T:aH}
def aC.ofCall {K:AV→aH→Prop} (hc:@rA P G f args T ⟨K⟩):aC P G f args T K:=λ_ _ _ _ hG hI hA=>CT hc hG hI hA
def aC.sh (I:List Nat) {args2:List AV} {T2:aH} {post:AV→aH→Prop} (hA:shA args T I=args2) (hT:shT args T I=T2) (hc:aC P G f args2 T2 post):aC P G f args T post:=by
 intro h φ w vals hG hI hR;have hS0:SInv P G 0 h φ T w ⟨T.length,mM 0 args,T⟩ ⟨vals,[]⟩ w:=by
  refine ⟨rfl,(G3 0 args).1,⟨h,φ,hG,Evo.refl,hI,?_⟩,by simp,by simp [CZ]⟩;have:=OM (h:=h) (φ:=φ) (n:=T.length) 0 args [] vals.toList [] rfl hR;simpa only [gW,nR,Tz] using this
 have hN:∀ (l:List Nat) (st:St),SInv P G 0 h φ T w st ⟨vals,[]⟩ w→SInv P G 0 h φ T w (CQ st l) ⟨vals,[]⟩ w:=by
  intro l
  induction l with
  | nil=>intro st h;exact h
  | cons i r ih=>intro st h;exact ih _ (h.shutI i)
 obtain ⟨_,_,⟨h2,φ2,g1,g2,g3,g4⟩,_,_⟩:=hN I _ hS0;have hT':(CQ ⟨T.length,mM 0 args,T⟩ I).T=T2:=hT;rw [hT'] at g2 g3 g4;have hR2:bK h2 φ2 T2.length args2 vals.toList:=by
  have hl:=hR.length;refine bK.mk (by rw [←hA];simp [shA,hl]) λi c u hc hu=>?_;rw [←hA] at hc;have hi:i<args.length:=by
   rcases gM i args.length with h | h
   ·exact h
   ·rw [hl] at h;rw [oW h] at hu;cases hu
  simp only [shA,lO,Xk hi,lA,Option.some.injEq] at hc;have:=g4 i;rw [hc] at this;have hu2:vals.getD i undef=u:=by
   rw [PY];rw [Array.getElem?_toList] at hu;rw [hu];rfl
  rw [hu2] at this;exact this
 have key:∀ {v w'},Bv h2 φ2 T2 w post v w'→Bv h φ T w post v w':=λ⟨r,T',h',φ',e1,e2,e3,e4⟩=>⟨r,T',h',φ',e1,g2.trans e2,e3,e4⟩
 rcases hc h2 φ2 w vals g1 g3 hR2 with ⟨a,b⟩ | ⟨v,w',a,b⟩
 ·exact .inl ⟨a,b.mono λe w' ⟨v,e1,e2⟩=>⟨v,e1,key e2⟩⟩
 ·exact .inr ⟨v,w',a,key b⟩
def Ox (L:List Nat) {args2 args3:List AV} {T2 T3:aH} {R:AV} {K:AV→aH→Prop} (I:List Nat) (hs:Ar args args') (hn:L.Nodup) (hL:∀ i∈L,i<T.length) (ha:uF L args'=args2) (hT:CP L T=T2)
  (h3:shA args2 T2 I=args3) (h4:shT args2 T2 I=T3) (hi:fU args3=[]) (hc:aC P G f args3 [] λr T'=>r=R∧T'=[]) (hR:dZ R=[]) (hk:K R (Fd L T.length T L T3)):@rA P G f args T ⟨K⟩ :=
 aG L (post:=λr T'=>r=R∧T'=T3) hs hn hL ha hT (aC.sh I h3 h4 (aC.ofCall (aB (aA _) hi hc hR ⟨rfl,rfl⟩))) λr T' ⟨h1,h2⟩=>by
  subst h1;subst h2;rw [Ub hR];exact hk
end
end
section
@[go_sem] def aH8:IntKind.i64.wrap 0=0:=by decide
@[go_sem] def aH9:IntKind.u64.wrap 0=0:=by decide
@[go_sem] def aHa:IntKind.i64.wrap 1=1:=by decide
@[go_sem] def aHb:IntKind.u64.wrap 1=1:=by decide
@[go_sem] def aHc:IntKind.i64.wrap 2=2:=by decide
@[go_sem] def aHd:IntKind.u64.wrap 2=2:=by decide
@[go_sem] def aHe:IntKind.i64.wrap 3=3:=by decide
@[go_sem] def aHf:IntKind.u64.wrap 3=3:=by decide
@[go_sem] def aHg:IntKind.i64.wrap 4=4:=by decide
@[go_sem] def aHh:IntKind.u64.wrap 4=4:=by decide
@[go_sem] def aHi:IntKind.i64.wrap 5=5:=by decide
@[go_sem] def aHj:IntKind.u64.wrap 5=5:=by decide
@[go_sem] def aHk:IntKind.i64.wrap 6=6:=by decide
@[go_sem] def aHl:IntKind.u64.wrap 6=6:=by decide
@[go_sem] def aHm:IntKind.i64.wrap 7=7:=by decide
@[go_sem] def aHn:IntKind.u64.wrap 7=7:=by decide
@[go_sem] def aHo:IntKind.i64.wrap 8=8:=by decide
@[go_sem] def aHp:IntKind.u64.wrap 8=8:=by decide
@[go_sem] def aEZ:IntKind.i64.wrap 16=16:=by decide
@[go_sem] def aF0:IntKind.u64.wrap 16=16:=by decide
@[go_sem] def aF1:IntKind.i64.wrap 24=24:=by decide
@[go_sem] def aF2:IntKind.u64.wrap 24=24:=by decide
@[go_sem] def aF3:IntKind.i64.wrap 32=32:=by decide
@[go_sem] def aF4:IntKind.u64.wrap 32=32:=by decide
@[go_sem] def aF5:IntKind.i64.wrap 64=64:=by decide
@[go_sem] def aF6:IntKind.u64.wrap 64=64:=by decide
def vT (s w:Fq) (k:Nat):Fq:=(37*s+(w+Fin.ofNat PP k))^17
def NW (n:Nat) (h:n<PP):((Fin.ofNat PP n:Fq)).val=n:=CL h
def aB0 (w:Fq) (k:Nat) (h:k<PP):(w.val+k)%FP=(w+Fin.ofNat PP k).val:=by
 rw [Fin.val_add,NW k h];rfl
def eW:Fq:=⟨1835363429,by decide⟩
section
variable {G:Nat→Option (List AV)}
set_option maxHeartbeats 2000000
def Ux (es:List (List AV)):aC PQ G vR [.ls 1 es] [] λr T'=>r=.cl kT [.ptr 0 0]∧T'=[some (.box [.ls 1 es])]:=by
 refine aD IT (by decide) ?_;simp only [go_sem]
def Uy (es:List (List AV)):aC PQ G jP [.ls 1 es,.v (.int .i64 7)] [] λr T'=>r=.cl iM [.ptr 0 0,.ptr 1 0]∧T'=[some (.box [.ls 1 es]),some (.box [.v (.int .i64 7)])]:=by
 refine aD uR (by decide) ?_;simp only [go_sem]
def Bf:Fq→Nat→List Fq→Fq
 | s,_,[]=>s
 | s,k,w::l=>Bf (vT s w (k+1)) (k+1) l
def hI (n1 n2 n3:Nat):Nat→Fq
 | 0=>vT (vT 4 eW 1) (Fin.ofNat PP 3) 2
 | 1=>vT (vT (vT 4 eW 1) (Fin.ofNat PP 3) 2) (Fin.ofNat PP n1) 3
 | 2=>vT (vT (vT (vT 4 eW 1) (Fin.ofNat PP 3) 2) (Fin.ofNat PP n1) 3) (Fin.ofNat PP n2) 4
 | _=>vT (vT (vT (vT (vT 4 eW 1) (Fin.ofNat PP 3) 2) (Fin.ofNat PP n1) 3) (Fin.ofNat PP n2) 4) (Fin.ofNat PP n3) 5
end
end
section

end
end Hud
