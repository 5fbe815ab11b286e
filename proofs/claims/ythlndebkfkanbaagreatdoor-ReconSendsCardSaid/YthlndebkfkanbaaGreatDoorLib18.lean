import Derived.Test.YthlndebkfkanbaaGreatDoorLib17
set_option linter.all false
namespace Hud
open Go
section
structure GM where
 Cards:List CardM
 L:List OpM
 I:List Id
 Up:List (List Nat)
 In:List (List Bool)
 deriving DecidableEq,Inhabited
abbrev OA (l:List Nat):AV:=.ls 1 (l.map λn:Nat=>[iv (n:Int)])
abbrev Pf (l:List Bool):AV:=.ls 1 (l.map λb=>[AV.v (.bool b)])
def GM.A (g:GM):List AV:=[.ls 5 (g.Cards.map CardM.A),.ls 27 (g.L.map OpM.A),ids g.I,.ls 1 (g.Up.map λl=>[OA l]),.ls 1 (g.In.map λl=>[Pf l])]
def GM.A_def (g:GM):g.A=[.ls 5 (g.Cards.map CardM.A),.ls 27 (g.L.map OpM.A),ids g.I,.ls 1 (g.Up.map λl=>[OA l]),.ls 1 (g.In.map λl=>[Pf l])]:=cH rfl rfl
@[go_sem] def GM.g0 (g:GM):g.A[0]?=some (.ls 5 (g.Cards.map CardM.A)):=cH rfl rfl
@[go_sem] def GM.g1 (g:GM):g.A[1]?=some (.ls 27 (g.L.map OpM.A)):=cH rfl rfl
@[go_sem] def GM.g2 (g:GM):g.A[2]?=some (ids g.I):=cH rfl rfl
@[go_sem] def GM.g3 (g:GM):g.A[3]?=some (.ls 1 (g.Up.map λl=>[OA l])):=cH rfl rfl
@[go_sem] def GM.g4 (g:GM):g.A[4]?=some (.ls 1 (g.In.map λl=>[Pf l])):=cH rfl rfl
@[go_sem] def GM.len (g:GM):g.A.length=5:=cH rfl rfl
@[go_sem] def GM.t5 (g:GM):g.A.take 5=g.A:=cH rfl rfl
@[go_sem] def GM.ids0 (g:GM):iI g.A=[]:=cH rfl rfl
def GM.one0 (g:GM):g.A.all jU=true:=by simp [GM.A,jU]
@[go_sem] def GM.one (g:GM):g.A.all jU=true:=GM.one0 g
@[go_sem] def GM.rn (L:List Nat) (g:GM):Al L g.A=g.A:=cH rfl rfl
@[go_sem] def GM.bk (L:List Nat) (n:Nat) (g:GM):D3 L n g.A=g.A:=cH rfl rfl
@[go_sem] def GM.sl (i k:Nat) (es:List (List AV)) (g:GM):Ib i k es g.A=g.A:=cH rfl rfl
structure GM.ok (g:GM):Prop where
 n:g.L.length≤1000
 cn:g.Cards.length≤1000
 cs:∀ c∈g.Cards,c.ok
 ops:∀ o∈g.L,o.ok
 i:g.I.length=g.L.length
 is:∀ x∈g.I,x.ok
 un:g.Up.length=g.L.length
 up:∀ u∈g.Up,u.length≤1000∧∀ k∈u,k<g.L.length
 inn:g.In.length=g.L.length
 ins:∀ r∈g.In,r.length=g.L.length
def aR (I:List Id) (x:Id):Int:=DK (λy=>decide (y=x)) I
def jT (cs:List CardM) (d:Int):CardM×Bool:=match cs.find? (λc=>c.Device==d) with | some c=>(c,true) | none=>(default,false)
def L3 (Up:List (List Nat)) (up:List Nat) (a:List Bool) (i:Nat):List Bool :=
 if (if decide (i∈up) then a.set i true else a).getD i false then (Up.getD i []).foldl (λb k=>b.set k true) (if decide (i∈up) then a.set i true else a) else (if decide (i∈up) then a.set i true else a)
def Ir (Up:List (List Nat)) (up:List Nat):Nat→List Bool→List Bool
 | 0,a=>a
 | i+1,a=>Ir Up up i (L3 Up up a i)
def nB (g:GM) (up:List Nat):List Bool:=Ir g.Up up g.L.length (List.replicate g.L.length false)
def Fw (o:OpM) (e:OpM×Bool):Bool:=e.2&&e.1.By==o.By
def Dk (L:List OpM) (o:OpM) (inn:List Bool):Bool :=
 (L.zip inn).all (λe=>!(Fw o e)||decide (e.1.Seq<o.Seq))&&((o.Seq==1)||(L.zip inn).any λe=>Fw o e&&e.1.Seq==o.Seq-1)
def NK (I:List Id) (l:List Id):Option (List Nat):=if l.all (λx=>decide (0≤aR I x)) then some (l.map λx=>(aR I x).toNat) else none
def Fx (g:GM) (o:OpM) (up:List Nat):Bool:=up.all λi=>(up.all λk=>!((g.In.getD i []).getD k false))&&!decide (o.At<(g.L.getD i default).At)
@[go_sem] def OpM.e1 (o:OpM):(o.A.drop 1)[0]?=some (iv o.Seq):=cH rfl rfl
@[go_sem] def OpM.e2 (o:OpM):(o.A.drop 2)[0]?=some (iv o.Kind):=cH rfl rfl
@[go_sem] def OpM.e3 (o:OpM):(o.A.drop 3)[0]?=some (iv o.At):=cH rfl rfl
@[go_sem] def OpM.e4 (o:OpM):(o.A.drop 4)[0]?=some (ids o.Past):=cH rfl rfl
@[go_sem] def OpM.e5 (o:OpM):(o.A.drop 5)[0]?=some (iv o.Device):=cH rfl rfl
@[go_sem] def OpM.e6 (o:OpM):(o.A.drop 6)[0]?=some (iv o.Old):=cH rfl rfl
@[go_sem] def OpM.e7 (o:OpM):(o.A.drop 7)[0]?=some (iv o.Member):=cH rfl rfl
@[go_sem] def OpM.e8 (o:OpM):(o.A.drop 8)[0]?=some (iv o.Role):=cH rfl rfl
@[go_sem] def OpM.e9 (o:OpM):(o.A.drop 9)[0]?=some (.ls 2 (o.Path.map NodeM.A)):=cH rfl rfl
@[go_sem] def OpM.e13 (o:OpM):(o.A.drop 13)[0]?=some (iv o.N):=cH rfl rfl
@[go_sem] def OpM.e14 (o:OpM):(o.A.drop 14)[0]?=some (.ls 1 (bl o.Body)):=cH rfl rfl
@[go_sem] def OpM.e15 (o:OpM):(o.A.drop 15)[0]?=some (.ls 1 (ul o.Refs)):=cH rfl rfl
@[go_sem] def OpM.e19 (o:OpM):(o.A.drop 19)[0]?=some (AM o.Guards):=cH rfl rfl
@[go_sem] def OpM.e20 (o:OpM):(o.A.drop 20)[0]?=some (iv o.Need):=cH rfl rfl
@[go_sem] def OpM.e21 (o:OpM):(o.A.drop 21)[0]?=some (iv o.Wait):=cH rfl rfl
@[go_sem] def OpM.e22 (o:OpM):(o.A.drop 22)[0]?=some (C0 o.Boxes):=cH rfl rfl
@[go_sem] def OpM.e23 (o:OpM):(o.A.drop 23)[0]?=some (uv o.Pub):=cH rfl rfl
@[go_sem] def OpM.e24 (o:OpM):(o.A.drop 24)[0]?=some (.ls 4 (o.Hist.map SealM.A)):=cH rfl rfl
@[go_sem] def OpM.e25 (o:OpM):(o.A.drop 25)[0]?=some (uv o.SR):=cH rfl rfl
@[go_sem] def OpM.e26 (o:OpM):(o.A.drop 26)[0]?=some (uv o.SS):=cH rfl rfl
end
section
def aGl:FP=PP:=rfl
abbrev fu (a:Fq):Value:=.int .u64 ((a.val:Nat):Int)
def vY (a:Fq):a.val<2305843009213693951:=a.isLt
section
variable {G:Nat→Option (List AV)}
def V5 (a:Fq):aC PQ G cK [.v (fu a)] [] λr T'=>r=.v (fu a)∧T'=[]:=by
 have:=yA G a.val (by have:=vY a;omega);rwa [Ed (show a.val<FP from a.isLt)] at this
def aAa (a b:Fq):aC PQ G mI [.v (fu a),.v (fu b)] [] λr T'=>r=.v (fu (a+b))∧T'=[] :=
 aGh G a.val b.val (by have:=vY a;omega) (by have:=vY b;omega)
def CP (a b:Fq):aC PQ G bQ [.v (fu a),.v (fu b)] [] λr T'=>r=.v (fu (a*b))∧T'=[] :=
 aGi G a.val b.val (by have:=vY a;omega) (by have:=vY b;omega)
def Xk (x y:Nat) (h:y≤x) (h2:x<18446744073709551616):aZ .sub (.int .u64 (x:Int)) (.int .u64 (y:Int))=some (.int .u64 ((x-y:Nat):Int)):=by
 simp only [aZ,if_true];rw [show (x:Int)-(y:Int)=((x-y:Nat):Int) from by omega,bG _ (by omega)]
def Xl (x:Nat) (h2:x<2305843009213693951):aZ .add (.int .u64 (x:Int)) (.int .u64 2305843009213693951)=some (.int .u64 ((x+2305843009213693951:Nat):Int)):=by
 simp only [aZ,if_true];rw [show (x:Int)+2305843009213693951=((x+2305843009213693951:Nat):Int) from by omega,bG _ (by omega)]
def aET (a b:Fq):(a.val+2305843009213693951-b.val)%FP=(a-b).val:=by
 rw [Fin.sub_def];have ha:=vY a;have hb:=vY b;show _=(PP-b.val+a.val)%PP;rw [show PP-b.val+a.val=a.val+2305843009213693951-b.val from by show 2305843009213693951-b.val+a.val=_;omega,aGl]
def aDM (a b:Fq):aC PQ G oH [.v (fu a),.v (fu b)] [] λr T'=>r=.v (fu (a-b))∧T'=[]:=by
 refine aF DY (by decide) ?_;unfold DX;have ha:=vY a;have hb:=vY b;have a1:=Xl a.val ha;have a2:=Xk (a.val+2305843009213693951) b.val (by omega) (by omega);simp only [go_sem];refine aB (aA _) rfl (V5 a) rfl ?_;simp only [↓a1,go_sem];refine aB (aA _) rfl (V5 b) rfl ?_;simp only [↓a2,go_sem];refine aB (aA _) rfl (yA G _ (by omega)) rfl ?_;simp only [go_sem,aET]
def Xm (a n:Nat):aC PQ G vN [.v (.int .u64 (a:Int)),.v (.int .u64 (n:Int))] [] λr T'=>r=.cl sM [.ptr 0 0,.ptr 1 0]∧T'=[some (.box [.v (.int .u64 (a:Int))]),some (.box [.v (.int .u64 (n:Int))])]:=by
 refine aF Fr (by decide) ?_;simp only [go_sem]
def aGm (a:Fq):1*a=a:=Fin.one_mul a
def aCv (a:Fq):a*1=a:=Fin.mul_one a
def aDN (a b c:Fq):a*b*c=a*(b*c):=Fin.mul_assoc a b c
def aDO (a b:Fq):a*b=b*a:=Fin.mul_comm a b
def aGn (a:Fq):a^1=a:=by grind
def G1 (a:Fq):a^0=1:=by grind
def OB (x:Nat) (hx:x<18446744073709551616):aZ .and (.int .u64 (x:Int)) (.int .u64 1)=some (.int .u64 ((x%2:Nat):Int)):=by
 have h1:(BitVec.ofInt 64 (x:Int)).toNat=x:=by rw [Cf];omega
 have h2:(BitVec.ofInt 64 1).toNat=2^1-1:=by decide
 have h3:(BitVec.ofInt 64 (x:Int) &&& BitVec.ofInt 64 1).toNat=x%2:=by
  rw [KR,h1,h2,YZ]
 have h4:aZ .and (.int .u64 (x:Int)) (.int .u64 1)=some (.int .u64 (IntKind.u64.wrap ((BitVec.ofInt 64 (x:Int) &&& BitVec.ofInt 64 1).toNat:Int))):=by
  simp only [aZ,if_true];rfl
 rw [h4,h3,bG _ (by omega)]
def EM (x:Nat):aZ .shr (.int .u64 (x:Int)) (.int .u64 1)=some (.int .u64 ((x/2:Nat):Int)):=by
 have:(x:Int).fdiv (2^min 1 64)=((x/2:Nat):Int):=by simp [VD]
 rw [←this];simp only [aZ];rfl
def OC (a:Fq) (n:Nat) (hn:n<18446744073709551616):aC PQ G oI [.v (fu a),.v (.int .u64 (n:Int))] [] λr T'=>r=.v (fu (a^n))∧T'=[]:=by
 refine aF Ls (by decide) ?_;simp only [go_sem];refine aS (aA _) rfl (Xm a.val n) ?_;simp only [go_sem];refine Im rfl (rF vF) λr h1 h2 hy hyR=>?_;simp only [go_sem];refine yU [0,1,2,3] (aA _) (by decide) (λi hi=>by simp at hi ⊢;omega) rfl rfl (aF vF (by decide) ?_);simp only [go_sem];refine aB (aA _) rfl (V5 a) rfl ?_;simp only [go_sem];refine bU (λm s=>∃ out b:Fq,out*b^m=a^n∧m<18446744073709551616∧s=⟨4,[(0,.yl 3),(2,.ptr 2 0),(4,.v (fu b))],[some (.box [.v (fu out)]),some (.box [.v (fu a)]),some (.box [.v (.int .u64 (m:Int))]),some (.lp r [(5,.ptr 0 0)])]⟩) n ⟨1,a,aGm _,hn,?_⟩ ?_
 ·simp only [go_sem];rfl
 ·rintro m s ⟨out,b,hp,hm,rfl⟩;rcases Oh m with rfl | hpos
  ·have hd:decide (((0:Nat):Int)>0)=false:=by decide
   simp only [go_sem,hd,h1,h2,aEr];have:out=a^n:=by rw [←hp,G1,aCv]
   subst this;rfl
  ·have hd:decide ((m:Int)>0)=true:=by simpa using hpos
   have a1:=OB m hm;simp only [go_sem,hd,↓a1];refine hy _ _ _ _ _ rfl rfl ?_;simp only [go_sem];refine aM (λhb=>?_) (λhb=>?_)
   ·simp only [go_sem];refine aB (aA _) rfl (CP out b) rfl ?_;simp only [go_sem];refine aB (aA _) rfl (CP b b) rfl ?_;simp only [↓EM,go_sem];refine ⟨m/2,by omega,out*b,b*b,?_,by omega,rfl⟩;have h3:m%2=1:=by simp at hb;omega
    rw [←hp,Jx b m,h3,aDN,aGn,aDO b]
   ·simp only [go_sem];refine aB (aA _) rfl (CP b b) rfl ?_;simp only [↓EM,go_sem];refine ⟨m/2,by omega,out,b*b,?_,by omega,rfl⟩;have h3:m%2=0:=by simp at hb;omega
    rw [←hp,Jx b m,h3,G1,aCv]
def aDP (a:Fq):aC PQ G rH [.v (fu a)] [] λr T'=>r=.v (fu (inv a))∧T'=[]:=by
 refine aF Dc (by decide) ?_;unfold Db;simp only [go_sem];refine aB (aA _) rfl (OC a 2305843009213693949 (by decide)) rfl ?_;simp only [go_sem];rfl
end
end
section
def jW (x m:Nat) (h:m≠0):aZ .rem (.int .u64 (x:Int)) (.int .u64 (m:Int))=some (.int .u64 ((x%m:Nat):Int)):=by
 have:((m:Nat):Int)≠0:=by omega
 simp only [aZ,if_true,if_neg this];rw [Us (by omega)];rfl
def BI (x m:Nat) (h:m≠0) (hx:x<18446744073709551616):aZ .quo (.int .u64 (x:Int)) (.int .u64 (m:Int))=some (.int .u64 ((x/m:Nat):Int)):=by
 have:((m:Nat):Int)≠0:=by omega
 have h2:x/m<18446744073709551616:=Qh (Qm _ _) hx;simp only [aZ,if_true,if_neg this];rw [Int.tdiv_eq_ediv_of_nonneg (by omega),←Int.natCast_ediv,bG _ h2]
def EN (x:Nat):aZ .rem (.int .u64 (x:Int)) (.int .u64 2305843009213693951)=some (.int .u64 ((x%2305843009213693951:Nat):Int)):=jW x 2305843009213693951 (by decide)
def T5 (x:Nat):aZ .rem (.int .u64 (x:Int)) (.int .u64 4294967296)=some (.int .u64 ((x%4294967296:Nat):Int)):=jW x 4294967296 (by decide)
def T6 (x:Nat):aZ .rem (.int .u64 (x:Int)) (.int .u64 536870912)=some (.int .u64 ((x%536870912:Nat):Int)):=jW x 536870912 (by decide)
def Xn (x:Nat):aZ .rem (.int .u64 (x:Int)) (.int .u64 2)=some (.int .u64 ((x%2:Nat):Int)):=jW x 2 (by decide)
def T7 (x:Nat):aZ .rem (.int .u64 (x:Int)) (.int .u64 1152921504606846976)=some (.int .u64 ((x%1152921504606846976:Nat):Int)):=jW x 1152921504606846976 (by decide)
def L4 (x:Nat) (hx:x<18446744073709551616):aZ .quo (.int .u64 (x:Int)) (.int .u64 4294967296)=some (.int .u64 ((x/4294967296:Nat):Int)):=BI x 4294967296 (by decide) hx
def T8 (x:Nat) (hx:x<18446744073709551616):aZ .quo (.int .u64 (x:Int)) (.int .u64 536870912)=some (.int .u64 ((x/536870912:Nat):Int)):=BI x 536870912 (by decide) hx
def Xo (x:Nat) (hx:x<18446744073709551616):aZ .quo (.int .u64 (x:Int)) (.int .u64 2)=some (.int .u64 ((x/2:Nat):Int)):=BI x 2 (by decide) hx
def T9 (x:Nat) (h:x*4294967296<18446744073709551616):aZ .mul (.int .u64 (x:Int)) (.int .u64 4294967296)=some (.int .u64 ((x*4294967296:Nat):Int)):=jV x 4294967296 h
def Xp (x:Nat) (h:8*x<18446744073709551616):aZ .mul (.int .u64 8) (.int .u64 (x:Int))=some (.int .u64 ((8*x:Nat):Int)):=jV 8 x h
section
variable {G:Nat→Option (List AV)}
def aDQ (a b:Fq):aC PQ G EJ [.v (fu a),.v (fu b)] [] λr T'=>r=.v (fu (a+b))∧T'=[]:=by
 refine aF PM (by decide) ?_;have ha:=vY a;have hb:=vY b;have m1:a.val%2305843009213693951=a.val:=Ed ha;have m2:b.val%2305843009213693951=b.val:=Ed hb;have a1:=cW a.val b.val (by omega);simp only [↓EN,m1,m2,↓a1,go_sem];rfl
def aAb (x y:Nat) (l h m:Nat) (hl:l=x%4294967296*(y%4294967296)) (hm:m=x/4294967296*(y%4294967296)+x%4294967296*(y/4294967296)) (hh:h=x/4294967296*(y/4294967296)) :
  (l%2305843009213693951+m%536870912*4294967296+m/536870912+8*h)%2305843009213693951=x*y%2305843009213693951:=by
 rw [N2 x y,←hl,←hm,←hh];omega
def R1 (a b:Fq):aC PQ G wY [.v (fu a),.v (fu b)] [] λr T'=>r=.v (fu (a*b))∧T'=[]:=by
 refine aF PL (by decide) ?_;have ha:=vY a;have hb:=vY b;have e:(a*b).val=a.val*b.val%2305843009213693951:=rfl;unfold fu;rw [e];generalize a.val=x at *
 generalize b.val=y at *
 have m1:x%2305843009213693951=x:=Ed ha;have m2:y%2305843009213693951=y:=Ed hb;have bb:∀ a c A C:Nat,a≤A→c≤C→a*c≤A*C:=λa c A C ha hc=>ZB ha hc;have b1:=bb (x%4294967296) (y%4294967296) 4294967295 4294967295 (by omega) (by omega);have b2:=bb (x/4294967296) (y%4294967296) 536870911 4294967295 (by omega) (by omega);have b3:=bb (x%4294967296) (y/4294967296) 4294967295 536870911 (by omega) (by omega);have b4:=bb (x/4294967296) (y/4294967296) 536870911 536870911 (by omega) (by omega);have q1:=L4 x (by omega);have q2:=L4 y (by omega);have p1:=jV (x%4294967296) (y%4294967296) (by omega);have p2:=jV (x/4294967296) (y%4294967296) (by omega);have p3:=jV (x%4294967296) (y/4294967296) (by omega);have p4:=jV (x/4294967296) (y/4294967296) (by omega);have p5:=cW (x/4294967296*(y%4294967296)) (x%4294967296*(y/4294967296)) (by omega);have hmb:x/4294967296*(y%4294967296)+x%4294967296*(y/4294967296)≤4611686008763711490:=by omega
 have hf:=aAb x y _ _ _ rfl rfl rfl;generalize x%4294967296*(y%4294967296)=l at *
 generalize x/4294967296*(y%4294967296)+x%4294967296*(y/4294967296)=m at *
 generalize x/4294967296*(y/4294967296)=h at *
 have r1:=T9 (m%536870912) (by omega);have r2:=cW (l%2305843009213693951) (m%536870912*4294967296) (by omega);have r3:=T8 m (by omega);have r4:=cW (l%2305843009213693951+m%536870912*4294967296) (m/536870912) (by omega);have r5:=Xp h (by omega);have r6:=cW (l%2305843009213693951+m%536870912*4294967296+m/536870912) (8*h) (by omega);simp only [↓EN,m1,m2,↓T5,↓q1,↓q2,↓p1,↓p2,↓p3,↓p4,↓p5,↓T6,↓r1,↓r2,↓r3,↓r4,↓r5,↓r6,go_sem,hf]
def R2 (a:Fq) (n:Nat) (hn:n<18446744073709551616):aC PQ G tW [.v (fu a),.v (.int .u64 (n:Int))] [] λr T'=>r=.v (fu (a^n))∧T'=[]:=by
 refine aF PN (by decide) ?_;have m1:a.val%2305843009213693951=a.val:=Ed (vY a);simp only [↓EN,m1,go_sem];refine bU (λm s=>∃ out b:Fq,out*b^m=a^n∧m<18446744073709551616∧s=⟨0,[(5,.v (fu out)),(6,.v (fu b)),(7,.v (.int .u64 (m:Int)))],[]⟩) n ⟨1,a,aGm _,hn,?_⟩ ?_
 ·simp only [go_sem];rfl
 ·rintro m s ⟨out,b,hp,hm,rfl⟩;rcases Oh m with rfl | hpos
  ·have hd:decide (((0:Nat):Int)>0)=false:=by decide
   have:out=a^n:=by rw [←hp,G1,aCv]
   subst this;simp only [go_sem,hd]
  ·have hd:decide ((m:Int)>0)=true:=by simpa using hpos
   have a1:=Xn m;have a2:=Xo m hm;simp only [go_sem,hd,↓a1];refine aM (λhb=>?_) (λhb=>?_)
   ·have h3:m%2=1:=by simp at hb;omega
    simp only [go_sem];refine aB (aA _) rfl (R1 out b) rfl ?_;simp only [go_sem];refine aB (aA _) rfl (R1 b b) rfl ?_;simp only [go_sem,↓a2];refine ⟨m/2,by omega,out*b,b*b,?_,by omega,rfl⟩;rw [←hp,Jx b m,h3,aDN,aGn,aDO b]
   ·have h3:m%2=0:=by simp at hb;omega
    simp only [go_sem];refine aB (aA _) rfl (R1 b b) rfl ?_;simp only [go_sem,↓a2];refine ⟨m/2,by omega,out,b*b,?_,by omega,rfl⟩;rw [←hp,Jx b m,h3,G1,aCv]
end
end
section
@[go_sem] def shA (args:List AV) (T:aQ) (I:List Nat):List AV:=(List.range args.length).map λi=>aU (Am ⟨T.length,nP 0 args,T⟩ I).s i
@[go_sem] def shT (args:List AV) (T:aQ) (I:List Nat):aQ:=(Am ⟨T.length,nP 0 args,T⟩ I).T
section
variable {P:Program} {G:Nat→Option (List AV)} {f:FuncId} {args args':List AV} {T:aQ}
def aC.ofCall {K:AV→aQ→Prop} (hc:@sB P G f args T ⟨K⟩):aC P G f args T K:=λ_ _ _ _ hG hI hA=>GW hc hG hI hA
def aC.sh (I:List Nat) {args2:List AV} {T2:aQ} {post:AV→aQ→Prop} (hA:shA args T I=args2) (hT:shT args T I=T2) (hc:aC P G f args2 T2 post):aC P G f args T post:=by
 intro h φ w vals hG hI hR;have hS0:SInv P G 0 h φ T w ⟨T.length,nP 0 args,T⟩ ⟨vals,[]⟩ w:=by
  refine ⟨rfl,(Hk 0 args).1,⟨h,φ,hG,Evo.refl,hI,?_⟩,by simp,by simp [Ei]⟩;have:=O6 (h:=h) (φ:=φ) (n:=T.length) 0 args [] vals.toList [] rfl hR;simpa only [FQ,kT,U0] using this
 have hN:∀ (l:List Nat) (st:St),SInv P G 0 h φ T w st ⟨vals,[]⟩ w→SInv P G 0 h φ T w (Am st l) ⟨vals,[]⟩ w:=by
  intro l
  induction l with
  | nil=>intro st h;exact h
  | cons i r ih=>intro st h;exact ih _ (h.shutI i)
 obtain ⟨_,_,⟨h2,φ2,g1,g2,g3,g4⟩,_,_⟩:=hN I _ hS0;have hT':(Am ⟨T.length,nP 0 args,T⟩ I).T=T2:=hT;rw [hT'] at g2 g3 g4;have hR2:bW h2 φ2 T2.length args2 vals.toList:=by
  have hl:=hR.length;refine bW.mk (by rw [←hA];simp [shA,hl]) λi c u hc hu=>?_;rw [←hA] at hc;have hi:i<args.length:=by
   rcases bY i args.length with h | h
   ·exact h
   ·rw [hl] at h;rw [gV h] at hu;cases hu
  simp only [shA,eD,Yv hi,kZ,Option.some.injEq] at hc;have:=g4 i;rw [hc] at this;have hu2:vals.getD i undef=u:=by
   rw [KF];rw [Array.getElem?_toList] at hu;rw [hu];rfl
  rw [hu2] at this;exact this
 have key:∀ {v w'},Ce h2 φ2 T2 w post v w'→Ce h φ T w post v w':=λ⟨r,T',h',φ',e1,e2,e3,e4⟩=>⟨r,T',h',φ',e1,g2.trans e2,e3,e4⟩
 rcases hc h2 φ2 w vals g1 g3 hR2 with ⟨a,b⟩ | ⟨v,w',a,b⟩
 ·exact .inl ⟨a,b.mono λe w' ⟨v,e1,e2⟩=>⟨v,e1,key e2⟩⟩
 ·exact .inr ⟨v,w',a,key b⟩
def V6 (L:List Nat) {args2 args3:List AV} {T2 T3:aQ} {R:AV} {K:AV→aQ→Prop} (I:List Nat) (hs:CX args args') (hn:L.Nodup) (hL:∀ i∈L,i<T.length) (ha:Al L args'=args2) (hT:Ef L T=T2)
  (h3:shA args2 T2 I=args3) (h4:shT args2 T2 I=T3) (hi:iI args3=[]) (hc:aC P G f args3 [] λr T'=>r=R∧T'=[]) (hR:iB R=[]) (hk:K R (Ic L T.length T L T3)):@sB P G f args T ⟨K⟩ :=
 aI L (post:=λr T'=>r=R∧T'=T3) hs hn hL ha hT (aC.sh I h3 h4 (aC.ofCall (aB (aA _) hi hc hR ⟨rfl,rfl⟩))) λr T' ⟨h1,h2⟩=>by
  subst h1;subst h2;rw [Zu hR];exact hk
end
end
section
@[go_sem] def aIk:IntKind.i64.wrap 0=0:=by decide
@[go_sem] def aIl:IntKind.u64.wrap 0=0:=by decide
@[go_sem] def aIm:IntKind.i64.wrap 1=1:=by decide
@[go_sem] def aIn:IntKind.u64.wrap 1=1:=by decide
@[go_sem] def aIo:IntKind.i64.wrap 2=2:=by decide
@[go_sem] def aIp:IntKind.u64.wrap 2=2:=by decide
@[go_sem] def aIq:IntKind.i64.wrap 3=3:=by decide
@[go_sem] def aIr:IntKind.u64.wrap 3=3:=by decide
@[go_sem] def aIs:IntKind.i64.wrap 4=4:=by decide
@[go_sem] def aIt:IntKind.u64.wrap 4=4:=by decide
@[go_sem] def aIu:IntKind.i64.wrap 5=5:=by decide
@[go_sem] def aIv:IntKind.u64.wrap 5=5:=by decide
@[go_sem] def aIw:IntKind.i64.wrap 6=6:=by decide
@[go_sem] def aIx:IntKind.u64.wrap 6=6:=by decide
@[go_sem] def aIy:IntKind.i64.wrap 7=7:=by decide
@[go_sem] def aIz:IntKind.u64.wrap 7=7:=by decide
@[go_sem] def aIA:IntKind.i64.wrap 8=8:=by decide
@[go_sem] def aIB:IntKind.u64.wrap 8=8:=by decide
@[go_sem] def aGo:IntKind.i64.wrap 16=16:=by decide
@[go_sem] def aGp:IntKind.u64.wrap 16=16:=by decide
@[go_sem] def aGq:IntKind.i64.wrap 24=24:=by decide
@[go_sem] def aGr:IntKind.u64.wrap 24=24:=by decide
@[go_sem] def aGs:IntKind.i64.wrap 32=32:=by decide
@[go_sem] def aGt:IntKind.u64.wrap 32=32:=by decide
@[go_sem] def aGu:IntKind.i64.wrap 64=64:=by decide
@[go_sem] def aGv:IntKind.u64.wrap 64=64:=by decide
def rT (s w:Fq) (k:Nat):Fq:=(37*s+(w+Fin.ofNat PP k))^17
def OD (n:Nat) (h:n<PP):((Fin.ofNat PP n:Fq)).val=n:=Ed h
def V7 (w:Fq) (k:Nat) (h:k<PP):(w.val+k)%FP=(w+Fin.ofNat PP k).val:=by
 rw [Fin.val_add,OD k h];rfl
def eW:Fq:=⟨1835363429,by decide⟩
section
variable {G:Nat→Option (List AV)}
set_option maxHeartbeats 2000000
def IB (s w:Fq) (k:Nat) (hk:k<1000):aC PQ G gF [.ptr 0 0,.own 1] [some (.box [.v (fu s),.v (.int .u64 (k:Int))]),some (.arr 1 [[.v (fu w)]])] λr T' =>
  T'=[some (.box [.v (fu (rT s w (k+1))),.v (.int .u64 ((k+1:Nat):Int))]),some (.arr 1 [[.v (fu w)]])]:=by
 refine aF vD (by decide) ?_;have hw:=vY w;have a1:=cW k 1 (by omega);have a2:=cW w.val (k+1) (by omega);have e:=V7 w (k+1) (by show _<2305843009213693951;omega);simp only [Zs] at a1;have a3:IntKind.u64.wrap (((w.val:Nat):Int)+((k+1:Nat):Int))=((w.val+(k+1):Nat):Int):=by rw [←Y9,bG _ (by omega)]
 simp only [go_sem];refine aO 1 (λi=>⟨2,[(0,.ptr 0 0),(6,.own 1),(7,.v (.int .i64 1)),(8,.v (.int .i64 i))],[some (.box [.v (fu (if i=0 then s else rT s w (k+1))),.v (.int .u64 ((k+i:Nat):Int))]),some (.arr 1 [[.v (fu w)]])]⟩) (λ_=>True) ?_ trivial ?_ ?_
 ·simp only [go_sem]
 ·intro i hi _;obtain rfl:i=0:=by omega
  simp only [go_sem,↓a1,↓a2,a3];refine aB (aA _) rfl (CP 37 s) rfl ?_;simp only [go_sem,a3];refine aB (aA _) rfl (yA G (w.val+(k+1)) (by omega)) rfl ?_;simp only [go_sem,e];refine aB (aA _) rfl (aAa (37*s) (w+Fin.ofNat PP (k+1))) rfl ?_;simp only [go_sem];refine aB (aA _) rfl (OC _ 17 (by decide)) rfl ?_;simp only [go_sem,rT]
 ·intro _;simp only [go_sem]
def Pg (es:List (List AV)):aC PQ G wH [.ls 1 es] [] λr T'=>r=.cl kC [.ptr 0 0]∧T'=[some (.box [.ls 1 es])]:=by
 refine aF JR (by decide) ?_;simp only [go_sem]
def Ph (es:List (List AV)):aC PQ G kO [.ls 1 es,.v (.int .i64 7)] [] λr T'=>r=.cl jJ [.ptr 0 0,.ptr 1 0]∧T'=[some (.box [.ls 1 es]),some (.box [.v (.int .i64 7)])]:=by
 refine aF vS (by decide) ?_;simp only [go_sem]
def BJ:Fq→Nat→List Fq→Fq
 | s,_,[]=>s
 | s,k,w::l=>BJ (rT s w (k+1)) (k+1) l
def aAc (l:List Nat):Fq:=BJ 4 0 ([eW,Fin.ofNat PP l.length]++l.map (Fin.ofNat PP)++[0])
abbrev eB:List (List AV):=[[.v (.int .u8 101)],[.v (.int .u8 108)],[.v (.int .u8 101)],[.v (.int .u8 109)]]
def aGw:jH (bs [101,108,101,109])=eB:=by rfl
def aGx:(bs [101,108,101,109]).size=4:=by rfl
def aGy:(4:Nat)≤maxLen:=by decide
def UA:Nat→Int
 | 0=>0
 | 1=>101
 | 2=>27749
 | 3=>6646885
 | _=>1835363429
def hI (n1 n2 n3:Nat):Nat→Fq
 | 0=>rT (rT 4 eW 1) (Fin.ofNat PP 3) 2
 | 1=>rT (rT (rT 4 eW 1) (Fin.ofNat PP 3) 2) (Fin.ofNat PP n1) 3
 | 2=>rT (rT (rT (rT 4 eW 1) (Fin.ofNat PP 3) 2) (Fin.ofNat PP n1) 3) (Fin.ofNat PP n2) 4
 | _=>rT (rT (rT (rT (rT 4 eW 1) (Fin.ofNat PP 3) 2) (Fin.ofNat PP n1) 3) (Fin.ofNat PP n2) 4) (Fin.ofNat PP n3) 5
def aJ8 (n1 n2 n3:Nat) (h1:n1<18446744073709551616) (h2:n2<18446744073709551616) (h3:n3<18446744073709551616):aC PQ G wW [.v (.string (bs [101,108,101,109])),.ls 1 [[.v (.int .u64 (n1:Int))],[.v (.int .u64 (n2:Int))],[.v (.int .u64 (n3:Int))]]] [] λr T' =>
  r=.v (fu (aAc [n1,n2,n3]))∧T'=[]:=by
 refine aF Gy (by decide) ?_;simp only [go_sem,aGw,aGx,aGy];refine aS (aA _) rfl (Pg _) ?_;simp only [go_sem];refine Im rfl (rF iW) λr k1 k2 hy hyR=>?_;simp only [go_sem];refine yU [0,1,2] (aA _) (by decide) (λi hi=>by simp at hi ⊢;omega) rfl rfl (aF iW (by decide) ?_);simp only [go_sem];refine aS (aA _) rfl (Ph _) ?_;simp only [go_sem];refine Im rfl (rF bZ) λr2 q1 q2 hz hzR=>?_;simp only [go_sem];refine yU [0,1,2,3,4,5,6] (aA _) (by decide) (λi hi=>by simp at hi ⊢;omega) rfl rfl (aF bZ (by decide) ?_);simp only [go_sem]
 refine bU (λn s=>(n=1∧s=⟨7,[(0,.yl 6),(1,.ptr 4 0),(2,.ptr 5 0),(4,.v (.int .i64 0))],[some (.box [.v (fu 4),.v (.int .u64 0)]),some (.box [.ls 1 eB]),some (.lp r [(5,.ptr 0 0)]),some (.box [.yl 2]),some (.box [.ls 1 eB]),some (.box [.v (.int .i64 7)]),some (.lp r2 [(2,.ptr 3 0)])]⟩) ∨
  (n=0∧s=⟨7,[(0,.yl 6),(1,.ptr 4 0),(2,.ptr 5 0),(4,.v (.int .i64 7))],[some (.box [.v (fu (rT 4 eW 1)),.v (.int .u64 ((1:Nat):Int))]),some (.box [.ls 1 eB]),some (.lp r [(5,.ptr 0 0)]),some (.box [.yl 2]),some (.box [.ls 1 eB]),some (.box [.v (.int .i64 7)]),some (.lp r2 [(2,.ptr 3 0)])]⟩)) 1 (.inl ⟨rfl,?_⟩) ?_
 ·simp only [go_sem];rfl
 rintro n s (⟨rfl,rfl⟩ | ⟨rfl,rfl⟩)
 ·simp only [go_sem];refine hz _ _ _ _ _ rfl rfl ?_;simp only [go_sem];refine bU (λn s=>∃ j,j≤4∧n=4-j∧s=⟨7,[(2,.ptr 3 0),(4,.v (.int .u64 (UA j))),(10,.ls 1 eB),(11,.v (.int .i64 4)),(12,.v (.int .i64 j))],[some (.box [.v (fu 4),.v (.int .u64 0)]),some (.box [.ls 1 eB]),some (.lp r [(5,.ptr 0 0)]),some (.box [.yl 2]),some (.box [.ls 1 eB]),some (.box [.v (.int .i64 7)]),none]⟩) 4 ⟨0,by decide,rfl,?_⟩ ?_
  ·simp only [go_sem,UA]
  rintro n s ⟨j,hj,rfl,rfl⟩;have hj':j=0∨j=1∨j=2∨j=3∨j=4:=by omega
  have s1:aZ .shl (.int .u64 101) (.int .i64 0)=some (.int .u64 101):=by rfl
  have s2:aZ .shl (.int .u64 108) (.int .i64 8)=some (.int .u64 27648):=by rfl
  have s3:aZ .shl (.int .u64 101) (.int .i64 16)=some (.int .u64 6619136):=by rfl
  have s4:aZ .shl (.int .u64 109) (.int .i64 24)=some (.int .u64 1828716544):=by rfl
  have o1:aZ .or (.int .u64 0) (.int .u64 101)=some (.int .u64 101):=by rfl
  have o2:aZ .or (.int .u64 101) (.int .u64 27648)=some (.int .u64 27749):=by rfl
  have o3:aZ .or (.int .u64 27749) (.int .u64 6619136)=some (.int .u64 6646885):=by rfl
  have o4:aZ .or (.int .u64 6646885) (.int .u64 1828716544)=some (.int .u64 1835363429):=by rfl
  have c1:IntKind.u64.wrap 101=101:=by decide
  have c2:IntKind.u64.wrap 108=108:=by decide
  have c3:IntKind.u64.wrap 109=109:=by decide
  rcases hj' with rfl | rfl | rfl | rfl | rfl
  ·simp only [go_sem,UA,c1,↓s1,↓o1];exact ⟨_,by decide,1,by decide,rfl,rfl⟩
  ·simp only [go_sem,UA,c2,↓s2,↓o2];exact ⟨_,by decide,2,by decide,rfl,rfl⟩
  ·simp only [go_sem,UA,c1,↓s3,↓o3];exact ⟨_,by decide,3,by decide,rfl,rfl⟩
  ·simp only [go_sem,UA,c3,↓s4,↓o4];exact ⟨_,by decide,4,by decide,rfl,rfl⟩
  ·simp only [go_sem,UA];refine hy _ _ _ _ _ rfl rfl ?_;simp only [go_sem];refine aI [0,7] (aA _) (by decide) (by simp) rfl rfl (IB 4 eW 0 (by decide)) ?_;rintro r' T' hT;subst hT;simp only [go_sem];exact ⟨0,by decide,.inr rfl⟩
 ·simp only [go_sem,q1,q2,k1,k2];refine aI [0,3] (aA _) (by decide) (by simp) rfl rfl (IB (rT 4 eW 1) (Fin.ofNat PP 3) 1 (by decide)) ?_;rintro r' T' hT;subst hT;simp only [go_sem];have e0:hI n1 n2 n3 1=rT (hI n1 n2 n3 0) (Fin.ofNat PP n1) 3:=rfl;have e1:hI n1 n2 n3 2=rT (hI n1 n2 n3 1) (Fin.ofNat PP n2) 4:=rfl;have e2:hI n1 n2 n3 3=rT (hI n1 n2 n3 2) (Fin.ofNat PP n3) 5:=rfl;refine aO 3 (λi=>⟨0,[(4,.v (.int .u64 0)),(5,.ptr 0 0),(15,.cl kC [.ptr 1 0]),(25,.ls 1 [[.v (.int .u64 (n1:Int))],[.v (.int .u64 (n2:Int))],[.v (.int .u64 (n3:Int))]]),(26,.v (.int .i64 3)),(27,.v (.int .i64 i))],[some (.box [.v (fu (hI n1 n2 n3 i)),.v (.int .u64 ((2+i:Nat):Int))]),some (.box [.ls 1 eB])]⟩) (λ_=>True) ?_ trivial ?_ ?_
  ·simp only [go_sem];rfl
  ·intro i hi _;have hi':i=0∨i=1∨i=2:=by omega
   rcases hi' with rfl | rfl | rfl
   ·simp only [go_sem];refine aB (aA _) rfl (yA G n1 h1) rfl ?_;simp only [go_sem];refine aI [0,2] (aA _) (by decide) (by simp) rfl rfl (IB (hI n1 n2 n3 0) (Fin.ofNat PP n1) 2 (by decide)) ?_;rintro r' T' hT;subst hT;simp only [go_sem,←e0,←e1,←e2]
   ·simp only [go_sem];refine aB (aA _) rfl (yA G n2 h2) rfl ?_;simp only [go_sem];refine aI [0,2] (aA _) (by decide) (by simp) rfl rfl (IB (hI n1 n2 n3 1) (Fin.ofNat PP n2) 3 (by decide)) ?_;rintro r' T' hT;subst hT;simp only [go_sem,←e0,←e1,←e2]
   ·simp only [go_sem];refine aB (aA _) rfl (yA G n3 h3) rfl ?_;simp only [go_sem];refine aI [0,2] (aA _) (by decide) (by simp) rfl rfl (IB (hI n1 n2 n3 2) (Fin.ofNat PP n3) 4 (by decide)) ?_;rintro r' T' hT;subst hT;simp only [go_sem,←e0,←e1,←e2]
  ·intro _;simp only [go_sem];refine aI [0,2] (aA _) (by decide) (by simp) rfl rfl (IB (hI n1 n2 n3 3) 0 5 (by decide)) ?_;rintro r' T' hT;subst hT;simp only [go_sem];rfl
end
end
end Hud
