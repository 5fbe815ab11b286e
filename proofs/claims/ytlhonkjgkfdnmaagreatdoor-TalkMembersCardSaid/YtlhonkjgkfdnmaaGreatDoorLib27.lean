import Derived.Test.YtlhonkjgkfdnmaaGreatDoorLib21
import Derived.WalkKit
import Derived.WalkSpells
import Derived.Deep.RegionLaw
import Derived.Lib.SlicesDelete
import Derived.Lib.SliceRun
import Derived.Shelf.RegionOpenPlain
set_option linter.all false
set_option maxHeartbeats 40000000
namespace Hud
open Go Go.Proofs Go.Sort Go.Shelf Go.RowKit Go.Lib
abbrev zId:List Value:=[.int .i64 0,.int .i64 0,.int .u64 0]
def Ze:(Tryz.prog.info? 41).map (λi=>(i.zero,i.size,i.bytes))=some (some (.agg #[.int .i64 0,.int .i64 0,.int .u64 0]),3,24):=k_
def aEH:Tryz.prog.underlying 25=some (.slice 41):=k_
def aIL(w:World)(ty:TypeId)(b o c:Nat)(k:∀j,j<3->(w.cell? ⟨b,o+j,none⟩).isSome=true)(i:∀j,j<3->w.frozen? ⟨b,o+j,none⟩=false):
 (Builtin.clear_ #[25] ty #[.slice (some ⟨b,o,none⟩) 1 c]).run Tryz.prog w=.ok (.tuple #[]) (w.setCells b o zId):=by
 obtain⟨i0,h,g,f,e⟩:=info_parts Ze;have nG:=run_storeCells_cells (P:=Tryz.prog) b o zId 0 w kj (by simpa using i) (by intro v a;simp only[zId,cS,pP,or_false]at a;rcases a with rfl|rfl|rfl<;>rfl);simp only[mG]at nG;have d:(Builtin.zeroCells #[Value.int .i64 0,.int .i64 0,.int .u64 0] 1).toList=zId:=by simp[Builtin.zeroCells,zId];rfl
 simp_all[Builtin.clear_,Value.cells]
set_option maxRecDepth 1000000 in
def aEI (F:Array Value) (kI b n i:Nat) (w:World) (Y:F.size=n*3) (l:∀v∈F.toList,v.oneCell'=true) (p:Holds id w kI 0 F) (C:n<=b) (W:b<=2^63-1) (X:i<n):
 Calls Tryz.prog 156 #[.slice (some ⟨kI,0,none⟩) n b,.int .i64 i,.int .i64 (i+1:Nat)] w λe E=>e=.returned (.slice (some ⟨kI,0,none⟩) (n-1) b)/\E=(w.drew.setCells kI (i*3) (F.toList.drop ((i+1)*3))).setCells kI ((n-1)*3) zId:=by
 obtain⟨i0,y,K,x,J⟩:=info_parts Ze;obtain⟨a,c⟩:∃a,a=F.toList.drop ((i+1)*3):=⟨_,rfl⟩
 have m:a.length=(n-(i+1))*3:=b_;obtain⟨A,Z,k⟩:∃A:Addr,(if b=i+1 then some (⟨kI,0,none⟩:Addr) else some ⟨kI,(i+1)*3,none⟩)=some A/\Hid (∀t u,a[t]?=some u->w.drew.cell? (A.add t)=some u):=by
  by_cases h:b=i+1;refine⟨⟨kI,0,none⟩,by simp[h],λt u d=>?_⟩;simp_all;refine⟨⟨kI,(i+1)*3,none⟩,by simp[h],λt u d=>?_⟩;have B:t<a.length:=(sV.1 d).1;rw[c,Hw,Array.getElem?_toList]at d;have g:(i+1)*3+t<F.size:=o_;rw[Addr.add_lit];have z:=(p ((i+1)*3+t) g).1;simp_all
 have I:Hid (a.length=(n-(i+1))*3):=m;have H:Hid (∀u∈a,u.oneCell'=true):=λu d=>l u (by rw[c]at d;exact QG d);have G:Hid (∀t,t<a.length->(w.drew.cell? ⟨kI,0+i*3+t,none⟩).isSome=true/\w.drew.frozen? ⟨kI,0+i*3+t,none⟩=false):=by
  intro t B;have g:i*3+t<F.size:=o_;have z:=p (i*3+t) g;simp_all
 obtain⟨f,o⟩:∃f,f=w.drew.setCells kI (i*3) a:=⟨_,rfl⟩
 have T:∀r,(Builtin.clear_ #[25] r #[.slice (some ⟨kI,(i+(n-(i+1)))*3,none⟩) (n-(i+(n-(i+1)))) (b-(i+(n-(i+1))))]).run Tryz.prog f=.ok (.tuple #[]) (f.setCells kI ((n-1)*3) zId):=λr=>by
  rw[(o_:i+(n-(i+1))=n-1),(o_:n-(n-1)=1)];have g:∀j,j<3->(n-1)*3+j<F.size:=λj q=>o_;have z:=λj q=>p ((n-1)*3+j) (g j q);simp only[pQ]at z;refine aIL f r kI _ _ (λj q=>?_) λj q=>?_;rw[o];have V:∀t,t<a.length->(w.drew.cell? ⟨kI,i*3+t,none⟩).isSome=true:=λt B=>by have h8:=(p (i*3+t) o_).1;simp_all
  by_cases R:(n-1)*3+j<i*3+a.length;omega;rw[World.cell?_setCells_out kI a (i*3) w.drew _ (λ_ _=>.inr (by show i*3+a.length<=(n-1)*3+j;omega))];simp_all;simp_all[World.frozen?_setCells]
 have D:Hid (f=w.drew.setCells kI (0+i*3) a):=h_;have U:Hid (a=F.toList.drop ((i+1)*3)):=c;have S:i<=b:=o_;have Q:i+1<=b:=o_;have P:i+1<=n:=o_;have O:¬i=i+1:=o_;have N:(0:Int)<=(i:Int)+1:=o_;have M:(i:Int)+1<=(n:Int):=o_;have L:((i:Int)+1).toNat=i+1:=o_;have s:Tryz.prog.follows Departure.mixedOrders=true:=k_;clear p o c;go_enter Tryz.func156,Tryz.ntmps156;go_wp2_with fail;go_region_law_o (refine step_append_room rfl (.tmp 22) (.tmp 25) 25 rfl 41 i0 3 aEH y x kI 0 i b (by simp[Act.eval,Act.put]) A (n-(i+1)) (b-(i+1)) a (by simp[Act.eval,Act.put]) I.out k.out H.out o_ G.out ?_;rw[<-D.out]);go_wp2;go_ret;have h1:=D.out;rw[pQ,U.out]at h1;simp_all;omega
section
variable{h:GH}{φ:Nat->Value}{w:World}{T:aK}
def TC:∀(M:D_),∀v∈M.flatMap Id.K,v.oneCell'=true:=by intro M v b;obtain⟨x,_,a⟩:=H7.1 b;simp only[Id.K,cS,pP,or_false]at a;rcases a with rfl|rfl|rfl<;>rfl
def aGm(M:D_):(M.flatMap Id.K).length=M.length*3:=MF (enc:=Id.K) (k:=3) (λ_=>rfl) M
def Vd(M:D_):(M.map Id.A).flatten=(M.flatMap Id.K).map .v:=HZ Id.K M
def aEJ(L:D_):∀d∈L.map Id.A,d.length=3/\∀c∈d,aX c=true:=by intro d b;obtain⟨x,_,rfl⟩:=dF.1 b;refine⟨rfl,λc a=>?_⟩;simp only[Id.A,cS,pP,or_false]at a;rcases a with rfl|rfl|rfl<;>rfl
def Zf(hI:Inv h φ w T){k g c o:Nat}{L M:D_}{a:Array Value}{E:TypeId}(B:T[k]?=some (some (.arr 3 (L.map Id.A))))(m:φ k=.slice (some ⟨g,0,none⟩) L.length (c+1))(l:w.heap[g]?=some (.cells a E (0,0)))(H:L.length<=c+1)(G:c+1<=maxLen)(y:a.size=(c+1)*3)(D:h g=none)
 (z:cK h (L.map Id.A).flatten (a.toList.take (L.length*3))) (I:o+M.length<=L.length):
 (Inv h φ (w.setCells g (o*3) (M.flatMap Id.K)) (T.set k (some (.arr 3 ((L.take o++M++L.drop (o+M.length)).map Id.A))))/\Evo h φ T w h φ (T.set k (some (.arr 3 ((L.take o++M++L.drop (o+M.length)).map Id.A)))) (w.setCells g (o*3) (M.flatMap Id.K))) /\
  ∃f,(w.setCells g (o*3) (M.flatMap Id.K)).heap[g]?=some (.cells f E (0,0))/\f.size=(c+1)*3/\cK h ((L.take o++M++L.drop (o+M.length)).map Id.A).flatten (f.toList.take ((L.take o++M++L.drop (o+M.length)).length*3)):=by
 have s:=aGm M;have t:o*3+(M.flatMap Id.K).length<=a.size:=by rw[s,y];omega
 have x:=run_storeCells_at Tryz.prog g (o*3) E (M.flatMap Id.K) 0 a w l I_ (TC M);have u:=run_storeCells_cells (P:=Tryz.prog) g (o*3) (M.flatMap Id.K) 0 w (λj C=>by rw[(Iu l).1,Ri o_];rfl) (λj C=>(Iu (o:=o*3+0+j) l).2) (TC M);simp only[mG]at x u;have e:w.setCells g (o*3) (M.flatMap Id.K)=w.setRow g (a.toList.take (o*3)++M.flatMap Id.K++a.toList.drop (o*3+(M.flatMap Id.K).length)).toArray:=by have:=u.symm.trans x;injection this
 rw[e];have b:(L.take o++M++L.drop (o+M.length)).length=L.length:=ku;have r:a.toList.length=(c+1)*3:=by rw[GV,y]
 have q:∀d∈L.map Id.A,d.length=3:=λd F=>(aEJ L d F).1;have i:((L.take o++M++L.drop (o+M.length)).map Id.A).flatten=(L.map Id.A).flatten.take (o*3)++(M.flatMap Id.K).map .v++(L.map Id.A).flatten.drop (o*3+M.length*3):=by rw[bZ,bZ,Kf,Kf,Vd M,QN,aC0,Fz q,Fy q,aFc]
 have p:cK h ((L.take o++M++L.drop (o+M.length)).map Id.A).flatten ((a.toList.take (o*3)++M.flatMap Id.K++a.toList.drop (o*3+(M.flatMap Id.K).length)).take (L.length*3)):=by rw[i,s,Mz a.toList (M.flatMap Id.K) (o*3) (M.length*3) (L.length*3) o_ o_ s];exact((z.take _).app (Ru h _)).app (z.drop _)
 have n:(a.toList.take (o*3)++M.flatMap Id.K++a.toList.drop (o*3+(M.flatMap Id.K).length)).toArray.size=(c+1)*3:=by rw[Gn];simp only[dZ,eC,vY,r];omega
 refine⟨Lt hI B l (by rw[m];rfl) ⟨aEJ _,.inr ⟨g,c,_,E,by rw[aP,b];exact m,setRow_heap w g a _ E _ l,by rw[aP,b];exact H,G,n,D,by rw[aP,b];exact p⟩⟩,_,setRow_heap w g a _ E _ l,n,by rw[b];exact p⟩
def aIM(L:D_)(n i:Nat):D_ :=
 let M:=(L.take n).drop (i+1)
 let a:=L.take i++M++L.drop (i+M.length)
 a.take (n-1)++[⟨0,0,0⟩]++a.drop (n-1+([⟨0,0,0⟩]:D_).length)
def aBp{G:L_}{k n i:Nat}{L:D_}{sl:AV}(F:T[k]?=some (some (.arr 3 (L.map Id.A))))(hn:n<=L.length)(ad:sl=.vw k 3 0 n\/(sl=.own k/\n=L.length))(hi:i<n):
 aA PQ G fR [sl,iv i,iv (i+1:Nat)] T λr T'=>r=.vw k 3 0 (n-1)/\T'=T.set k (some (.arr 3 ((aIM L n i).map Id.A))):=by
 intro h z w m hG hI S;refine .inl ⟨Go.Proofs.enters_of Tryz.func156 k_ rfl _ _,?_⟩;simp only[cC]at S;obtain⟨u0,ab,ac,ae,u1,aa,rfl,y,u2,Z,rfl,x,rfl⟩:=S;simp only[Rp]at y x;subst y x;obtain rfl:m=#[u0,.int .i64 i,.int .i64 (i+1:Nat)]:=m_;have q:k<T.length:=(sV.1 F).1;obtain⟨hc,f⟩:=hI.obj k _ F;rw[aP]at f;rcases f with⟨A0,D,P⟩|⟨g,c,a,E,D,C,B,V,e4,U,J⟩
 simp_all;have hu:∃d,u0=.slice (some ⟨g,0,none⟩) n d/\n<=d/\d<=maxLen:=by grind[Rp,Value.slice.injEq]
 obtain⟨d,rfl,u,p⟩:=hu;have Q:n*3<=a.toList.length:=b_;have j:a.toList.take (L.length*3)=L.flatMap Id.K:=by rw[Vd]at J;exact SV J
 have s:a.toList.take (n*3)=(L.take n).flatMap Id.K:=by
  have h1:(a.toList.take (L.length*3)).take (n*3)=a.toList.take (n*3):=m_;rw[<-h1,j];have:=MF (enc:=Id.K) (k:=3) (λ_=>rfl) (L.take n)
  conv=>lhs;rw[<-LC n L]
  grind
 have R:(a.toList.take (n*3)).toArray.size=n*3:=m_;refine(aEI (a.toList.take (n*3)).toArray g d n i w R (λv O=>by rw[s]at O;exact TC _ v (by simpa using O)) ?_ u (by unfold maxLen at p;omega) hi).mono ?_;intro t ht;rw[R]at ht;obtain⟨c1,c2⟩:=Iu (o:=0+t) C;grind;rintro e w' ⟨rfl,rfl⟩;have hd:(a.toList.take (n*3)).toArray.toList.drop ((i+1)*3)=((L.take n).drop (i+1)).flatMap Id.K:=by
  show(a.toList.take (n*3)).drop ((i+1)*3)=_;rw[s]
  conv=>lhs;rw[<-LC (i+1) (L.take n)]
  have:=MF (enc:=Id.K) (k:=3) (λ_=>rfl) ((L.take n).take (i+1));rw[List.flatMap_append,aGG (by rw[this,eC,eC];omega),LB (by rw[this,eC,eC];omega),dM]
 rw[hd];have I:Inv h z w.drew T:=⟨hI.gh,hI.obj,hI.dis⟩
 have H:((L.take n).drop (i+1)).length=n-(i+1):=by rw[vY,eC];omega
 obtain⟨⟨i1,v1⟩,W,w1,X,p1⟩:=Zf I (M:=(L.take n).drop (i+1)) (o:=i) F D C B V e4 U J (by rw[H];omega);have l:(L.take i++(L.take n).drop (i+1)++L.drop (i+((L.take n).drop (i+1)).length)).length=L.length:=ku;obtain⟨⟨N,v2⟩,_⟩:=Zf i1 (M:=[⟨0,0,0⟩]) (o:=n-1) (by rw[List.getElem?_set_self q]) (by rw[l];exact D) w1 (by rw[l];exact B) V X U p1 (by rw[l];simp;omega);rw[List.set_set]at N v2;have Y:Evo h z T w h z T w.drew:=⟨rfl,rfl,rfl,cN _,λ_ _ _=>rfl,CA.refl _,λb cs e=>.inl e,λ_ _=>rfl,λi o b C B=>.inr ⟨i,o,C,B⟩,cN _,Kl _⟩
 refine⟨_,rfl,.vw k 3 0 (n-1),_,h,z,⟨rfl,rfl⟩,(Y.trans v1).trans v2,N,?_⟩;simp only[Rp,cL];refine⟨q,some ⟨g,0,none⟩,d,rfl,o_,p,.inr ⟨g,_,_,D,by rw[Nat.zero_mul],o_⟩⟩
def RX{G:L_}{k n i:Nat}{L:D_}{sl:AV}(g:T[k]?=some (some (.arr 3 (L.map Id.A))))(f:n<=L.length)(b:sl=.vw k 3 0 n\/(sl=.own k/\n=L.length))(h:i<n):
 aA PQ G fR [sl,iv i,iv (i+1:Nat)] T λr e=>∃d:D_,d.length=L.length/\d.take (n-1)=(L.take n).eraseIdx i/\r=.vw k 3 0 (n-1)/\e=T.set k (some (.arr 3 (d.map Id.A))):=by
 refine(aBp g f b h).mono λr e ⟨h1,h2⟩=>⟨_,?_,?_,h1,h2⟩
 simp only[aIM,dZ,eC,vY,sE,gQ];omega;have a:((L.take n).drop (i+1)).length=n-(i+1):=by rw[vY,eC];omega
 have c:(L.take i++(L.take n).drop (i+1)++L.drop (i+((L.take n).drop (i+1)).length)).length=L.length:=ku;unfold aIM;dsimp only;rw[eB,Rf (by rw[eC,c];omega),Mj,Nat.min_self,List.eraseIdx_eq_take_drop_succ,Mj,Kj o_,Rf (by rw[dZ,eC,a];omega),sG (by rw[dZ,eC,a];omega)]
end
end Hud
