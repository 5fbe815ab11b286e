import Derived.Test.YtlhonkjgkfdnmaaGreatDoorLib20
import Derived.Test.YtlhonkjgkfdnmaaGreatDoorLib22
import Derived.WalkKit
import Derived.WalkSpells
import Derived.Deep.RegionLaw
import Derived.Lib.SlicesDelete
import Derived.Lib.SliceRun
import Derived.Shelf.RegionOpenPlain
set_option linter.all false
set_option maxHeartbeats 40000000
namespace Hud
open Go
variable{G:L_}
def aFK(l:D_)(x:Id)(d:l.length<=1000000):aA PQ G aDy [ids l,.ag x.A] [] λr T=>(∃n:Int,r=iv n/\decide (n>=0)=decide (x∈l))/\T=[]:=by
 apply aC rB;simp only[go_sem,aP,Id.A_def];refine aQ l.length (λi=>⟨0,[(0,ids l),(3,.ptr 0 0),(7,iv l.length),(8,iv i)],[some (.box x.A)]⟩) (λi=>x∉l.take i) ?_ s_ ?_ ?_;rfl;intro i a b;simp only[go_sem,aT a,aO Id.A l i a,Id.A_def];refine aL (λh=>?_) (λh=>?_)<;>simp only[go_sem,fQ i o_];simp_all;refine⟨rfl,?_⟩;have h1:x≠l[i]:=x_;intro c;rw[lB a]at c;grind;intro b;rw[dE]at b;simp only[go_sem,aS (bP _)];simp_all
def Dx(l:D_)(x:Id)(b:l.length<=1000000):aA PQ G bJ [ids l,.ag x.A] [] λr T=>r=.v (.bool (decide (x∈l)))/\T=[]:=by refine aC pI ?_;simp only[go_sem,Id.A_def];apply Jo (aFK l x b);rintro r c ⟨⟨n,rfl,a⟩,rfl⟩;simp only[go_sem,a]
def Id.A_zero:[AV.v (.int .i64 0),AV.v (.int .i64 0),AV.v (.int .u64 0)]=Id.A ⟨0,0,0⟩:=rfl
def MO(a:D_)(b:a.length<=1000000):aA PQ G bF [ids a] [] λr T=>r=.own 0/\T=[some (.arr 3 (a.map Id.A))]:=by
 apply aC rA
 cases a with
 |nil=>simp only[go_sem,ids,(d_:0<=maxLen)]|cons x a=>
  have d:(a.length+1)*24<=140737488355328:=by simp at b;omega
  have c:a.length+1<=maxLen:=by simp at b;unfold maxLen;omega
  simp only[go_sem,ids,aP,d,c]
theorem W9(l:D_):(sQ l).length=l.length:=(H4 l _).length_eq
def rE(es:N_)(h:es.length<=1000000):aA PQ G cT [.ls 5 es] [] λr T=>r=.own 0/\T=[some (.arr 5 es)]:=by
 apply aC sK
 cases es with
 |nil=>simp only[go_sem,(d_:0<=maxLen)]|cons x a=>
  have c:(a.length+1)*40<=140737488355328:=dh;have b:a.length+1<=maxLen:=Y_;simp only[go_sem,c,b]
def BB(es:N_)(h:es.length<=1000000):aA PQ G cT [.ls 5 es] [] λr T=>r=.ls 5 es/\T=[]:=by refine(rE es h).fin [0] ?_;rintro r a ⟨rfl,rfl⟩;simp only[go_sem,gQ]
def Hf(es:N_)(h:es.length<=1000000):aA PQ G fO [.ls 1 es] [] λr T=>r=.own 0/\T=[some (.arr 1 es)]:=by
 apply aC yT
 cases es with
 |nil=>simp only[go_sem,(d_:0<=maxLen)]|cons x a=>
  have c:(a.length+1)*1<=140737488355328:=dh;have b:a.length+1<=maxLen:=Y_;simp only[go_sem,c,b]
def BC(es:N_)(h:es.length<=1000000):aA PQ G fO [.ls 1 es] [] λr T=>r=.ls 1 es/\T=[]:=by refine(Hf es h).fin [0] ?_;rintro r a ⟨rfl,rfl⟩;simp only[go_sem,gQ]
def J8(es:N_)(h:es.length<=1000000):aA PQ G eU [.ls 1 es] [] λr T=>r=.own 0/\T=[some (.arr 1 es)]:=by
 apply aC Au
 cases es with
 |nil=>simp only[go_sem,(d_:0<=maxLen)]|cons x a=>
  have c:(a.length+1)*8<=140737488355328:=dh;have b:a.length+1<=maxLen:=Y_;simp only[go_sem,c,b]
def Ct(es:N_)(h:es.length<=1000000):aA PQ G eU [.ls 1 es] [] λr T=>r=.ls 1 es/\T=[]:=by refine(J8 es h).fin [0] ?_;rintro r a ⟨rfl,rfl⟩;simp only[go_sem,gQ]
def CO(es:N_)(h:es.length<=1000000):aA PQ G dC [.ls 4 es] [] λr T=>r=.own 0/\T=[some (.arr 4 es)]:=by
 apply aC uB
 cases es with
 |nil=>simp only[go_sem,(d_:0<=maxLen)]|cons x a=>
  have c:(a.length+1)*32<=140737488355328:=dh;have b:a.length+1<=maxLen:=Y_;simp only[go_sem,c,b]
def tJ(es:N_)(h:es.length<=1000000):aA PQ G dC [.ls 4 es] [] λr T=>r=.ls 4 es/\T=[]:=by refine(CO es h).fin [0] ?_;rintro r a ⟨rfl,rfl⟩;simp only[go_sem,gQ]
def Dy(es:N_)(h:es.length<=1000000):aA PQ G fU [.ls 1 es] [] λr T=>r=.own 0/\T=[some (.arr 1 es)]:=by
 apply aC vG
 cases es with
 |nil=>simp only[go_sem,(d_:0<=maxLen)]|cons x a=>
  have c:(a.length+1)*8<=140737488355328:=dh;have b:a.length+1<=maxLen:=Y_;simp only[go_sem,c,b]
def Dz(es:N_)(h:es.length<=1000000):aA PQ G fU [.ls 1 es] [] λr T=>r=.ls 1 es/\T=[]:=by refine(Dy es h).fin [0] ?_;rintro r a ⟨rfl,rfl⟩;simp only[go_sem,gQ]
def BD(es:N_)(h:es.length<=1000000):aA PQ G gZ [.ls 2 es] [] λr T=>r=.own 0/\T=[some (.arr 2 es)]:=by
 apply aC sL
 cases es with
 |nil=>simp only[go_sem,(d_:0<=maxLen)]|cons x a=>
  have c:(a.length+1)*32<=140737488355328:=dh;have b:a.length+1<=maxLen:=Y_;simp only[go_sem,c,b]
def wJ(es:N_)(h:es.length<=1000000):aA PQ G fJ [.ls 4 es] [] λr T=>r=.own 0/\T=[some (.arr 4 es)]:=by
 apply aC pU
 cases es with
 |nil=>simp only[go_sem,(d_:0<=maxLen)]|cons x a=>
  have c:(a.length+1)*48<=140737488355328:=dh;have b:a.length+1<=maxLen:=Y_;simp only[go_sem,c,b]
def aDu(a:D_)(b:a.length<=1000000):aA PQ G bF [ids a] [] λr T=>r=ids a/\T=[]:=by refine(MO a b).fin [0] ?_;rintro r c ⟨rfl,rfl⟩;simp only[go_sem,gQ]
def CP (o:OpM):aK:=[some (.box [iv o.By,iv o.Seq,iv o.Kind,iv o.At,ids o.Past,iv o.Device,iv o.Old,iv o.Member,iv o.Role,.own 2,
 iv o.Epoch.a,iv o.Epoch.b,.v (.int .u64 o.Epoch.c),iv o.N,.ls 1 (bl o.Body),.ls 1 (ul o.Refs),iv o.Of.a,iv o.Of.b,.v (.int .u64 o.Of.c),rG o.Guards,
 iv o.Need,iv o.Wait,F5 o.Boxes,uv o.Pub,.own 3,uv o.SR,uv o.SS]),some (.box [AV.v (Value.int IntKind.i64 0),AV.v (Value.int IntKind.i64 0),AV.v (Value.int IntKind.i64 0),
        AV.v (Value.int IntKind.i64 0),AV.v (Value.slice none 0 0),AV.v (Value.int IntKind.i64 0),
        AV.v (Value.int IntKind.i64 0),AV.v (Value.int IntKind.i64 0),AV.v (Value.int IntKind.i64 0),
        AV.v (Value.slice none 0 0),AV.v (Value.int IntKind.i64 0),AV.v (Value.int IntKind.i64 0),
        AV.v (Value.int IntKind.u64 0),AV.v (Value.int IntKind.i64 0),AV.v (Value.slice none 0 0),
        AV.v (Value.slice none 0 0),AV.v (Value.int IntKind.i64 0),AV.v (Value.int IntKind.i64 0),
        AV.v (Value.int IntKind.u64 0),AV.v (Value.slice none 0 0),AV.v (Value.int IntKind.i64 0),
        AV.v (Value.int IntKind.i64 0),AV.v (Value.slice none 0 0),AV.v (Value.int IntKind.u64 0),
        AV.v (Value.slice none 0 0),AV.v (Value.int IntKind.u64 0),AV.v (Value.int IntKind.u64 0)]),some (.arr 2 (o.Path.map NodeM.A)),some (.arr 4 (o.Hist.map SealM.A))]
def BE{α a:Type}(f:α->a)(l:List α)(i:Nat)(h:i<l.length):(l.map f).set i (f l[i])=l.map f:=by rw[<-Ba,List.set_getElem_self]
def aDv(o:OpM)(e:o.ok):aA PQ G pO [.ag o.A] [] λr T=>r=.ag [iv o.By,iv o.Seq,iv o.Kind,iv o.At,ids o.Past,iv o.Device,iv o.Old,iv o.Member,iv o.Role,.own 0,
 iv o.Epoch.a,iv o.Epoch.b,.v (.int .u64 o.Epoch.c),iv o.N,.ls 1 (bl o.Body),.ls 1 (ul o.Refs),iv o.Of.a,iv o.Of.b,.v (.int .u64 o.Of.c),rG o.Guards,
 iv o.Need,iv o.Wait,F5 o.Boxes,uv o.Pub,.own 1,uv o.SR,uv o.SS]/\T=[some (.arr 2 (o.Path.map NodeM.A)),some (.arr 4 (o.Hist.map SealM.A))]:=by
 apply aC Jw;have t:=e.past.1;have s:=e.path.1;have q:=e.refs.1;have p:=e.guards.1;have m:=e.boxes.1;have l:=e.hist.1;have k:=e.body.1;simp only[go_sem,OpM.A_def];apply cX (aDu o.Past o_);simp only[go_sem];apply cX (BC (bl o.Body) I_);simp only[go_sem];apply cX (Dz (ul o.Refs) I_);simp only[go_sem];apply cX (Ct (o.Guards.map λn=>[iv n]) I_);simp only[go_sem];apply cX (tJ (o.Boxes.map BoxM.A) I_);simp only[go_sem];apply kM (BD (o.Path.map NodeM.A) I_);simp only[go_sem];apply kM (wJ (o.Hist.map SealM.A) I_);simp only[go_sem,aP];refine aQ o.Path.length (λi=>⟨0,[(1,.ptr 0 0),(2,.ptr 1 0),(35,iv o.Path.length),(36,iv i)],CP o⟩) (λ_=>True) ?_ trivial ?_ ?_;simp only[go_sem,CP];intro i d _;have g:=fQ i o_;have f:(o.Path.map NodeM.A)[i]?=some [uv o.Path[i].Pub,F5 o.Path[i].Boxes]:=aO _ o.Path i d;have h:(o.Path.map NodeM.A).set i [uv o.Path[i].Pub,F5 o.Path[i].Boxes]=o.Path.map NodeM.A:=BE NodeM.A o.Path i d;have j:=(e.path.2 _ (eQ d)).2.1;generalize o.Path[i]=x at *
 simp only[go_sem,CP,aP,aT d,d,f];apply cX (tJ (x.Boxes.map BoxM.A) I_);simp only[go_sem,CP,aP,d,f,h,g];intro _;simp only[go_sem,CP,aP,aS (bP _)];refine aQ o.Hist.length (λi=>⟨0,[(1,.ptr 0 0),(2,.ptr 1 0),(54,iv o.Hist.length),(55,iv i)],CP o⟩) (λ_=>True) ?_ trivial ?_ ?_;simp only[go_sem,CP];intro i d _;have g:=fQ i o_;have f:(o.Hist.map SealM.A)[i]?=some [.v (.int .i64 o.Hist[i].Of.a),.v (.int .i64 o.Hist[i].Of.b),.v (.int .u64 o.Hist[i].Of.c),.ls 1 (bl o.Hist[i].Body)]:=aO _ o.Hist i d;have h:(o.Hist.map SealM.A).set i [.v (.int .i64 o.Hist[i].Of.a),.v (.int .i64 o.Hist[i].Of.b),.v (.int .u64 o.Hist[i].Of.c),.ls 1 (bl o.Hist[i].Body)]=o.Hist.map SealM.A:=BE SealM.A o.Hist i d;have j:=(e.hist.2 _ (eQ d)).2.1;generalize o.Hist[i]=x at *
 simp only[go_sem,CP,aP,aT d,d,f];apply cX (BC (bl x.Body) I_);simp only[go_sem,CP,aP,d,f,h,g];intro _;simp only[go_sem,CP,aS (bP _)]
def ZH(o:OpM)(a:o.ok):aA PQ G pO [.ag o.A] [] λr T=>r=.ag o.A/\T=[]:=by refine(aDv o a).fin [0,1] ?_;rintro r b ⟨rfl,rfl⟩;simp only[go_sem,gQ,OpM.A_def]
end Hud
namespace Hud
open Go Go.Proofs Go.Sort Go.Shelf Go.RowKit Go.Lib
abbrev zId:List Value:=[.int .i64 0,.int .i64 0,.int .u64 0]
def Ze:(Tryz.prog.info? 41).map (λi=>(i.zero,i.size,i.bytes))=some (some (.agg #[.int .i64 0,.int .i64 0,.int .u64 0]),3,24):=g_
def aEH:Tryz.prog.underlying 25=some (.slice 41):=g_
def aIL(w:World)(ty:TypeId)(b o c:Nat)(k:∀j,j<3->(w.cell? ⟨b,o+j,none⟩).isSome=true)(i:∀j,j<3->w.frozen? ⟨b,o+j,none⟩=false):
 (Builtin.clear_ #[25] ty #[.slice (some ⟨b,o,none⟩) 1 c]).run Tryz.prog w=.ok (.tuple #[]) (w.setCells b o zId):=by
 obtain⟨i0,h,g,f,e⟩:=info_parts Ze;have nG:=run_storeCells_cells (P:=Tryz.prog) b o zId 0 w (by simpa using k) (by simpa using i) (by intro v a;simp only[zId,cS,pP,or_false]at a;rcases a with rfl|rfl|rfl<;>rfl);simp only[mG]at nG;have d:(Builtin.zeroCells #[Value.int .i64 0,.int .i64 0,.int .u64 0] 1).toList=zId:=by simp[Builtin.zeroCells,zId];rfl
 simp_all[Builtin.clear_,Value.cells]
set_option maxRecDepth 1000000 in
def aEI (F:Array Value) (kI b n i:Nat) (w:World) (Y:F.size=n*3) (l:∀v∈F.toList,v.oneCell'=true) (p:Holds id w kI 0 F) (C:n<=b) (W:b<=2^63-1) (X:i<n):
 Calls Tryz.prog 156 #[.slice (some ⟨kI,0,none⟩) n b,.int .i64 i,.int .i64 (i+1:Nat)] w λe E=>e=.returned (.slice (some ⟨kI,0,none⟩) (n-1) b)/\E=(w.drew.setCells kI (i*3) (F.toList.drop ((i+1)*3))).setCells kI ((n-1)*3) zId:=by
 obtain⟨i0,y,K,x,J⟩:=info_parts Ze;obtain⟨a,c⟩:∃a,a=F.toList.drop ((i+1)*3):=⟨_,rfl⟩
 have m:a.length=(n-(i+1))*3:=b_;obtain⟨A,Z,k⟩:∃A:Addr,(if b=i+1 then some (⟨kI,0,none⟩:Addr) else some ⟨kI,(i+1)*3,none⟩)=some A/\Hid (∀t u,a[t]?=some u->w.drew.cell? (A.add t)=some u):=by
  by_cases h:b=i+1;refine⟨⟨kI,0,none⟩,by simp[h],λt u d=>?_⟩;simp_all;refine⟨⟨kI,(i+1)*3,none⟩,by simp[h],λt u d=>?_⟩;have B:t<a.length:=(sV.1 d).1;rw[c,Hw,Array.getElem?_toList]at d;have g:(i+1)*3+t<F.size:=o_;rw[Addr.add_lit];have z:=(p ((i+1)*3+t) g).1;simp_all
 have I:Hid (a.length=(n-(i+1))*3):=m;have H:Hid (∀u∈a,u.oneCell'=true):=λu d=>l u (by rw[c]at d;exact QG d);have G:Hid (∀t,t<a.length->(w.drew.cell? ⟨kI,0+i*3+t,none⟩).isSome=true/\w.drew.frozen? ⟨kI,0+i*3+t,none⟩=false):=by
  intro t B;have g:i*3+t<F.size:=o_;have z:=p (i*3+t) g;simp_all
 obtain⟨f,o⟩:∃f,f=w.drew.setCells kI (i*3) a:=⟨_,rfl⟩
 have T:∀r,(Builtin.clear_ #[25] r #[.slice (some ⟨kI,(i+(n-(i+1)))*3,none⟩) (n-(i+(n-(i+1)))) (b-(i+(n-(i+1))))]).run Tryz.prog f=.ok (.tuple #[]) (f.setCells kI ((n-1)*3) zId):=λr=>by
  rw[(o_:i+(n-(i+1))=n-1),(o_:n-(n-1)=1)];have g:∀j,j<3->(n-1)*3+j<F.size:=λj q=>o_;have z:=λj q=>p ((n-1)*3+j) (g j q);simp only[pQ]at z;refine aIL f r kI _ _ (λj q=>?_) λj q=>?_;rw[o];have V:∀t,t<a.length->(w.drew.cell? ⟨kI,i*3+t,none⟩).isSome=true:=λt B=>by have h8:=(p (i*3+t) o_).1;simp_all
  by_cases R:(n-1)*3+j<i*3+a.length;omega;rw[World.cell?_setCells_out kI a (i*3) w.drew _ (λ_ _=>.inr (by show i*3+a.length<=(n-1)*3+j;omega))];simp_all;simp_all[World.frozen?_setCells]
 have D:Hid (f=w.drew.setCells kI (0+i*3) a):=t_;have U:Hid (a=F.toList.drop ((i+1)*3)):=c;have S:i<=b:=o_;have Q:i+1<=b:=o_;have P:i+1<=n:=o_;have O:¬i=i+1:=o_;have N:(0:Int)<=(i:Int)+1:=o_;have M:(i:Int)+1<=(n:Int):=o_;have L:((i:Int)+1).toNat=i+1:=o_;have s:Tryz.prog.follows Departure.mixedOrders=true:=g_;clear p o c;go_enter Tryz.func156,Tryz.ntmps156;go_wp2_with fail;go_region_law_o (refine step_append_room rfl (.tmp 22) (.tmp 25) 25 rfl 41 i0 3 aEH y x kI 0 i b (by simp[Act.eval,Act.put]) A (n-(i+1)) (b-(i+1)) a (by simp[Act.eval,Act.put]) I.out k.out H.out o_ G.out ?_;rw[<-D.out]);go_wp2;go_ret;have h1:=D.out;rw[pQ,U.out]at h1;simp_all;omega
section
variable{h:GH}{φ:Nat->Value}{w:World}{T:aK}
def TC:∀(M:D_),∀v∈M.flatMap Id.K,v.oneCell'=true:=by intro M v b;obtain⟨x,_,a⟩:=H7.1 b;simp only[Id.K,cS,pP,or_false]at a;rcases a with rfl|rfl|rfl<;>rfl
def aGm(M:D_):(M.flatMap Id.K).length=M.length*3:=MF (enc:=Id.K) (k:=3) (λ_=>rfl) M
def Vd(M:D_):(M.map Id.A).flatten=(M.flatMap Id.K).map .v:=HZ Id.K M
def aEJ(L:D_):∀d∈L.map Id.A,d.length=3/\∀c∈d,aX c=true:=by intro d b;obtain⟨x,_,rfl⟩:=dF.1 b;refine⟨rfl,λc a=>?_⟩;simp only[Id.A,cS,pP,or_false]at a;rcases a with rfl|rfl|rfl<;>rfl
def Zf(hI:Inv h φ w T){k g c o:Nat}{L M:D_}{a:Array Value}{E:TypeId}(B:T[k]?=some (some (.arr 3 (L.map Id.A))))(m:φ k=.slice (some ⟨g,0,none⟩) L.length (c+1))(l:w.heap[g]?=some (.cells a E (0,0)))(H:L.length<=c+1)(G:c+1<=maxLen)(y:a.size=(c+1)*3)(D:h g=none)
 (z:cK h (L.map Id.A).flatten (a.toList.take (L.length*3))) (I:o+M.length<=L.length):
 (Inv h φ (w.setCells g (o*3) (M.flatMap Id.K)) (T.set k (some (.arr 3 ((L.take o++M++L.drop (o+M.length)).map Id.A))))/\Evo h φ T w h φ (T.set k (some (.arr 3 ((L.take o++M++L.drop (o+M.length)).map Id.A)))) (w.setCells g (o*3) (M.flatMap Id.K))) /\
  ∃f,(w.setCells g (o*3) (M.flatMap Id.K)).heap[g]?=some (.cells f E (0,0))/\f.size=(c+1)*3/\cK h ((L.take o++M++L.drop (o+M.length)).map Id.A).flatten (f.toList.take ((L.take o++M++L.drop (o+M.length)).length*3)):=by
 have s:=aGm M;have t:o*3+(M.flatMap Id.K).length<=a.size:=by rw[s,y];omega
 have x:=run_storeCells_at Tryz.prog g (o*3) E (M.flatMap Id.K) 0 a w l W_ (TC M);have u:=run_storeCells_cells (P:=Tryz.prog) g (o*3) (M.flatMap Id.K) 0 w (λj C=>by rw[(Iu l).1,Ri o_];rfl) (λj C=>(Iu (o:=o*3+0+j) l).2) (TC M);simp only[mG]at x u;have e:w.setCells g (o*3) (M.flatMap Id.K)=w.setRow g (a.toList.take (o*3)++M.flatMap Id.K++a.toList.drop (o*3+(M.flatMap Id.K).length)).toArray:=by have:=u.symm.trans x;injection this
 rw[e];have b:(L.take o++M++L.drop (o+M.length)).length=L.length:=kn;have r:a.toList.length=(c+1)*3:=by rw[GV,y]
 have q:∀d∈L.map Id.A,d.length=3:=λd F=>(aEJ L d F).1;have i:((L.take o++M++L.drop (o+M.length)).map Id.A).flatten=(L.map Id.A).flatten.take (o*3)++(M.flatMap Id.K).map .v++(L.map Id.A).flatten.drop (o*3+M.length*3):=by rw[bZ,bZ,Kf,Kf,Vd M,QN,aC0,Fz q,Fy q,xE]
 have p:cK h ((L.take o++M++L.drop (o+M.length)).map Id.A).flatten ((a.toList.take (o*3)++M.flatMap Id.K++a.toList.drop (o*3+(M.flatMap Id.K).length)).take (L.length*3)):=by rw[i,s,Mz a.toList (M.flatMap Id.K) (o*3) (M.length*3) (L.length*3) o_ o_ s];exact((z.take _).app (Ru h _)).app (z.drop _)
 have n:(a.toList.take (o*3)++M.flatMap Id.K++a.toList.drop (o*3+(M.flatMap Id.K).length)).toArray.size=(c+1)*3:=by rw[Gn];simp only[dZ,eC,vY,r];omega
 refine⟨Lt hI B l (by rw[m];rfl) ⟨aEJ _,.inr ⟨g,c,_,E,by rw[aP,b];exact m,setRow_heap w g a _ E _ l,by rw[aP,b];exact H,G,n,D,by rw[aP,b];exact p⟩⟩,_,setRow_heap w g a _ E _ l,n,by rw[b];exact p⟩
def aIM(L:D_)(n i:Nat):D_ :=
 let M:=(L.take n).drop (i+1)
 let a:=L.take i++M++L.drop (i+M.length)
 a.take (n-1)++[⟨0,0,0⟩]++a.drop (n-1+([⟨0,0,0⟩]:D_).length)
def aBp{G:L_}{k n i:Nat}{L:D_}{sl:AV}(F:T[k]?=some (some (.arr 3 (L.map Id.A))))(hn:n<=L.length)(ad:sl=.vw k 3 0 n\/(sl=.own k/\n=L.length))(hi:i<n):
 aA PQ G fR [sl,iv i,iv (i+1:Nat)] T λr T'=>r=.vw k 3 0 (n-1)/\T'=T.set k (some (.arr 3 ((aIM L n i).map Id.A))):=by
 intro h z w m hG hI S;refine .inl ⟨Go.Proofs.enters_of Tryz.func156 g_ rfl _ _,?_⟩;simp only[cC]at S;obtain⟨u0,ab,ac,ae,u1,aa,rfl,y,u2,Z,rfl,x,rfl⟩:=S;simp only[Rp]at y x;subst y x;obtain rfl:m=#[u0,.int .i64 i,.int .i64 (i+1:Nat)]:=f_;have q:k<T.length:=(sV.1 F).1;obtain⟨hc,f⟩:=hI.obj k _ F;rw[aP]at f;rcases f with⟨A0,D,P⟩|⟨g,c,a,E,D,C,B,V,e4,U,J⟩
 simp_all;have hu:∃d,u0=.slice (some ⟨g,0,none⟩) n d/\n<=d/\d<=maxLen:=by grind[Rp,Value.slice.injEq]
 obtain⟨d,rfl,u,p⟩:=hu;have Q:n*3<=a.toList.length:=b_;have j:a.toList.take (L.length*3)=L.flatMap Id.K:=by rw[Vd]at J;exact SV J
 have s:a.toList.take (n*3)=(L.take n).flatMap Id.K:=by
  have h1:(a.toList.take (L.length*3)).take (n*3)=a.toList.take (n*3):=f_;rw[<-h1,j];have:=MF (enc:=Id.K) (k:=3) (λ_=>rfl) (L.take n)
  conv=>lhs;rw[<-LC n L]
  grind
 have R:(a.toList.take (n*3)).toArray.size=n*3:=f_;refine(aEI (a.toList.take (n*3)).toArray g d n i w R (λv O=>by rw[s]at O;exact TC _ v (by simpa using O)) ?_ u (by unfold maxLen at p;omega) hi).mono ?_;intro t ht;rw[R]at ht;obtain⟨c1,c2⟩:=Iu (o:=0+t) C;grind;rintro e w' ⟨rfl,rfl⟩;have hd:(a.toList.take (n*3)).toArray.toList.drop ((i+1)*3)=((L.take n).drop (i+1)).flatMap Id.K:=by
  show(a.toList.take (n*3)).drop ((i+1)*3)=_;rw[s]
  conv=>lhs;rw[<-LC (i+1) (L.take n)]
  have:=MF (enc:=Id.K) (k:=3) (λ_=>rfl) ((L.take n).take (i+1));rw[List.flatMap_append,aGG (by rw[this,eC,eC];omega),LB (by rw[this,eC,eC];omega),dM]
 rw[hd];have I:Inv h z w.drew T:=⟨hI.gh,hI.obj,hI.dis⟩
 have H:((L.take n).drop (i+1)).length=n-(i+1):=by rw[vY,eC];omega
 obtain⟨⟨i1,v1⟩,W,w1,X,p1⟩:=Zf I (M:=(L.take n).drop (i+1)) (o:=i) F D C B V e4 U J (by rw[H];omega);have l:(L.take i++(L.take n).drop (i+1)++L.drop (i+((L.take n).drop (i+1)).length)).length=L.length:=kn;obtain⟨⟨N,v2⟩,_⟩:=Zf i1 (M:=[⟨0,0,0⟩]) (o:=n-1) (by rw[List.getElem?_set_self q]) (by rw[l];exact D) w1 (by rw[l];exact B) V X U p1 (by rw[l];simp;omega);rw[List.set_set]at N v2;have Y:Evo h z T w h z T w.drew:=⟨rfl,rfl,rfl,cN _,λ_ _ _=>rfl,CA.refl _,λb cs e=>.inl e,λ_ _=>rfl,λi o b C B=>.inr ⟨i,o,C,B⟩,cN _,Kl _⟩
 refine⟨_,rfl,.vw k 3 0 (n-1),_,h,z,⟨rfl,rfl⟩,(Y.trans v1).trans v2,N,?_⟩;simp only[Rp,cL];refine⟨q,some ⟨g,0,none⟩,d,rfl,o_,p,.inr ⟨g,_,_,D,by rw[Nat.zero_mul],o_⟩⟩
def RX{G:L_}{k n i:Nat}{L:D_}{sl:AV}(g:T[k]?=some (some (.arr 3 (L.map Id.A))))(f:n<=L.length)(b:sl=.vw k 3 0 n\/(sl=.own k/\n=L.length))(h:i<n):
 aA PQ G fR [sl,iv i,iv (i+1:Nat)] T λr e=>∃d:D_,d.length=L.length/\d.take (n-1)=(L.take n).eraseIdx i/\r=.vw k 3 0 (n-1)/\e=T.set k (some (.arr 3 (d.map Id.A))):=by
 refine(aBp g f b h).mono λr e ⟨h1,h2⟩=>⟨_,?_,?_,h1,h2⟩
 simp only[aIM,dZ,eC,vY,sE,gQ];omega;have a:((L.take n).drop (i+1)).length=n-(i+1):=by rw[vY,eC];omega
 have c:(L.take i++(L.take n).drop (i+1)++L.drop (i+((L.take n).drop (i+1)).length)).length=L.length:=kn;unfold aIM;dsimp only;rw[eB,Rf (by rw[eC,c];omega),Mj,Nat.min_self,List.eraseIdx_eq_take_drop_succ,Mj,Kj o_,Rf (by rw[dZ,eC,a];omega),sG (by rw[dZ,eC,a];omega)]
end
end Hud
