import Derived.Test.YtlhonkjgkfdnmaaGreatDoorLib32
set_option linter.all false
set_option maxHeartbeats 40000000
namespace Hud
open Go
variable{G:L_}
section
variable{P:Program}{G:L_}{f:Nat}{args:O_}{T:aK}{p q:AV->aK->Prop}
def aA.dsub(s:aA P G f args T p)(n:∀r g,p r g->∃i,fH r i=true/\q i g):aA P G f args T q:=by
 have d:∀{h:GH}{φ:Nat->Value}{w w':World}{v:Value},CS h φ T w p v w'->CS h φ T w q v w':=by rintro h φ w w' v ⟨r,g,x,j,l,k,z,y⟩;obtain⟨i,o,m⟩:=n r g l;exact⟨i,g,x,j,m,k,z,ZT o y⟩
 intro h φ w c t hI u;rcases s h φ w c t hI u with⟨a,b⟩|⟨v,w',a,b⟩
 exact .inl ⟨a,b.mono λe w' ⟨v,l,k⟩=>⟨v,l,d k⟩⟩;exact .inr ⟨v,w',a,d b⟩
end
def aA.asub{P:Program}{G:L_}{f:Nat}{args a:O_}{T:aK}{p:AV->aK->Prop}(e:aA P G f a T p)(d:pL args a=true):aA P G f args T p :=
 λh c w b g hI i=>e h c w b g hI (MZ d i)
def lH(z:Int):mZ (IntKind.i64.wrap z):=by unfold mZ;simp only[IntKind.wrap,IntKind.bits,IntKind.signed];simp;omega
def aHd(z:Int):∃k:Nat,k<2^64/\IntKind.u64.wrap z=(k:Int):=by refine⟨(IntKind.u64.wrap z).toNat,?_,?_⟩<;>simp only[IntKind.wrap,IntKind.bits,IntKind.signed]<;>simp<;>omega
def aKv(z:Int):∃k:Nat,k<256/\IntKind.u8.wrap z=(k:Int):=by refine⟨(IntKind.u8.wrap z).toNat,?_,?_⟩<;>simp only[IntKind.wrap,IntKind.bits,IntKind.signed]<;>simp<;>omega
def C4(a:Int):O_:=[iv a,iv 0,iv 0,iv 0,.v (.slice none 0 0),iv 0,iv 0,iv 0,iv 0,.v (.slice none 0 0),iv 0,iv 0,.v (.int .u64 0),iv 0,.v (.slice none 0 0),.v (.slice none 0 0),iv 0,iv 0,.v (.int .u64 0),.v (.slice none 0 0),iv 0,iv 0,.v (.slice none 0 0),.v (.int .u64 0),.v (.slice none 0 0),.v (.int .u64 0),.v (.int .u64 0)]
def aMJ(b:Int):iZ (C4 b)=[]:=fI rfl rfl
def aNE(L:V_)(b:Int):xF L (C4 b)=C4 b:=fI rfl rfl
def aSs(L:V_)(n:Nat)(b:Int):EJ L n (C4 b)=C4 b:=fI rfl rfl
def aMK(b:Int):(C4 b).length=27:=fI rfl rfl
def aML(b:Int):(C4 b).drop 27=[]:=fI rfl rfl
def aSt(i k:Nat)(es:N_)(b:Int):IB i k es (C4 b)=C4 b:=fI rfl rfl
def OpM.d27(o:OpM):o.A.drop 27=[]:=fI rfl rfl
def OpM.up1(o:OpM)(x:Int):o.A.take 1++[iv x]++o.A.drop 2=OpM.A {o with Seq:=x}:=fI rfl rfl
def OpM.up3(o:OpM)(x:Int):o.A.take 3++[iv x]++o.A.drop 4=OpM.A {o with At:=x}:=fI rfl rfl
def OpM.up4(o:OpM)(l:D_):o.A.take 4++[ids l]++o.A.drop 5=OpM.A {o with Past:=l}:=fI rfl rfl
attribute [go_sem] aMJ aNE aSs aMK aML aSt OpM.d27 OpM.up1 OpM.up3 OpM.up4
def id0:(⟨0,0,0⟩:Id).ok:=⟨⟨d_,d_⟩,⟨d_,d_⟩,d_,d_⟩
def aGb:([]:List NodeM).length<=10/\∀x∈([]:List NodeM),x.ok:=⟨s_,s_⟩
def xC:([]:V_).length<=1000/\xN []:=⟨s_,λx a=>by simp at a⟩
def aGc{k:Nat}(h:k<256):[k].length<=1000/\xN [k]:=⟨s_,λx a=>by rw[cA.1 a];exact h⟩
def PA:∀l:List CardM,zF (l.map CardM.A) (l.map CardM.A)=true|[]=>rfl|c::l=>by simp only[fG,zF,CardM.A_def,pL,fH,O9,beq_self_eq_true,yH,PA l]
def aBe(cs:List CardM):aA PQ G Ci [.ls 5 (cs.map CardM.A)] [] λr T=>r=.ag (⟨cs,[],[],[],[]⟩:GM).A/\T=[]:=by refine aA.dsub (p:=λr T=>r=.ag [.ls 5 (cs.map CardM.A),.v (.slice none 0 0),.v (.slice none 0 0),.v (.slice none 0 0),.v (.slice none 0 0)]/\T=[]) (aC R9 ?_) ?_;simp only[go_sem];rintro r a ⟨rfl,rfl⟩;refine⟨_,?_,rfl,rfl⟩;simp only[fH,pL,GM.A,ids,uP,PA,Nat.beq_refl,yH]
def VQ:∀l:D_,zF (l.map Id.A) (l.map Id.A)=true|[]=>rfl|c::l=>by simp only[fG,zF,Id.A_def,pL,fH,O9,beq_self_eq_true,yH,VQ l]
def z5:O_:=[.v (.slice none 0 0),.v (.slice none 0 0),.v (.slice none 0 0),.v (.slice none 0 0),.v (.slice none 0 0)]
def kd:B_:=[6,4,3,2,5,7,8,3,6,9,11,11,13,12,10,4,3,2,6,13]
def RQ(n:Nat):Int:=kd.getD (n%20) 0
def aEq(n:Nat)(e:n<2^63-1):aA PQ G HO [iv n] [] λr T=>r=iv (RQ n)/\T=[]:=by
 apply aC P5;have d:(n:Int).tmod 20=((n%20:Nat):Int):=Y_;have c:n%20<kd.length:=zM _ d_;have b:(kd.map λn=>[iv n])[n%20]?=some [iv (RQ n)]:=by grind[RQ]
 simp only[kd,fG,uP]at b;have a:n%20<20:=c;simp only[go_sem,d,b,a]
def aEr(n:Nat):mZ (RQ n):=by
 have h1:∀m∈kd,mZ m:=by unfold mZ;decide
 have a:n%20<kd.length:=zM _ d_;grind[RQ]
def aKw(i:Nat):BoxM:=⟨1,1,i,1⟩
def BO(n:Nat):List BoxM:=(List.range n).map aKw
def aBf(n:Nat):BO (n+1)=BO n++[aKw n]:=by simp[BO,QH]
def JR(n:Nat)(d:n<=1000):aA PQ G Ao [iv n] [] λr T=>r=F5 (BO n)/\T=[]:=by
 refine aA.fin (p:=λr T=>r=.own 0/\T=[some (.arr 4 ((BO n).map BoxM.A))]) (aC P7 ?_) [0] ?_;rotate_left;rintro r e ⟨rfl,rfl⟩;simp only[go_sem,gQ];simp only[go_sem];refine aQ n (λi=>⟨0,[(0,iv n),(3,.own 0),(4,iv i)],[some (.arr 4 ((BO i).map BoxM.A))]⟩) (λ_=>True) ?_ trivial ?_ ?_;rfl;intro i c _;have a:=fQ i o_;have b:(BO i).length=i:=by simp[BO]
 have u:IntKind.u64.wrap (i:Int)=i:=aCD o_ o_;simp only[go_sem,aT c,a,aP,b,u,(g_:i+1<=maxLen),(o_:(i+1)*32<=140737488355328)];rw[aBf,bZ];rfl;intro _;simp only[go_sem,aS (bP _)]
def VX(g:GM)(q:Prop)(X:D_):Prop:=(∀x∈X,x∈g.I)/\(q->∀x∈g.I,x∈X)
def aMj(n:Nat):Prop:=n%37≠7/\0<n%3
def aEs (g:GM) (c:g.ok) (M:g.L.length<=200) (d:Int) (n:Nat) (W:n<1000000) (h0:0<g.L.length):aA PQ G DO [.ag g.A,iv d,iv n] [] λr T=>(∃X:D_,r=ids X/\VX g (aMj n) X/\X.length<=2000)/\T=[]:=by
 refine aA.fin (p:=λr T=>∃X:D_,((r=ids X/\T=[])\/(r=.own 0/\T=[some (.arr 3 (X.map Id.A))]))/\VX g (aMj n) X/\X.length<=2000) (aC P6 ?_) [0] ?_;rotate_left;rintro r V ⟨X,⟨rfl,rfl⟩|⟨rfl,rfl⟩,h1,h2⟩;simp only[go_sem,gQ,List.getElem?_nil];grind;simp only[go_sem,gQ];grind;simp only[go_sem];apply cX (JG g c);simp only[go_sem];apply cO (λm s=>∃(i:Nat)(a:Int),m=g.L.length-i/\i<=g.L.length/\-1<=a/\a<g.L.length/\s=⟨0,[(1,iv d),(2,iv n),(3,.ptr 0 0),(7,ids (jI g.I)),(8,iv a),(9,iv i)],[some (.box g.A)]⟩) g.L.length ⟨0,-1,rfl,o_,o_,o_,i_⟩;rintro m s ⟨i,a,rfl,hi,z,y,rfl⟩;rcases eD i g.L.length with e|U;have D:=pC (show i<(2^63-1) by have:=c.n;omega);have j:(g.L.map OpM.A)[i]?=some g.L[i].A:=aO _ g.L i e;generalize g.L[i]=o at *
 cases J:o.By==d;simp only[go_sem,aP,aT e,j,J,D];exact⟨g.L.length-(i+1),o_,i+1,a,rfl,o_,z,y,rfl⟩;simp only[go_sem,aP,aT e,j,J,D];exact⟨g.L.length-(i+1),o_,i+1,i,rfl,o_,o_,o_,rfl⟩
 ·obtain rfl:i=g.L.length:=o_;have Y:VX g (aMj n) (jI g.I):=⟨λx w=>(dQ _).mem_iff.1 w,λ_ x w=>(dQ _).mem_iff.2 w⟩
  have R:(jI g.I).length<=2000:=by rw[(dQ _).length_eq];have:=c.i;omega
  have b:(n:Int).tmod 37=((n%37:Nat):Int):=Y_;have k:(n:Int).tmod 3=((n%3:Nat):Int):=Y_;have P:(n:Int).tdiv 3=((n/3:Nat):Int):=Y_;have B:=c.i;have t:∀l:D_,l.length<=1000->(Fd g l).length<=2000:=λl Z=>by have:=Ou (g:=g) l;omega
  by_cases f:n%37=7/\0<a;have c1:(((n%37:Nat):Int)==7)=true:=by simp[f.1]
  have c2:decide (0<a)=true:=decide_eq_true f.2;obtain⟨q,rfl⟩:=Int.eq_ofNat_of_zero_le (o_:0<=a);have v:q<g.L.length:=o_;have j:(g.L.map OpM.A)[q]?=some g.L[q].A:=aO _ g.L q v;have H:=c.ops _ (eQ v);simp only[go_sem,aP,aS (bP _),b,c1,c2,gt_iff_lt,j];apply cX (ZL g g.L[q].Past c (by have:=H.past.1;omega));simp only[go_sem];exact⟨_,.inl rfl,⟨Fg c.i _,λh=>absurd f.1 h.1⟩,t _ (by have:=H.past.1;omega)⟩
  ·have C:(((((n%37:Nat):Int)==7)=true/\decide (0<a)=false))\/(((n%37:Nat):Int)==7)=false:=p_;by_cases h3:0<n%3;have c3:decide (0<((n%3:Nat):Int))=true:=decide_eq_true o_;rcases C with⟨c1,c2⟩|c1;simp only[go_sem,aP,aS (bP _),b,c1,c2,gt_iff_lt,undef,k,c3];grind;simp only[go_sem,aP,aS (bP _),b,c1,gt_iff_lt,undef,k,c3];grind
   ·have c3:decide (0<((n%3:Nat):Int))=false:=decide_eq_false o_;by_cases K:a<0;have u:decide (a<0)=true:=decide_eq_true K;rcases C with⟨c1,c2⟩|c1;simp only[go_sem,aP,aS (bP _),b,c1,c2,gt_iff_lt,k,c3,u];grind;simp only[go_sem,aP,aS (bP _),b,c1,gt_iff_lt,undef,k,c3,u];grind
    ·have u:decide (a<0)=false:=decide_eq_false K;obtain⟨q,rfl⟩:=Int.eq_ofNat_of_zero_le (o_:0<=a);have v:q<g.I.length:=o_;have j:(g.I.map Id.A)[q]?=some g.I[q].A:=aO _ g.I q v;have F:¬(g.I.length:Int)=0:=o_;have E:IntKind.i64.wrap ((n/3:Nat):Int)=((n/3:Nat):Int):=aJ o_ o_;have O:((n/3:Nat):Int).tmod (g.I.length:Int)=((n/3%g.I.length:Nat):Int):=Y_;have S:n/3%g.I.length<g.I.length:=zM _ o_;have N:(g.I.map Id.A)[n/3%g.I.length]?=some g.I[n/3%g.I.length].A:=aO _ g.I _ S;have Q:=XG (G:=G) g [g.I[q],g.I[n/3%g.I.length]] c s_;rcases C with⟨c1,c2⟩|c1
     all_goals (
      first
      |simp only[go_sem,aP,aS (bP _),b,c1,c2,gt_iff_lt,k,c3,u,P,O,j,N,F,E,Id.A_def]|simp only[go_sem,aP,aS (bP _),b,c1,gt_iff_lt,undef,k,c3,u,P,O,j,N,F,E,Id.A_def]
      apply cH (args2:=[.ag g.A,ids [g.I[q],g.I[n/3%g.I.length]]]) (aB _) rfl rfl Q
      rintro r V ⟨rfl,rfl⟩
      refine⟨x_,by simp only[cA,forall_eq,xH];exact MR _,?_⟩
      simp only[go_sem]
      exact⟨_,.inr rfl,⟨Fg c.i _,λh=>absurd h.2 h3⟩,t _ s_⟩)
def PB(g:GM)(h:g.ok)(l:D_)(t:l.length<=maxLen)(k:Int):aA PQ G zV [.ag g.A,ids l,iv k] [] λr T=>
 ((∃(i:Nat)(h1:i<g.I.length)(h2:i<g.L.length),g.L[i].Kind=k/\g.I[i]∈l/\r=.tup [.ag g.I[i].A,.ag g.L[i].A])\/r=.tup [.ag (⟨0,0,0⟩:Id).A,.ag P1])/\T=[]:=by
 apply aC Lj;have x:=h.n;have y:=h.i;have w0:IntKind.i64.wrap ((g.L.length:Int)-1)=(g.L.length:Int)-1:=aJ o_ o_;simp only[go_sem,aP,w0];apply cO (λm s=>∃i:Int,-1<=i/\i<g.L.length/\m=(i+1).toNat/\s=⟨0,[(1,ids l),(2,iv k),(3,.ptr 0 0),(6,.ptr 1 0),(7,.ptr 2 0),(8,iv i)],[some (.box g.A),some (.box [iv 0,iv 0,.v (.int .u64 0)]),some (.box P1)]⟩) g.L.length ⟨(g.L.length:Int)-1,o_,o_,o_,by simp only[go_sem,P1]⟩;rintro m s ⟨i,w,u,rfl,rfl⟩;by_cases h0:0<=i;obtain⟨q,rfl⟩:=Int.eq_ofNat_of_zero_le h0;have p:q<g.L.length:=o_;have a:q<g.I.length:=o_;have b:(g.L.map OpM.A)[q]?=some g.L[q].A:=aO _ g.L q p;have j:(g.I.map Id.A)[q]?=some g.I[q].A:=aO _ g.I q a;have o:decide (0<=(q:Int))=true:=decide_eq_true h0;have c:IntKind.i64.wrap ((q:Int)-1)=(q:Int)-1:=aJ o_ o_;have f:=uJ (G:=G) l g.I[q] t;rw[Id.A_def]at f;cases e:g.L[q].Kind==k;simp only[go_sem,P1,ge_iff_le,b,e,undef,c];exact⟨q,o_,(q:Int)-1,o_,o_,o_,rfl⟩;simp only[go_sem,P1,ge_iff_le,b,j,e,Id.A_def];apply cX f;by_cases d:g.I[q]∈l;simp only[go_sem,P1,d,decide_true,b,j,undef,Id.A_def];grind;simp only[go_sem,P1,d,decide_false,c];exact⟨q,o_,(q:Int)-1,o_,o_,o_,rfl⟩;have o:decide (0<=i)=false:=decide_eq_false h0;simp only[go_sem,P1,ge_iff_le,o];exact .inr rfl
end Hud
