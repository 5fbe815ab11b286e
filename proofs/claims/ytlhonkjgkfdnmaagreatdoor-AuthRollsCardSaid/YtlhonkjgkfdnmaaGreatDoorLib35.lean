import Derived.Test.YtlhonkjgkfdnmaaGreatDoorLib32
set_option linter.all false
set_option maxHeartbeats 40000000
namespace Hud
open Go
variable{G:L_}
section
variable{P:Program}{G:L_}{f:Nat}{args:O_}{T:aK}{p q:AV->aK->Prop}
def aA.dsub(s:aA P G f args T p)(n:∀r g,p r g->∃i,fH r i=true/\q i g):aA P G f args T q:=by
 have d:∀{h:GH}{φ:Nat->Value}{w w':World}{v:Value},CS h φ T w p v w'->CS h φ T w q v w':=by rintro h φ w w' v ⟨r,g,x,j,l,k,z,y⟩;obtain⟨i,o,m⟩:=n r g l;exact⟨i,g,x,j,m,k,z,ZT o y⟩
 intro h φ w c t hI u;rcases s h φ w c t hI u with⟨a,b⟩|⟨v,w',a,b⟩
 exact .inl ⟨a,b.mono λe w' ⟨v,l,k⟩=>⟨v,l,d k⟩⟩;exact .inr ⟨v,w',a,d b⟩
end
def aA.asub{P:Program}{G:L_}{f:Nat}{args a:O_}{T:aK}{p:AV->aK->Prop}(e:aA P G f a T p)(d:pL args a=true):aA P G f args T p :=
 λh c w b g hI i=>e h c w b g hI (MZ d i)
def lH(z:Int):mZ (IntKind.i64.wrap z):=by unfold mZ;simp only[IntKind.wrap,IntKind.bits,IntKind.signed];simp;omega
def aHd(z:Int):∃k:Nat,k<2^64/\IntKind.u64.wrap z=(k:Int):=by refine⟨(IntKind.u64.wrap z).toNat,?_,?_⟩<;>simp only[IntKind.wrap,IntKind.bits,IntKind.signed]<;>simp<;>omega
def aKv(z:Int):∃k:Nat,k<256/\IntKind.u8.wrap z=(k:Int):=by refine⟨(IntKind.u8.wrap z).toNat,?_,?_⟩<;>simp only[IntKind.wrap,IntKind.bits,IntKind.signed]<;>simp<;>omega
def C4(a:Int):O_:=[iv a,iv 0,iv 0,iv 0,.v (.slice none 0 0),iv 0,iv 0,iv 0,iv 0,.v (.slice none 0 0),iv 0,iv 0,.v (.int .u64 0),iv 0,.v (.slice none 0 0),.v (.slice none 0 0),iv 0,iv 0,.v (.int .u64 0),.v (.slice none 0 0),iv 0,iv 0,.v (.slice none 0 0),.v (.int .u64 0),.v (.slice none 0 0),.v (.int .u64 0),.v (.int .u64 0)]
def aMJ(b:Int):iZ (C4 b)=[]:=fI rfl rfl
def aNE(L:V_)(b:Int):xF L (C4 b)=C4 b:=fI rfl rfl
def aTa(L:V_)(n:Nat)(b:Int):EJ L n (C4 b)=C4 b:=fI rfl rfl
def aMK(b:Int):(C4 b).length=27:=fI rfl rfl
def aML(b:Int):(C4 b).drop 27=[]:=fI rfl rfl
def aTb(i k:Nat)(es:N_)(b:Int):IB i k es (C4 b)=C4 b:=fI rfl rfl
def OpM.d27(o:OpM):o.A.drop 27=[]:=fI rfl rfl
def OpM.up1(o:OpM)(x:Int):o.A.take 1++[iv x]++o.A.drop 2=OpM.A {o with Seq:=x}:=fI rfl rfl
def OpM.up3(o:OpM)(x:Int):o.A.take 3++[iv x]++o.A.drop 4=OpM.A {o with At:=x}:=fI rfl rfl
def OpM.up4(o:OpM)(l:D_):o.A.take 4++[ids l]++o.A.drop 5=OpM.A {o with Past:=l}:=fI rfl rfl
attribute [go_sem] aMJ aNE aTa aMK aML aTb OpM.d27 OpM.up1 OpM.up3 OpM.up4
def id0:(⟨0,0,0⟩:Id).ok:=⟨⟨d_,d_⟩,⟨d_,d_⟩,d_,d_⟩
def aGb:([]:List NodeM).length<=10/\∀x∈([]:List NodeM),x.ok:=⟨s_,s_⟩
def xC:([]:V_).length<=1000/\xN []:=⟨s_,λx a=>by simp at a⟩
def aGc{k:Nat}(h:k<256):[k].length<=1000/\xN [k]:=⟨s_,λx a=>by rw[cA.1 a];exact h⟩
def PA:∀l:List CardM,zF (l.map CardM.A) (l.map CardM.A)=true|[]=>rfl|c::l=>by simp only[fG,zF,CardM.A_def,pL,fH,O9,beq_self_eq_true,yH,PA l]
def aBe(cs:List CardM):aA PQ G Ci [.ls 5 (cs.map CardM.A)] [] λr T=>r=.ag (⟨cs,[],[],[],[]⟩:GM).A/\T=[]:=by refine aA.dsub (p:=λr T=>r=.ag [.ls 5 (cs.map CardM.A),.v (.slice none 0 0),.v (.slice none 0 0),.v (.slice none 0 0),.v (.slice none 0 0)]/\T=[]) (aC R9 ?_) ?_;simp only[go_sem];rintro r a ⟨rfl,rfl⟩;refine⟨_,?_,rfl,rfl⟩;simp only[fH,pL,GM.A,ids,uP,PA,Nat.beq_refl,yH]
def VQ:∀l:D_,zF (l.map Id.A) (l.map Id.A)=true|[]=>rfl|c::l=>by simp only[fG,zF,Id.A_def,pL,fH,O9,beq_self_eq_true,yH,VQ l]
def z5:O_:=[.v (.slice none 0 0),.v (.slice none 0 0),.v (.slice none 0 0),.v (.slice none 0 0),.v (.slice none 0 0)]
def kd:B_:=[6,4,3,2,5,7,8,3,6,9,11,11,13,12,10,4,3,2,6,13]
def RQ(n:Nat):Int:=kd.getD (n%20) 0
def aEq(n:Nat)(e:n<2^63-1):aA PQ G HO [iv n] [] λr T=>r=iv (RQ n)/\T=[]:=by
 apply aC P5;have d:(n:Int).tmod 20=((n%20:Nat):Int):=Z_;have c:n%20<kd.length:=zM _ d_;have b:(kd.map λn=>[iv n])[n%20]?=some [iv (RQ n)]:=by grind[RQ]
 simp only[kd,fG,uP]at b;have a:n%20<20:=c;simp only[go_sem,d,b,a]
def aEr(n:Nat):mZ (RQ n):=by
 have h1:∀m∈kd,mZ m:=by unfold mZ;decide
 have a:n%20<kd.length:=zM _ d_;grind[RQ]
def aKw(i:Nat):BoxM:=⟨1,1,i,1⟩
def BO(n:Nat):List BoxM:=(List.range n).map aKw
def aBf(n:Nat):BO (n+1)=BO n++[aKw n]:=by simp[BO,QH]
def JR(n:Nat)(d:n<=1000):aA PQ G Ao [iv n] [] λr T=>r=F5 (BO n)/\T=[]:=by
 refine aA.fin (p:=λr T=>r=.own 0/\T=[some (.arr 4 ((BO n).map BoxM.A))]) (aC P7 ?_) [0] ?_;rotate_left;rintro r e ⟨rfl,rfl⟩;simp only[go_sem,gQ];simp only[go_sem];refine aQ n (λi=>⟨0,[(0,iv n),(3,.own 0),(4,iv i)],[some (.arr 4 ((BO i).map BoxM.A))]⟩) (λ_=>True) ?_ trivial ?_ ?_;rfl;intro i c _;have a:=fQ i o_;have b:(BO i).length=i:=by simp[BO]
 have u:IntKind.u64.wrap (i:Int)=i:=aCD o_ o_;simp only[go_sem,aT c,a,aP,b,u,(a_:i+1<=maxLen),(o_:(i+1)*32<=140737488355328)];rw[aBf,bZ];rfl;intro _;simp only[go_sem,aS (bP _)]
def VX(g:GM)(q:Prop)(X:D_):Prop:=(∀x∈X,x∈g.I)/\(q->∀x∈g.I,x∈X)
def aON(n:Nat):Prop:=n%37≠7/\0<n%3
def aEs (g:GM) (c:g.ok) (M:g.L.length<=200) (d:Int) (n:Nat) (W:n<1000000) (h0:0<g.L.length):aA PQ G DO [.ag g.A,iv d,iv n] [] λr T=>(∃X:D_,r=ids X/\VX g (aON n) X/\X.length<=2000)/\T=[]:=by
 refine aA.fin (p:=λr T=>∃X:D_,((r=ids X/\T=[])\/(r=.own 0/\T=[some (.arr 3 (X.map Id.A))]))/\VX g (aON n) X/\X.length<=2000) (aC P6 ?_) [0] ?_;rotate_left;rintro r V ⟨X,⟨rfl,rfl⟩|⟨rfl,rfl⟩,h1,h2⟩;simp only[go_sem,gQ,List.getElem?_nil];grind;simp only[go_sem,gQ];grind;simp only[go_sem];apply cX (JG g c);simp only[go_sem];apply cO (λm s=>∃(i:Nat)(a:Int),m=g.L.length-i/\i<=g.L.length/\-1<=a/\a<g.L.length/\s=⟨0,[(1,iv d),(2,iv n),(3,.ptr 0 0),(7,ids (jI g.I)),(8,iv a),(9,iv i)],[some (.box g.A)]⟩) g.L.length ⟨0,-1,rfl,o_,o_,o_,m_⟩;rintro m s ⟨i,a,rfl,hi,z,y,rfl⟩;rcases eD i g.L.length with e|U;have D:=pC (show i<(2^63-1) by have:=c.n;omega);have j:(g.L.map OpM.A)[i]?=some g.L[i].A:=aO _ g.L i e;generalize g.L[i]=o at *
 cases J:o.By==d;simp only[go_sem,aP,aT e,j,J,D];exact⟨g.L.length-(i+1),o_,i+1,a,rfl,o_,z,y,rfl⟩;simp only[go_sem,aP,aT e,j,J,D];exact⟨g.L.length-(i+1),o_,i+1,i,rfl,o_,o_,o_,rfl⟩
 ·obtain rfl:i=g.L.length:=o_;have Y:VX g (aON n) (jI g.I):=⟨λx w=>(dQ _).mem_iff.1 w,λ_ x w=>(dQ _).mem_iff.2 w⟩
  have R:(jI g.I).length<=2000:=by rw[(dQ _).length_eq];have:=c.i;omega
  have b:(n:Int).tmod 37=((n%37:Nat):Int):=Z_;have k:(n:Int).tmod 3=((n%3:Nat):Int):=Z_;have P:(n:Int).tdiv 3=((n/3:Nat):Int):=Z_;have B:=c.i;have t:∀l:D_,l.length<=1000->(Fd g l).length<=2000:=λl Z=>by have:=Ou (g:=g) l;omega
  by_cases f:n%37=7/\0<a;have c1:(((n%37:Nat):Int)==7)=true:=by simp[f.1]
  have c2:decide (0<a)=true:=decide_eq_true f.2;obtain⟨q,rfl⟩:=Int.eq_ofNat_of_zero_le (o_:0<=a);have v:q<g.L.length:=o_;have j:(g.L.map OpM.A)[q]?=some g.L[q].A:=aO _ g.L q v;have H:=c.ops _ (eQ v);simp only[go_sem,aP,aS (bP _),b,c1,c2,gt_iff_lt,j];apply cX (ZL g g.L[q].Past c (by have:=H.past.1;omega));simp only[go_sem];exact⟨_,.inl rfl,⟨Fg c.i _,λh=>absurd f.1 h.1⟩,t _ (by have:=H.past.1;omega)⟩
  ·have C:(((((n%37:Nat):Int)==7)=true/\decide (0<a)=false))\/(((n%37:Nat):Int)==7)=false:=b_;by_cases h3:0<n%3;have c3:decide (0<((n%3:Nat):Int))=true:=decide_eq_true o_;rcases C with⟨c1,c2⟩|c1;simp only[go_sem,aP,aS (bP _),b,c1,c2,gt_iff_lt,undef,k,c3];grind;simp only[go_sem,aP,aS (bP _),b,c1,gt_iff_lt,undef,k,c3];grind
   ·have c3:decide (0<((n%3:Nat):Int))=false:=decide_eq_false o_;by_cases K:a<0;have u:decide (a<0)=true:=decide_eq_true K;rcases C with⟨c1,c2⟩|c1;simp only[go_sem,aP,aS (bP _),b,c1,c2,gt_iff_lt,k,c3,u];grind;simp only[go_sem,aP,aS (bP _),b,c1,gt_iff_lt,undef,k,c3,u];grind
    ·have u:decide (a<0)=false:=decide_eq_false K;obtain⟨q,rfl⟩:=Int.eq_ofNat_of_zero_le (o_:0<=a);have v:q<g.I.length:=o_;have j:(g.I.map Id.A)[q]?=some g.I[q].A:=aO _ g.I q v;have F:¬(g.I.length:Int)=0:=o_;have E:IntKind.i64.wrap ((n/3:Nat):Int)=((n/3:Nat):Int):=aJ o_ o_;have O:((n/3:Nat):Int).tmod (g.I.length:Int)=((n/3%g.I.length:Nat):Int):=Z_;have S:n/3%g.I.length<g.I.length:=zM _ o_;have N:(g.I.map Id.A)[n/3%g.I.length]?=some g.I[n/3%g.I.length].A:=aO _ g.I _ S;have Q:=XG (G:=G) g [g.I[q],g.I[n/3%g.I.length]] c s_;rcases C with⟨c1,c2⟩|c1
     all_goals (
      first
      |simp only[go_sem,aP,aS (bP _),b,c1,c2,gt_iff_lt,k,c3,u,P,O,j,N,F,E,Id.A_def]|simp only[go_sem,aP,aS (bP _),b,c1,gt_iff_lt,undef,k,c3,u,P,O,j,N,F,E,Id.A_def]
      apply cH (args2:=[.ag g.A,ids [g.I[q],g.I[n/3%g.I.length]]]) (aB _) rfl rfl Q
      rintro r V ⟨rfl,rfl⟩
      refine⟨w_,s8,?_⟩
      simp only[go_sem]
      exact⟨_,.inr rfl,⟨Fg c.i _,λh=>absurd h.2 h3⟩,t _ s_⟩)
def PB(g:GM)(h:g.ok)(l:D_)(t:l.length<=maxLen)(k:Int):aA PQ G zV [.ag g.A,ids l,iv k] [] λr T=>
 ((∃(i:Nat)(h1:i<g.I.length)(h2:i<g.L.length),g.L[i].Kind=k/\g.I[i]∈l/\r=.tup [.ag g.I[i].A,.ag g.L[i].A])\/r=.tup [.ag (⟨0,0,0⟩:Id).A,.ag P1])/\T=[]:=by
 apply aC Lj;have x:=h.n;have y:=h.i;have w0:IntKind.i64.wrap ((g.L.length:Int)-1)=(g.L.length:Int)-1:=aJ o_ o_;simp only[go_sem,aP,w0];apply cO (λm s=>∃i:Int,-1<=i/\i<g.L.length/\m=(i+1).toNat/\s=⟨0,[(1,ids l),(2,iv k),(3,.ptr 0 0),(6,.ptr 1 0),(7,.ptr 2 0),(8,iv i)],[some (.box g.A),some (.box [iv 0,iv 0,.v (.int .u64 0)]),some (.box P1)]⟩) g.L.length ⟨(g.L.length:Int)-1,o_,o_,o_,by simp only[go_sem,P1]⟩;rintro m s ⟨i,w,u,rfl,rfl⟩;by_cases h0:0<=i;obtain⟨q,rfl⟩:=Int.eq_ofNat_of_zero_le h0;have p:q<g.L.length:=o_;have a:q<g.I.length:=o_;have b:(g.L.map OpM.A)[q]?=some g.L[q].A:=aO _ g.L q p;have j:(g.I.map Id.A)[q]?=some g.I[q].A:=aO _ g.I q a;have o:decide (0<=(q:Int))=true:=decide_eq_true h0;have c:IntKind.i64.wrap ((q:Int)-1)=(q:Int)-1:=aJ o_ o_;have f:=uJ (G:=G) l g.I[q] t;rw[Id.A_def]at f;cases e:g.L[q].Kind==k;simp only[go_sem,P1,ge_iff_le,b,e,undef,c];exact⟨q,o_,(q:Int)-1,o_,o_,o_,rfl⟩;simp only[go_sem,P1,ge_iff_le,b,j,e,Id.A_def];apply cX f;by_cases d:g.I[q]∈l;simp only[go_sem,P1,d,decide_true,b,j,undef,Id.A_def];grind;simp only[go_sem,P1,d,decide_false,c];exact⟨q,o_,(q:Int)-1,o_,o_,o_,rfl⟩;have o:decide (0<=i)=false:=decide_eq_false h0;simp only[go_sem,P1,ge_iff_le,o];exact .inr rfl
def aPa:∀l:List CardM,zF (l.map CardM.A) (l.map CardM.A)=true|[]=>rfl|c::l=>by simp only[fG,zF,CardM.A_def,pL,fH,O9,beq_self_eq_true,yH,aPa l]
def aQV(cs:List CardM):aA PQ G aMt [.ls 5 (cs.map CardM.A)] [] λr T=>r=.ag (RM.new cs).A/\T=[]:=by refine aA.dsub (p:=λr T=>r=.ag [.ls 5 (cs.map CardM.A),.v (.slice none 0 0),.v (.slice none 0 0),.v (.slice none 0 0),iv 0,.v (.slice none 0 0)]/\T=[]) (aC aOF ?_) ?_;simp only[go_sem];rintro r a ⟨rfl,rfl⟩;refine⟨_,?_,rfl,rfl⟩;simp only[fH,pL,RM.A,RM.new,rG,uP,aPa,O9,beq_self_eq_true,Nat.beq_refl,yH]
def aNU(r:RM)(d role:Int):MM:=⟨eI r d,role,false,⟨0,0,0⟩,[],0,0,false,0⟩
def aPb(m:MM):pL m.A m.A=true:=by
 have:∀l:B_,zF (l.map λn=>[iv n]) (l.map λn=>[iv n])=true:=by
  intro l
  induction l with
  |nil=>rfl|cons x l ih=>simp only[fG,zF,pL,fH,O9,beq_self_eq_true,yH,ih]
 simp only[MM.A_def,pL,fH,rG,O9,beq_self_eq_true,Nat.beq_refl,yH,this]
def aKo{α:Type}{A:α->O_}(h:∀x,pL (A x) (A x)=true){X Y:N_}(a:zF X Y=true):∀l:List α,zF (l.map A++X) (l.map A++Y)=true|[]=>by simpa using a|x::l=>by simp only[fG,jC,zF,h,mF,aKo h a l]
def aPM(l:B_):zF (l.map λn=>[iv n]) (l.map λn=>[iv n])=true:=by have:=aKo (A:=λn:Int=>[iv n]) (X:=[]) (Y:=[]) (λx=>by simp only[pL,fH,O9,beq_self_eq_true,yH]) rfl l;simpa using this
def aQh(l:List VM):zF (l.map VM.A) (l.map VM.A)=true:=by have:=aKo (A:=VM.A) (X:=[]) (Y:=[]) (λx=>by simp only[VM.A_def,pL,fH,O9,beq_self_eq_true,yH]) rfl l;simpa using this
def aQi(l:List MM):zF (l.map MM.A) (l.map MM.A)=true:=by have:=aKo (A:=MM.A) (X:=[]) (Y:=[]) aPb rfl l;simpa using this
def aPV(r:RM)(d role:Int)(a:r.ok)(q:r.In.length<100000):aA PQ G aIW [.ag r.A,iv d,iv role] [] λy T=>y=.ag (mU r d role).A/\T=[]:=by
 refine aA.dsub (p:=λy T=>(y=.ag r.A/\mU r d role=r\/y=.ag [.ls 5 (r.Cards.map CardM.A),rG (r.In++[d]),rG r.Gone,.ls 11 (r.L.map MM.A),iv r.Back,.ls 6 (r.V.map VM.A)]/\mU r d role={r with In:=r.In++[d]} \/
  y=.ag [.ls 5 (r.Cards.map CardM.A),rG (r.In++[d]),rG r.Gone,.ls 11 (r.L.map MM.A++[[iv (eI r d),iv role,.v (.bool false),iv 0,iv 0,uv 0,.v (.slice none 0 0),iv 0,iv 0,.v (.bool false),iv 0]]),iv r.Back,.ls 6 (r.V.map VM.A)]/\mU r d role={r with In:=r.In++[d],L:=r.L++[aNU r d role]})/\T=[]) ?_ ?_
 rotate_left;rintro y s ⟨h,rfl⟩;refine⟨_,?_,rfl,rfl⟩;rcases h with⟨rfl,h⟩|⟨rfl,h⟩|⟨rfl,h⟩
 rw[h];simp only[fH,pL,RM.A_def,rG,aPa,aPM,aQh,aQi,O9,beq_self_eq_true,Nat.beq_refl,yH];rw[h];simp only[fH,pL,RM.A_def,rG,aPa,aPM,aQh,aQi,O9,beq_self_eq_true,Nat.beq_refl,yH];rw[h];have w:=aKo (A:=MM.A) (X:=[[iv (eI r d),iv role,.v (.bool false),iv 0,iv 0,uv 0,.v (.slice none 0 0),iv 0,iv 0,.v (.bool false),iv 0]]) (Y:=[(aNU r d role).A]) aPb (by simp only[aNU,MM.A_def,zF,pL,fH,rG,uP,O9,beq_self_eq_true,Nat.beq_refl,yH];rfl) r.L;simp only[fH,pL,RM.A_def,rG,bZ,fG,uP];have hI:=aPM (r.In++[d]);simp only[bZ,fG,uP]at hI;simp only[aPa,aPM,aQh,w,hI,O9,beq_self_eq_true,Nat.beq_refl,yH]
 refine aA.fin (p:=λy T=>(y=.ag r.A/\T=[]/\mU r d role=r) \/
  (y=.ag [.ls 5 (r.Cards.map CardM.A),.own 0,rG r.Gone,.ls 11 (r.L.map MM.A),iv r.Back,.ls 6 (r.V.map VM.A)]/\T=[some (.arr 1 ((r.In++[d]).map λn=>[iv n]))]/\mU r d role={r with In:=r.In++[d]}) \/
  (y=.ag [.ls 5 (r.Cards.map CardM.A),.own 0,rG r.Gone,.own 1,iv r.Back,.ls 6 (r.V.map VM.A)]/\T=[some (.arr 1 ((r.In++[d]).map λn=>[iv n])),some (.arr 11 (r.L.map MM.A++[[iv (eI r d),iv role,.v (.bool false),iv 0,iv 0,uv 0,.v (.slice none 0 0),iv 0,iv 0,.v (.bool false),iv 0]]))]/\mU r d role={r with In:=r.In++[d],L:=r.L++[aNU r d role]})) (aC aNL ?_) [0,1] ?_
 have C:=a.i;have B:=a.l;have t:=aMB (G:=G) r d a;have f:=aHf (G:=G) r d a;simp only[go_sem,RM.A_def]at t f⊢;apply cX t;cases m:lZ r d;simp only[go_sem,m,RM.A_def];exact .inl (by rw[mU,m];rfl);simp only[go_sem,m,aP,(o_:r.In.length*8<=140737488355328),(a_:r.In.length<=maxLen),(o_:(r.In.length+1)*8<=140737488355328),(a_:r.In.length+1<=maxLen)];obtain⟨b,k⟩:∃b:RM,b={r with In:=r.In++[d]}:=⟨_,rfl⟩
 have e:b.ok:=by subst k;exact⟨a.c,by rw[dZ];exact q,a.g,a.l,a.v,a.mg⟩
 have f:=aHf (G:=G) b d e;have o:=aFd (G:=G) b (eI r d) e;have x:eI b d=eI r d:=by subst k;rfl
 have z:jL b (eI r d)=jL r (eI r d):=by subst k;rfl
 rw[x]at f;rw[z]at o;have u:b.A=[.ls 5 (r.Cards.map CardM.A),.ls 1 (r.In.map (λn=>[iv n])++[[iv d]]),rG r.Gone,.ls 11 (r.L.map MM.A),iv r.Back,.ls 6 (r.V.map VM.A)]:=by subst k;simp only[RM.A_def,rG,bZ,fG,uP]
 rw[u]at f o;have j:mU r d role={r with In:=r.In++[d],L:=if jL r (eI r d)<0 then r.L++[aNU r d role] else r.L}:=by rw[mU,if_neg (by simp[m])];rfl
 apply cH (aB _) rfl rfl f;rintro y s ⟨rfl,rfl⟩;refine⟨w_,s_,?_⟩;simp only[go_sem];apply cH (aB _) rfl rfl o;rintro y s ⟨rfl,rfl⟩;refine⟨w_,s_,?_⟩;simp only[go_sem];refine aL (λh=>?_) (λh=>?_);rw[if_pos (of_decide_eq_true h)]at j;simp only[go_sem,aP,(o_:r.L.length*104<=140737488355328),(a_:r.L.length<=maxLen),(o_:(r.L.length+1)*104<=140737488355328),(a_:r.L.length+1<=maxLen)];exact .inr (.inr ⟨rfl,j⟩);rw[if_neg (of_decide_eq_false h)]at j;simp only[go_sem];exact .inr (.inl j);rintro y s (⟨rfl,rfl,h⟩|⟨rfl,rfl,h⟩|⟨rfl,rfl,h⟩);simp only[go_sem,gQ,List.getElem?_nil,RM.A_def];exact .inl h;simp only[go_sem,gQ,RM.A_def,List.getElem?_nil,List.set_nil,rG];exact .inr (.inl h);simp only[go_sem,gQ,RM.A_def,List.getElem?_nil,List.set_nil,rG];exact .inr (.inr h)
def aO0(l:List MM)(k:Nat)(m:MM)(a:k<l.length)(d:l.length<=100000):aA PQ G aJL [.ls 11 (l.map MM.A),iv k,.ag m.A] [] λy T=>y=.ls 11 ((l.set k m).map MM.A)/\T=[]:=by
 refine aA.fin (p:=λy T=>y=.own 0/\T=[some (.arr 11 ((l.set k m).map MM.A))]) (aC aOq ?_) [0] ?_;rotate_left;rintro y e ⟨rfl,rfl⟩;simp only[go_sem,gQ];have b:(l.map MM.A)[k]?=some l[k].A:=aO _ l k a;have c:(l.set k m).map MM.A=(l.map MM.A).set k m.A:=by rw[Ba]
 rw[c];generalize l[k]=x at *
 simp only[go_sem,aP,(o_:l.length*104<=140737488355328),(a_:l.length<=maxLen),a,b,MM.A_def]
def zR:O_:=[.v (.slice none 0 0),.v (.slice none 0 0),.v (.slice none 0 0),.v (.slice none 0 0),iv 0,.v (.slice none 0 0)]
def aPN (r:RM) (d:Int) (j:r.ok) (P:r.Gone.length<100000):aA PQ G aJK [.ag r.A,iv d] [] λy T=>y=.ag (lN r d).A/\T=[]:=by
 apply aC aO5;have K:=j.i;have E:=aKc (G:=G) r.In d o_;have k:=aHf (G:=G) r d j;have f:=λe=>aHf (G:=G) r e j;simp only[go_sem,RM.A_def]at k f⊢;apply cX E;cases u:decide (d∈r.In);simp only[go_sem,u];rw[lN,u];rfl;simp only[go_sem,u];apply cX k;simp only[go_sem];refine aQ r.In.length (λi=>⟨0,[(1,iv d),(2,.ptr 0 0),(4,.ptr 1 0),(5,iv (eI r d)),(6,.own 2),(7,.v (.bool (((r.In.take i).filter λx=>x !=d).any λx=>eI r x==eI r d))),(8,iv i)],[some (.box r.A),some (.box zR),some (.arr 1 (((r.In.take i).filter λx=>x !=d).map λn=>[iv n]))]⟩) (λ_=>True) ?_ trivial ?_ ?_;simp only[go_sem,RM.A_def,zR,uQ,List.filter_nil,uP,List.any_nil];intro i a _;have g:=fQ i o_;have h:(r.In.map λn=>[iv n])[i]?=some [iv r.In[i]]:=aO _ r.In i a;have o:r.In.take (i+1)=r.In.take i++[r.In[i]]:=lB a;have D:((r.In.take i).filter λx=>x !=d).length<=i:=by have:=List.length_filter_le (λx=>x !=d) (r.In.take i);rw[eC]at this;omega
 have H:=f r.In[i];rw[o,Mf];generalize(r.In.take i).filter (λx=>x !=d)=L at *
 cases c1:r.In[i]!=d;have e:([r.In[i]].filter λx=>x !=d)=[]:=by simp[c1]
 rw[e];simp only[go_sem,RM.A_def,zR,rG,aP,aT a,h,c1,g,jO];have e:([r.In[i]].filter λx=>x !=d)=[r.In[i]]:=by simp[c1]
 rw[e,List.any_append,bZ];cases c2:L.any λx=>eI r x==eI r d;simp only[go_sem,RM.A_def,zR,rG,aP,aT a,h,c1,c2,g,undef,(o_:(L.length+1)*8<=140737488355328),(a_:L.length+1<=maxLen)];apply cX H;simp only[go_sem,g,RM.A_def,zR,rG,List.any_cons,List.any_nil,EB,EH];simp only[go_sem,RM.A_def,zR,rG,aP,aT a,h,c1,c2,g,undef,(o_:(L.length+1)*8<=140737488355328),(a_:L.length+1<=maxLen)];intro _;simp only[go_sem,RM.A_def,zR,rG,aP,aS (bP _),dE,(o_:r.Gone.length*8<=140737488355328),(a_:r.Gone.length<=maxLen),(o_:(r.Gone.length+1)*8<=140737488355328),(a_:r.Gone.length+1<=maxLen)]
 have p:lN r d=(if((r.In.filter λx=>x !=d).any λx=>eI r x==eI r d)=true then {r with In:=r.In.filter (λx=>x !=d),Gone:=r.Gone++[d]} else
   {r with In:=r.In.filter (λx=>x !=d),Gone:=r.Gone++[d],L:=r.L.filter (λm=>m.N !=eI r d),V:=Fh {r with In:=r.In.filter (λx=>x !=d),Gone:=r.Gone++[d],L:=r.L.filter λm=>m.N !=eI r d} }):=by
  rw[lN,u];rfl
 have B:(r.In.filter λx=>x !=d).length<=100000:=uR (List.length_filter_le _ _) K;generalize r.In.filter (λx=>x !=d)=I at *
 refine aL (λt=>?_) (λt=>?_);rw[if_pos t]at p;rw[p];simp only[go_sem,RM.A_def,rG,bZ,fG,uP];rw[if_neg (by simp[t])]at p;rw[p];clear p t k f E;generalize eI r d=n at *
 have D:=j.l;simp only[go_sem];refine aQ r.L.length (λi=>⟨0,[(2,.ptr 0 0),(4,.ptr 1 0),(5,iv n),(9,.own 2),(10,.own 3),(11,iv i)],[some (.box {r with In:=I,Gone:=r.Gone++[d]}.A),some (.box zR),some (.arr 11 (((r.L.take i).filter λm=>m.N !=n).map MM.A)),some (.arr 6 [])]⟩) (λ_=>True) ?_ trivial ?_ ?_;simp only[go_sem,RM.A_def,zR,rG,bZ,fG,uP,uQ,List.filter_nil];intro i a _;have g:=fQ i o_;have h:(r.L.map MM.A)[i]?=some r.L[i].A:=aO _ r.L i a;have o:r.L.take (i+1)=r.L.take i++[r.L[i]]:=lB a;have z:((r.L.take i).filter λm=>m.N !=n).length<=i:=by have:=List.length_filter_le (λm:MM=>m.N !=n) (r.L.take i);rw[eC]at this;omega
 rw[o,Mf];generalize(r.L.take i).filter (λm=>m.N !=n)=L at *
 generalize r.L[i]=m at *
 cases c1:m.N !=n;have e:([m].filter λm=>m.N !=n)=[]:=by simp[c1]
 rw[e];simp only[go_sem,RM.A_def,MM.A_def,zR,rG,aP,aT a,h,c1,g,jO];have e:([m].filter λm=>m.N !=n)=[m]:=by simp[c1]
 rw[e,bZ];simp only[go_sem,RM.A_def,MM.A_def,zR,rG,aP,aT a,h,c1,g,(o_:(L.length+1)*104<=140737488355328),(a_:L.length+1<=maxLen)];intro _;have C:=j.v;obtain⟨b,s⟩:∃b:RM,b={r with In:=I,Gone:=r.Gone++[d],L:=r.L.filter λm=>m.N !=n}:=⟨_,rfl⟩
 have w:b.ok:=by subst s;exact⟨j.c,B,c_,uR (List.length_filter_le _ _) D,C,λm J=>j.mg m (gR.1 J).1⟩
 have q:=λx=>aLX (G:=G) b x w;have F:[AV.ls 5 (r.Cards.map CardM.A),.ls 1 (I.map λn=>[iv n]),.ls 1 (r.Gone.map (λn=>[iv n])++[[iv d]]),.ls 11 ((r.L.filter λm=>m.N !=n).map MM.A),iv r.Back,.ls 6 (r.V.map VM.A)]=b.A:=by subst s;simp only[RM.A_def,rG,bZ,fG,uP]
 have M:b.V=r.V:=by subst s;rfl
 have O:({r with In:=I,Gone:=r.Gone++[d],L:=r.L.filter (λm=>m.N !=n),V:=Fh {r with In:=I,Gone:=r.Gone++[d],L:=r.L.filter λm=>m.N !=n} }:RM)={b with V:=Fh b}:=by subst s;rfl
 rw[O];simp only[go_sem,RM.A_def,zR,rG,aP,aS (bP _),dE,bZ,fG,uP];rw[F];refine aQ b.V.length (λi=>⟨0,[(2,.ptr 0 0),(4,.ptr 1 0),(10,.own 2),(12,iv i)],[some (.box b.A),some (.box zR),some (.arr 6 (((b.V.take i).filter λv=>decide (0<=pZ b v.Of)).map VM.A))]⟩) (λ_=>True) ?_ trivial ?_ ?_;simp only[go_sem,RM.A_def,rG,zR,uQ,List.filter_nil,uP];intro i a _;rw[<-M]at C;have g:=fQ i o_;have h:(b.V.map VM.A)[i]?=some b.V[i].A:=aO _ b.V i a;have o:b.V.take (i+1)=b.V.take i++[b.V[i]]:=lB a;have z:((b.V.take i).filter λv=>decide (0<=pZ b v.Of)).length<=i:=by have:=List.length_filter_le (λv:VM=>decide (0<=pZ b v.Of)) (b.V.take i);rw[eC]at this;omega
 have q:=q b.V[i].Of;rw[o,Mf];generalize(b.V.take i).filter (λv=>decide (0<=pZ b v.Of))=L at *
 generalize b.V[i]=v at *
 clear F;simp only[go_sem,RM.A_def,VM.A_def,Id.A_def,zR,rG,aP,aT a,h,ge_iff_le]at q⊢;apply cX q;cases c1:decide (0<=pZ b v.Of);have e:([v].filter λv=>decide (0<=pZ b v.Of))=[]:=by simp[of_decide_eq_false c1]
 rw[e];simp only[go_sem,aP,a,h,c1,g,RM.A_def,zR,rG,jO];have e:([v].filter λv=>decide (0<=pZ b v.Of))=[v]:=by simp[of_decide_eq_true c1]
 rw[e,bZ];simp only[go_sem,aP,a,h,c1,g,VM.A_def,RM.A_def,zR,rG,(o_:(L.length+1)*48<=140737488355328),(a_:L.length+1<=maxLen)];intro _;simp only[go_sem,RM.A_def,zR,rG,aP,aS (bP _),dE];rfl
def aPx(r:RM)(o:OpM)(x:Id)(d:r.ok)(I:o.ok):aA PQ G aK7 [.ag r.A,.ag o.A,.ag x.A] [] λy T=>y=.ag (BN r o x).A/\T=[]:=by
 have p:=aHf (G:=G) r o.By d;have s:=aFd (G:=G) r (eI r o.By) d;have D:=d.l;have B:=aN8 (λm:MM=>m.N==eI r o.By) r.L;rw[show qX (λm:MM=>m.N==eI r o.By) r.L=jL r (eI r o.By) from rfl]at B;have F:BN r o x=(if jL r (eI r o.By)<0 then r else {r with L:=r.L.set (jL r (eI r o.By)).toNat ⟨(r.L.getD (jL r (eI r o.By)).toNat default).N,(r.L.getD (jL r (eI r o.By)).toNat default).Role,true,x,o.Guards,o.Need,o.Wait,false,0⟩,V:=Fh {r with L:=r.L.set (jL r (eI r o.By)).toNat ⟨(r.L.getD (jL r (eI r o.By)).toNat default).N,(r.L.getD (jL r (eI r o.By)).toNat default).Role,true,x,o.Guards,o.Need,o.Wait,false,0⟩} }):=by rw[BN]
 rw[F];clear F;generalize jL r (eI r o.By)=k at *
 apply aC aMf;simp only[go_sem,RM.A_def]at p s⊢;apply cX p;simp only[go_sem];apply cX s;simp only[go_sem];by_cases z:k<0;have c1:decide (k<0)=true:=decide_eq_true z;rw[if_pos z];simp only[go_sem,c1];have c1:decide (k<0)=false:=decide_eq_false z;rw[if_neg z];obtain⟨q,rfl⟩:=Int.eq_ofNat_of_zero_le (o_:0<=k);have w:q<r.L.length:=o_;have f:(r.L.map MM.A)[q]?=some r.L[q].A:=aO _ r.L q w;have K:r.L.getD q default=r.L[q]:=by simp[rH,w]
 have j:=aO0 (G:=G) r.L q ⟨r.L[q].N,r.L[q].Role,true,x,o.Guards,o.Need,o.Wait,false,0⟩ w D;rw[show((q:Int).toNat)=q from rfl,K];simp only[MM.A_def,Id.A_def]at j f;generalize r.L[q]=m at *
 simp only[go_sem,c1,aP,w,f,Id.A_def];apply cX j;obtain⟨a,t⟩:∃a:RM,a={r with L:=r.L.set q ⟨m.N,m.Role,true,x,o.Guards,o.Need,o.Wait,false,0⟩}:=⟨_,rfl⟩
 have n:a.ok:=by subst t;refine⟨d.c,d.i,d.g,by rw[cL];exact D,d.v,λy H=>?_⟩;rcases aGK H with h|h;exact d.mg y h;rw[h];exact I.guards.1
 have P:=n.v;have u:=λx=>aLX (G:=G) a x n;have E:[AV.ls 5 (r.Cards.map CardM.A),rG r.In,rG r.Gone,.ls 11 ((r.L.set q ⟨m.N,m.Role,true,x,o.Guards,o.Need,o.Wait,false,0⟩).map MM.A),iv r.Back,.ls 6 (r.V.map VM.A)]=a.A:=by subst t;simp only[RM.A_def]
 have Q:a.V=r.V:=by subst t;rfl
 have O:({r with L:=r.L.set q ⟨m.N,m.Role,true,x,o.Guards,o.Need,o.Wait,false,0⟩,V:=Fh {r with L:=r.L.set q ⟨m.N,m.Role,true,x,o.Guards,o.Need,o.Wait,false,0⟩} }:RM)={a with V:=Fh a}:=by subst t;rfl
 rw[O];simp only[go_sem];rw[E];clear t;refine aQ a.V.length (λi=>⟨0,[(3,.ptr 0 0),(6,.ptr 1 0),(8,.own 2),(9,iv i)],[some (.box a.A),some (.box zR),some (.arr 6 (((a.V.take i).filter λv=>decide (0<=pZ a v.Of)).map VM.A))]⟩) (λ_=>True) ?_ trivial ?_ ?_;simp only[go_sem,RM.A_def,rG,zR,uQ,List.filter_nil,uP];intro i b _;have C:=fQ i o_;have f:(a.V.map VM.A)[i]?=some a.V[i].A:=aO _ a.V i b;have M:a.V.take (i+1)=a.V.take i++[a.V[i]]:=lB b;have J:((a.V.take i).filter λv=>decide (0<=pZ a v.Of)).length<=i:=by have:=List.length_filter_le (λv:VM=>decide (0<=pZ a v.Of)) (a.V.take i);rw[eC]at this;omega
 have u:=u a.V[i].Of;rw[M,Mf];generalize(a.V.take i).filter (λv=>decide (0<=pZ a v.Of))=L at *
 generalize a.V[i]=v at *
 clear E;simp only[go_sem,RM.A_def,VM.A_def,Id.A_def,zR,rG,aP,aT b,f,ge_iff_le]at u⊢;apply cX u;cases c1:decide (0<=pZ a v.Of);have e:([v].filter λv=>decide (0<=pZ a v.Of))=[]:=by simp[of_decide_eq_false c1]
 rw[e];simp only[go_sem,aP,b,f,c1,C,RM.A_def,zR,rG,jO];have e:([v].filter λv=>decide (0<=pZ a v.Of))=[v]:=by simp[of_decide_eq_true c1]
 rw[e,bZ];simp only[go_sem,aP,b,f,c1,C,VM.A_def,RM.A_def,zR,rG,(o_:(L.length+1)*48<=140737488355328),(a_:L.length+1<=maxLen)];intro _;simp only[go_sem,RM.A_def,zR,rG,aP,aS (bP _),dE];rfl
def aPy(r:RM)(o:OpM)(q:r.ok)(B:r.V.length<100000):aA PQ G aK8 [.ag r.A,.ag o.A] [] λy T=>y=.ag (iQ r o).A/\T=[]:=by
 have j:=aNS (G:=G) r o q;have s:=q.v;have ev:iQ r o=(if(kD r o).2≠0 then r else {r with V:=r.V.filter (λv=>!(decide (v.Of=o.Of)&&(v.By==o.By&&v.Device==o.Device)))++[⟨o.Of,o.By,o.Device,(r.V.filter λv=>decide (v.Of=o.Of)&&(v.By==o.By&&v.Device==o.Device)).foldl (λa v=>min a v.At) o.At⟩]}):=by rw[iQ]
 rw[ev];clear ev;generalize kD r o=x at *
 obtain⟨C,p⟩:=x;apply aC aMj;simp only[go_sem,RM.A_def]at j⊢;apply cX j;by_cases l:p=0;rotate_left;have c1:(p !=0)=true:=bne_iff_ne.2 l;rw[if_pos l];simp only[go_sem,c1];have c1:(p !=0)=false:=by simp[l]
 rw[if_neg (by simp[l])];simp only[go_sem,c1,Id.A_def];refine aQ r.V.length (λi=>⟨0,[(2,.ptr 0 0),(4,.ptr 1 0),(7,.ptr 2 0),(8,.own 3),(9,iv i)],[some (.box r.A),some (.box zR),some (.box (⟨o.Of,o.By,o.Device,((r.V.take i).filter λv=>decide (v.Of=o.Of)&&(v.By==o.By&&v.Device==o.Device)).foldl (λa v=>min a v.At) o.At⟩:VM).A),some (.arr 6 (((r.V.take i).filter λv=>!(decide (v.Of=o.Of)&&(v.By==o.By&&v.Device==o.Device))).map VM.A))]⟩) (λ_=>True) ?_ trivial ?_ ?_;simp only[go_sem,RM.A_def,VM.A_def,rG,zR,uQ,List.filter_nil,uP,Kk];intro i c _;have k:=fQ i o_;have n:(r.V.map VM.A)[i]?=some r.V[i].A:=aO _ r.V i c;have z:r.V.take (i+1)=r.V.take i++[r.V[i]]:=lB c;have t:((r.V.take i).filter λv=>!(decide (v.Of=o.Of)&&(v.By==o.By&&v.Device==o.Device))).length<=i:=by have:=List.length_filter_le (λv:VM=>!(decide (v.Of=o.Of)&&(v.By==o.By&&v.Device==o.Device))) (r.V.take i);rw[eC]at this;omega
 rw[z,Mf,Mf,Hy];generalize(r.V.take i).filter (λv=>!(decide (v.Of=o.Of)&&(v.By==o.By&&v.Device==o.Device)))=L at *
 generalize((r.V.take i).filter λv=>decide (v.Of=o.Of)&&(v.By==o.By&&v.Device==o.Device)).foldl (λa v=>min a v.At) o.At=d at *
 generalize r.V[i]=v at *
 have fl:∀b,(decide (v.Of=o.Of)&&(v.By==o.By&&v.Device==o.Device))=b->([v].filter λv=>decide (v.Of=o.Of)&&(v.By==o.By&&v.Device==o.Device))=(if b=true then [v] else [])/\([v].filter λv=>!(decide (v.Of=o.Of)&&(v.By==o.By&&v.Device==o.Device)))=(if b=true then [] else [v]):=λb w=>by cases b<;>simp only[List.filter_cons,List.filter_nil,w]<;>simp
 have f:(L.length+1)*48<=140737488355328:=o_;have e:L.length+1<=maxLen:=a_;have m:=aT c;rcases(show(decide (v.Of=o.Of)=false)\/(decide (v.Of=o.Of)=true/\(v.By==o.By)=false)\/(decide (v.Of=o.Of)=true/\(v.By==o.By)=true/\(v.Device==o.Device)=false)\/(decide (v.Of=o.Of)=true/\(v.By==o.By)=true/\(v.Device==o.Device)=true) by cases decide (v.Of=o.Of)<;>cases v.By==o.By<;>cases v.Device==o.Device<;>simp) with c1|⟨c1,c2⟩|⟨c1,c2,c3⟩|⟨c1,c2,c3⟩
 obtain⟨h,g⟩:=fl false (by rw[c1];rfl);rw[h,g];simp only[go_sem,RM.A_def,VM.A_def,Id.A_def,zR,rG,aP,m,n,c1,c,k,f,e,bZ,fG,uP,jJ,↓reduceIte,Kk];obtain⟨h,g⟩:=fl false (by rw[c1,c2];rfl);rw[h,g];simp only[go_sem,RM.A_def,VM.A_def,Id.A_def,zR,rG,aP,m,n,c1,c2,c,k,f,e,bZ,fG,uP,jJ,↓reduceIte,Kk];obtain⟨h,g⟩:=fl false (by rw[c1,c2,c3];rfl);rw[h,g];simp only[go_sem,RM.A_def,VM.A_def,Id.A_def,zR,rG,aP,m,n,c1,c2,c3,c,k,f,e,bZ,fG,uP,jJ,↓reduceIte,Kk];obtain⟨h,g⟩:=fl true (by rw[c1,c2,c3];rfl);rw[h,g];simp only[go_sem,RM.A_def,VM.A_def,Id.A_def,zR,rG,aP,m,n,c1,c2,c3,c,k,jO,↓reduceIte,CW,Kk,(sm:min d v.At=if v.At<d then v.At else d)];intro _;have u:=List.length_filter_le (λv:VM=>!(decide (v.Of=o.Of)&&(v.By==o.By&&v.Device==o.Device))) r.V;rw[dE];generalize r.V.filter (λv=>!(decide (v.Of=o.Of)&&(v.By==o.By&&v.Device==o.Device)))=L at *
 generalize(r.V.filter λv=>decide (v.Of=o.Of)&&(v.By==o.By&&v.Device==o.Device)).foldl (λa v=>min a v.At) o.At=d at *
 simp only[go_sem,RM.A_def,VM.A_def,Id.A_def,zR,rG,aP,aS (bP _),bZ,fG,uP,(o_:(L.length+1)*48<=140737488355328),(a_:L.length+1<=maxLen)]
structure RB(k:Nat)(r:RM):Prop where
 c:r.Cards.length<=1000
 i:r.In.length+r.Gone.length<=k
 l:r.L.length<=k
 v:r.V.length<=k
 mg:∀m∈r.L,m.Guards.length<=1000
def RB.ok{k:Nat}{r:RM}(h:RB k r)(a:k<=100000):r.ok:=⟨h.c,by have:=h.i;omega,by have:=h.i;omega,by have:=h.l;omega,by have:=h.v;omega,h.mg⟩
def RB.comes {k:Nat} {r:RM} (h:RB k r) (d role:Int):RB (k+1) (mU r d role):=by unfold mU;split;exact⟨h.c,by have:=h.i;omega,by have:=h.l;omega,by have:=h.v;omega,h.mg⟩;refine⟨h.c,by have:=h.i;simp;omega,?_,by have:=h.v;show r.V.length<=_;omega,?_⟩;have:=h.l;show(if _ then _ else _:List MM).length<=_;split;simp;omega;omega;intro m a;have a:m∈(if jL r (eI r d)<0 then r.L++[⟨eI r d,role,false,⟨0,0,0⟩,[],0,0,false,0⟩] else r.L):=a;split at a;rcases cG.1 a with a|a;exact h.mg m a;rw[cA.1 a];simp;exact h.mg m a
def aQW{l:B_}{d:Int}(h:d∈l):(l.filter λx=>x !=d).length<l.length:=by rcases eD (l.filter λx=>x !=d).length l.length with h1|h1;exact h1;have:=(List.filter_sublist (p:=λx=>x !=d) (l:=l)).eq_of_length_le h1;have h2:=gR.1 (this ▸ h);simp at h2
def RB.goes{k:Nat}{r:RM}(h:RB k r)(d:Int):RB k (lN r d):=by
 unfold lN;split;exact h;rename_i a;have a:d∈r.In:=H_;have h1:=aQW a;have e:=h.i;dsimp only;split;exact⟨h.c,c_,h.l,h.v,h.mg⟩;refine⟨h.c,c_,uR (List.length_filter_le _ _) h.l,uR (List.length_filter_le _ _) h.v,λm b=>h.mg m (gR.1 b).1⟩
def RB.goesF{k:Nat}:∀(l:B_){r:RM},RB k r->RB k (l.foldl lN r)|[],_,h=>h|d::l,_,h=>RB.goesF l (h.goes d)
def RB.setL{k:Nat}{r:RM}(h:RB k r)(q:Nat){m:MM}(b:m.Guards.length<=1000):RB k {r with L:=r.L.set q m}:=
 ⟨h.c,h.i,by show(r.L.set q m).length<=k;rw[cL];exact h.l,h.v,λy a=>by
  rcases aGK a with h1|h1;exact h.mg y h1
  rw[h1];exact b⟩
def RB.up{k b:Nat}{r:RM}(h:RB k r)(a:k<=b):RB b r:=⟨h.c,uR h.i a,uR h.l a,uR h.v a,h.mg⟩
def RB.getG{k:Nat}{r:RM}(h:RB k r)(q:Nat):(r.L.getD q default).Guards.length<=1000:=by rw[rH];rcases eD q r.L.length with h1|h1;rw[jN h1];exact h.mg _ (eQ h1);rw[sX h1];exact pR _
def RB.do {k:Nat} {r:RM} (h:RB k r) (o:OpM) (a:o.Guards.length<=1000) (x:Id):RB (k+1) (BS r o x):=by unfold BS;split;split;exact h.up o_;have:=h.comes o.By 3;exact⟨this.c,this.i,this.l,this.v,this.mg⟩;split;exact h.comes _ _;split;exact(RB.goesF _ h).up o_;split;split;exact h.up o_;exact(RB.setL (m:={ (r.L.getD _ default) with Role:=o.Role}) h _ (h.getG _)).up (Kl k);split;unfold BN;dsimp only;split;exact h.up o_;have h1:=(h.setL (jL r (eI r o.By)).toNat (m:=⟨(r.L.getD (jL r (eI r o.By)).toNat default).N,(r.L.getD (jL r (eI r o.By)).toNat default).Role,true,x,o.Guards,o.Need,o.Wait,false,0⟩) a).up (o_:k<=k+1);exact⟨h1.c,h1.i,h1.l,uR (List.length_filter_le _ _) h1.v,h1.mg⟩;split;unfold iQ;dsimp only;split;exact h.up o_;have h1:=h.up (o_:k<=k+1);refine⟨h1.c,h1.i,h1.l,?_,h1.mg⟩;have:=List.length_filter_le (λv:VM=>!(decide (v.Of=o.Of)&&(v.By==o.By&&v.Device==o.Device))) r.V;show(_++[_]:List VM).length<=_;rw[dZ];exact Nat.succ_le_succ (uR this h.v);split;dsimp only;split;exact h.up o_;split;exact(RB.setL (m:={ (r.L.getD _ default) with Obj:=true,Last:=_}) h _ (h.getG _)).up (Kl k);exact h.up o_;split;dsimp only;split;exact h.up o_;split;exact(h.comes _ _).goes _;exact h.up o_;exact h.up o_
def aRZ (k:Nat) (hk:k<=1000) (r:RM) (P:RB k r) (o:OpM) (x:Id) (ho:o.ok):aA PQ G aNi [.ag r.A,.ag o.A,.ag x.A] [] λy T=>y=.ag (BS r o x).A/\T=[]:=by
 have E:=P.ok (by omega);have hi:=P.i;have a:=aHf (G:=G) r o.By E;have t:=λe=>aHf (G:=G) r e E;have b:=aFd (G:=G) r (eI r o.By) E;have K:=λd Q=>aPV (G:=G) r d Q E (by omega);rcases(show o.Kind=1\/o.Kind=2\/o.Kind=3\/o.Kind=5\/o.Kind=9\/o.Kind=11\/o.Kind=12\/o.Kind=13\/(o.Kind≠1/\o.Kind≠2/\o.Kind≠3/\o.Kind≠5/\o.Kind≠9/\o.Kind≠11/\o.Kind≠12/\o.Kind≠13) by omega) with hK|hK|hK|hK|hK|hK|hK|hK|hK;have e:BS r o x=if 0<r.In.length\/0<r.Gone.length\/eI r o.By=0 then r else {mU r o.By 3 with Back:=o.Need}:=by simp[BS,hK]
 rw[e];clear e;have b1:decide (0<(r.In.length:Int))=decide (0<r.In.length):=decide_eq_decide.2 (by omega);have b2:decide (0<(r.Gone.length:Int))=decide (0<r.Gone.length):=decide_eq_decide.2 (by omega);have C:=K o.By 3;rcases(show 0<r.In.length\/(¬0<r.In.length/\0<r.Gone.length)\/(¬0<r.In.length/\¬0<r.Gone.length/\eI r o.By=0)\/(¬0<r.In.length/\¬0<r.Gone.length/\eI r o.By≠0) by omega) with c1|⟨c1,c2⟩|⟨c1,c2,c3⟩|⟨c1,c2,c3⟩
 rw[if_pos (.inl c1)];have M:decide (0<r.In.length)=true:=decide_eq_true c1;refine aC aBC ?_;simp only[go_sem,RM.A_def]at a b C⊢;refine cX a ?_;simp only[go_sem];refine cX b ?_;simp only[go_sem,hK,rG,aP,gt_iff_lt,b1,M,undef];rw[if_pos (.inr (.inl c2))];have M:decide (0<r.In.length)=false:=decide_eq_false c1;have Z:decide (0<r.Gone.length)=true:=decide_eq_true c2;refine aC aBC ?_;simp only[go_sem,RM.A_def]at a b C⊢;refine cX a ?_;simp only[go_sem];refine cX b ?_;simp only[go_sem,hK,rG,aP,gt_iff_lt,b1,b2,M,Z,undef];rw[if_pos (.inr (.inr c3))];have M:decide (0<r.In.length)=false:=decide_eq_false c1;have Z:decide (0<r.Gone.length)=false:=decide_eq_false c2;rw[c3]at a;refine aC aBC ?_;rw[c3]at b;simp only[go_sem,RM.A_def,rG]at a b C⊢;refine cX a ?_;simp only[go_sem];refine cX b ?_;simp only[go_sem,hK,rG,aP,gt_iff_lt,b1,b2,M,Z];refine cX a ?_;simp only[go_sem];rw[if_neg (by omega)];have M:decide (0<r.In.length)=false:=decide_eq_false c1;have Z:decide (0<r.Gone.length)=false:=decide_eq_false c2;have d3:(eI r o.By==0)=false:=by simp[c3]
 refine aC aBC ?_;simp only[go_sem,RM.A_def,rG]at a b C⊢;refine cX a ?_;simp only[go_sem];refine cX b ?_;simp only[go_sem,hK,rG,aP,gt_iff_lt,b1,b2,M,Z];refine cX a ?_;simp only[go_sem,d3];refine cX C ?_;generalize mU r o.By 3=r1 at *
 simp only[go_sem,RM.A_def];have e:BS r o x=mU r o.Device o.Role:=by simp[BS,hK]
 rw[e];have C:=K o.Device o.Role;refine aC aBC ?_;simp only[go_sem,RM.A_def,rG]at a b C⊢;refine cX a ?_;simp only[go_sem];refine cX b ?_;simp only[go_sem,hK];refine cX C ?_;simp only[go_sem];have e:BS r o x=(if o.Device=0 then r.In.filter (λd=>eI r d==o.Member) else [o.Device]).foldl lN r:=by simp[BS,hK]
 rw[e];clear e;have w:∀(q:RM)(d:Int),RB k q->aA PQ G aJK [.ag q.A,iv d] [] λy T=>y=.ag (lN q d).A/\T=[]:=λq d g=>aPN q d (g.ok (by omega)) (by have:=g.i;omega);by_cases hd:o.Device=0;rw[if_pos hd];refine aC aBC ?_;simp only[go_sem,RM.A_def,rG]at a b t⊢;refine cX a ?_;simp only[go_sem];refine cX b ?_;simp only[go_sem,hK,hd];refine aQ r.In.length (λi=>⟨0,[(3,.ptr 0 0),(4,.ptr 1 0),(6,.ptr 2 0),(8,.own 3),(9,iv i)],[some (.box r.A),some (.box o.A),some (.box zR),some (.arr 1 (((r.In.take i).filter λd=>eI r d==o.Member).map λn=>[iv n]))]⟩) (λ_=>True) ?_ trivial ?_ ?_;simp only[go_sem,RM.A_def,zR,rG,uQ,List.filter_nil,uP];intro i c _;have O:=fQ i (by omega);have f:(r.In.map λn=>[iv n])[i]?=some [iv r.In[i]]:=aO _ r.In i c;have Y:r.In.take (i+1)=r.In.take i++[r.In[i]]:=lB c;have hl:((r.In.take i).filter λd=>eI r d==o.Member).length<=i:=by have:=List.length_filter_le (λd=>eI r d==o.Member) (r.In.take i);rw[eC]at this;omega
 have ho:=t r.In[i];rw[Y,Mf];generalize(r.In.take i).filter (λd=>eI r d==o.Member)=L at *
 cases c1:eI r r.In[i]==o.Member;have e:([r.In[i]].filter λd=>eI r d==o.Member)=[]:=by simp[c1]
 rw[e];simp only[go_sem,RM.A_def,zR,rG,aP,aT c,f];refine cX ho ?_;simp only[go_sem,RM.A_def,zR,rG,c1,O,jO];have e:([r.In[i]].filter λd=>eI r d==o.Member)=[r.In[i]]:=by simp[c1]
 rw[e,bZ];simp only[go_sem,RM.A_def,zR,rG,aP,aT c,f];refine cX ho ?_;simp only[go_sem,RM.A_def,zR,rG,aP,c,f,c1,O,show(L.length+1)*8<=140737488355328 by omega,show L.length+1<=maxLen by unfold maxLen;omega];intro _;have ab:=List.length_filter_le (λd=>eI r d==o.Member) r.In;simp only[go_sem,RM.A_def,zR,rG,aP,aS (bP _),dE];generalize r.In.filter (λd=>eI r d==o.Member)=l at *
 refine aQ l.length (λi=>⟨0,[(3,.ptr 0 0),(6,.ptr 1 0),(8,.own 2),(10,iv i)],[some (.box ((l.take i).foldl lN r).A),some (.box zR),some (.arr 1 (l.map λn=>[iv n]))]⟩) (λ_=>True) ?_ trivial ?_ ?_;simp only[go_sem,RM.A_def,zR,rG,uQ,Kk];intro i c _;have O:=fQ i (by omega);have f:(l.map λn=>[iv n])[i]?=some [iv l[i]]:=aO _ l i c;have H:=w _ l[i] (RB.goesF (l.take i) P);have Y:(l.take (i+1)).foldl lN r=lN ((l.take i).foldl lN r) l[i]:=by rw[lB c,Hy];rfl
 rw[Y];generalize lN ((l.take i).foldl lN r) l[i]=R at *
 generalize(l.take i).foldl lN r=r1 at *
 simp only[go_sem,RM.A_def,rG]at H;simp only[go_sem,RM.A_def,zR,rG,aP,aT c,c,f];refine cX H ?_;simp only[go_sem,RM.A_def,zR,rG,O];intro _;rw[dE];generalize l.foldl lN r=R at *
 simp only[go_sem,RM.A_def,zR,rG,aP,aS (bP _)];have d0:(o.Device==0)=false:=by simp[hd]
 rw[if_neg hd];obtain⟨l,el⟩:∃l:B_,l=[o.Device]:=⟨_,rfl⟩
 have ab:l.length<=1:=by rw[el];simp
 rw[<-el];have em:[[AV.v (.int .i64 o.Device)]]=l.map λn=>[iv n]:=by rw[el];rfl
 clear el;refine aC aBC ?_;simp only[go_sem,RM.A_def,rG]at a b⊢;refine cX a ?_;simp only[go_sem];refine cX b ?_;simp only[go_sem,hK,d0,em];refine aQ l.length (λi=>⟨0,[(3,.ptr 0 0),(6,.ptr 1 0),(8,.own 2),(10,iv i)],[some (.box ((l.take i).foldl lN r).A),some (.box zR),some (.arr 1 (l.map λn=>[iv n]))]⟩) (λ_=>True) ?_ trivial ?_ ?_;simp only[go_sem,RM.A_def,zR,rG,uQ,Kk];intro i c _;have O:=fQ i (by omega);have f:(l.map λn=>[iv n])[i]?=some [iv l[i]]:=aO _ l i c;have H:=w _ l[i] (RB.goesF (l.take i) P);have Y:(l.take (i+1)).foldl lN r=lN ((l.take i).foldl lN r) l[i]:=by rw[lB c,Hy];rfl
 rw[Y];generalize lN ((l.take i).foldl lN r) l[i]=R at *
 generalize(l.take i).foldl lN r=r1 at *
 simp only[go_sem,RM.A_def,rG]at H;simp only[go_sem,RM.A_def,zR,rG,aP,aT c,c,f];refine cX H ?_;simp only[go_sem,RM.A_def,zR,rG,O];intro _;rw[dE];generalize l.foldl lN r=R at *
 simp only[go_sem,RM.A_def,zR,rG,aP,aS (bP _)];have e:BS r o x=(if jL r o.Member<0 then r else {r with L:=r.L.set (jL r o.Member).toNat { (r.L.getD (jL r o.Member).toNat default) with Role:=o.Role} }):=by simp[BS,hK]
 have J:=aFd (G:=G) r o.Member E;have F:=aN8 (λm:MM=>m.N==o.Member) r.L;rw[show qX (λm:MM=>m.N==o.Member) r.L=jL r o.Member from rfl]at F;rw[e];clear e;generalize jL r o.Member=D at *
 by_cases s:D<0;rw[if_pos s];have c1:decide (0<=D)=false:=decide_eq_false (by omega);refine aC aBC ?_;simp only[go_sem,RM.A_def,rG]at a b J⊢;refine cX a ?_;simp only[go_sem];refine cX b ?_;simp only[go_sem,hK];refine cX J ?_;simp only[go_sem,ge_iff_le,c1];obtain⟨q,rfl⟩:=Int.eq_ofNat_of_zero_le (show 0<=D by omega);rw[if_neg s];have c1:decide (0<=(q:Int))=true:=decide_eq_true (by omega);have g:q<r.L.length:=by omega
 have f:(r.L.map MM.A)[q]?=some r.L[q].A:=aO _ r.L q g;have X:r.L.getD q default=r.L[q]:=by simp[rH,g]
 have u:=aO0 (G:=G) r.L q {r.L[q]with Role:=o.Role} g E.l;rw[show((q:Int).toNat)=q from rfl,X];simp only[MM.A_def]at u f;generalize r.L[q]=m at *
 refine aC aBC ?_;simp only[go_sem,RM.A_def,rG]at a b J⊢;refine cX a ?_;simp only[go_sem];refine cX b ?_;simp only[go_sem,hK];refine cX J ?_;simp only[go_sem,ge_iff_le,c1,aP,g,f];refine cX u ?_;simp only[go_sem];have e:BS r o x=BN r o x:=by simp[BS,hK]
 have H:=aPx (G:=G) r o x E ho;rw[e];generalize BN r o x=r1 at *
 refine aC aBC ?_;simp only[go_sem,RM.A_def,rG]at a b H⊢;refine cX a ?_;simp only[go_sem];refine cX b ?_;simp only[go_sem,hK];refine cX H ?_;simp only[go_sem,RM.A_def,rG];have e:BS r o x=iQ r o:=by simp[BS,hK]
 have H:=aPy (G:=G) r o E (by have:=P.v;omega);rw[e];generalize iQ r o=r1 at *
 refine aC aBC ?_;simp only[go_sem,RM.A_def,rG]at a b H⊢;refine cX a ?_;simp only[go_sem];refine cX b ?_;simp only[go_sem,hK];refine cX H ?_;simp only[go_sem,RM.A_def,rG];have e:BS r o x=(if jL r (eI r o.By)<0 then r else if((r.L.getD (jL r (eI r o.By)).toNat default).Is&&decide ((r.L.getD (jL r (eI r o.By)).toNat default).ID=o.Of))=true then {r with L:=r.L.set (jL r (eI r o.By)).toNat { (r.L.getD (jL r (eI r o.By)).toNat default) with Obj:=true,Last:=max (r.L.getD (jL r (eI r o.By)).toNat default).Last o.At} } else r):=by simp[BS,hK]
 have F:=aN8 (λm:MM=>m.N==eI r o.By) r.L;rw[show qX (λm:MM=>m.N==eI r o.By) r.L=jL r (eI r o.By) from rfl]at F;rw[e];clear e;generalize jL r (eI r o.By)=D at *
 by_cases s:D<0;rw[if_pos s];have c1:decide (0<=D)=false:=decide_eq_false (by omega);refine aC aBC ?_;simp only[go_sem,RM.A_def,rG]at a b⊢;refine cX a ?_;simp only[go_sem];refine cX b ?_;simp only[go_sem,hK,ge_iff_le,c1,undef];obtain⟨q,rfl⟩:=Int.eq_ofNat_of_zero_le (show 0<=D by omega);rw[if_neg s];have c1:decide (0<=(q:Int))=true:=decide_eq_true (by omega);have c2:(if(q:Int)<0 then(0:Int) else(q:Int))=(q:Int):=if_neg (by omega);have j:(if(0:Int)<(q:Int) then(q:Int) else 0)=(q:Int):=by split<;>omega
 have g:q<r.L.length:=by omega
 have f:(r.L.map MM.A)[q]?=some r.L[q].A:=aO _ r.L q g;have X:r.L.getD q default=r.L[q]:=by simp[rH,g]
 have u:=aO0 (G:=G) r.L q {r.L[q]with Obj:=true,Last:=max r.L[q].Last o.At} g E.l;rw[show((q:Int).toNat)=q from rfl,X];simp only[MM.A_def,Id.A_def]at u f;generalize r.L[q]=m at *
 rcases(show m.Is=false\/(m.Is=true/\decide (m.ID=o.Of)=false)\/(m.Is=true/\decide (m.ID=o.Of)=true) by cases m.Is<;>cases decide (m.ID=o.Of)<;>simp) with h1|⟨h1,h2⟩|⟨h1,h2⟩
 rw[h1,lR,if_neg (by decide)];rw[h1]at f;refine aC aBC ?_;simp only[go_sem,RM.A_def,rG]at a b⊢;refine cX a ?_;simp only[go_sem];refine cX b ?_;simp only[go_sem,hK,ge_iff_le,c1,c2,j,aP,g,f,undef];rw[h1,h2,Ea,if_neg (by decide)];rw[h1]at f;refine aC aBC ?_;simp only[go_sem,RM.A_def,rG]at a b⊢;refine cX a ?_;simp only[go_sem];refine cX b ?_;simp only[go_sem,hK,ge_iff_le,c1,c2,j,aP,g,f,Id.A_def,h2];rw[h1,h2,yH,if_pos rfl];rw[h1]at f u;have aa:max m.Last o.At=if o.At>m.Last then o.At else m.Last:=by split<;>omega
 rw[aa]at u⊢;refine aC aBC ?_;simp only[go_sem,RM.A_def,rG]at a b⊢;refine cX a ?_;simp only[go_sem];refine cX b ?_;simp only[go_sem,hK,ge_iff_le,c1,c2,j,aP,g,f,Id.A_def,h2];refine cX u ?_;simp only[go_sem,h1];have e:BS r o x=(if pZ r o.Of<0 then r else if(decide (o.Old∈r.In)&&(eI r o.Old==(r.L.getD (pZ r o.Of).toNat default).N&&eI r o.Device==(r.L.getD (pZ r o.Of).toNat default).N))=true then lN (mU r o.Device (sD r (eI r o.Device))) o.Old else r):=by simp[BS,hK]
 have F:=aN8 (λm:MM=>m.Is&&decide (m.ID=o.Of)) r.L;rw[show qX (λm:MM=>m.Is&&decide (m.ID=o.Of)) r.L=pZ r o.Of from rfl]at F;have p:=aLX (G:=G) r o.Of E;have h:=aKc (G:=G) r.In o.Old (by omega);have B:=t o.Old;have z:=t o.Device;have I:=aP1 (G:=G) r (eI r o.Device) E;have C:=K o.Device (sD r (eI r o.Device));have W:=P.comes o.Device (sD r (eI r o.Device));have w:=aPN (G:=G) _ o.Old (W.ok (by omega)) (by have:=W.i;omega);rw[e];clear e t K;generalize pZ r o.Of=D at *
 by_cases s:D<0;rw[if_pos s];have c1:decide (0<=D)=false:=decide_eq_false (by omega);refine aC aBC ?_;simp only[go_sem,RM.A_def,rG,Id.A_def]at a b p⊢;refine cX a ?_;simp only[go_sem];refine cX b ?_;simp only[go_sem,hK];refine cX p ?_;simp only[go_sem,ge_iff_le,c1,undef];obtain⟨q,rfl⟩:=Int.eq_ofNat_of_zero_le (show 0<=D by omega);rw[if_neg s];have c1:decide (0<=(q:Int))=true:=decide_eq_true (by omega);have j:(if(0:Int)>(q:Int) then(0:Int) else(q:Int))=(q:Int):=if_neg (by omega);have c2:(if(q:Int)<0 then(0:Int) else(q:Int))=(q:Int):=if_neg (by omega);have g:q<r.L.length:=by omega
 have f:(r.L.map MM.A)[q]?=some r.L[q].A:=aO _ r.L q g;have X:r.L.getD q default=r.L[q]:=by simp[rH,g]
 rw[show((q:Int).toNat)=q from rfl,X];simp only[MM.A_def,Id.A_def]at f;generalize r.L[q]=m at *
 generalize mU r o.Device (sD r (eI r o.Device))=R at *
 generalize lN R o.Old=r3 at *
 rcases(show decide (o.Old∈r.In)=false\/(decide (o.Old∈r.In)=true/\(eI r o.Old==m.N)=false)\/(decide (o.Old∈r.In)=true/\(eI r o.Old==m.N)=true/\(eI r o.Device==m.N)=false)\/(decide (o.Old∈r.In)=true/\(eI r o.Old==m.N)=true/\(eI r o.Device==m.N)=true) by cases decide (o.Old∈r.In)<;>cases eI r o.Old==m.N<;>cases eI r o.Device==m.N<;>simp) with h1|⟨h1,h2⟩|⟨h1,h2,h3⟩|⟨h1,h2,h3⟩
 rw[h1]at h;rw[h1,lR,if_neg (by decide)];refine aC aBC ?_;simp only[go_sem,RM.A_def,rG,Id.A_def]at a b p h⊢;refine cX a ?_;simp only[go_sem];refine cX b ?_;simp only[go_sem,hK];refine cX p ?_;simp only[go_sem,ge_iff_le,c1];refine cX h ?_;simp only[go_sem,undef];rw[h1]at h;rw[h1,h2,lR,Ea,if_neg (by decide)];refine aC aBC ?_;simp only[go_sem,RM.A_def,rG,Id.A_def]at a b p h B z I C w⊢;refine cX a ?_;simp only[go_sem];refine cX b ?_;simp only[go_sem,hK];refine cX p ?_;simp only[go_sem,ge_iff_le,c1];refine cX h ?_;simp only[go_sem,c2,j,aP,g,f];refine cX B ?_;simp only[go_sem,c2,j,aP,g,f,h2,undef];rw[h1]at h;rw[h1,h2,h3,Ea,Ea,if_neg (by decide)];refine aC aBC ?_;simp only[go_sem,RM.A_def,rG,Id.A_def]at a b p h B z I C w⊢;refine cX a ?_;simp only[go_sem];refine cX b ?_;simp only[go_sem,hK];refine cX p ?_;simp only[go_sem,ge_iff_le,c1];refine cX h ?_;simp only[go_sem,c2,j,aP,g,f];refine cX B ?_;simp only[go_sem,c2,j,aP,g,f,h2];refine cX z ?_;simp only[go_sem,c2,j,aP,g,f,h3];rw[h1]at h;rw[h1,h2,h3,yH,yH,if_pos rfl];refine aC aBC ?_;simp only[go_sem,RM.A_def,rG,Id.A_def]at a b p h B z I C w⊢;refine cX a ?_;simp only[go_sem];refine cX b ?_;simp only[go_sem,hK];refine cX p ?_;simp only[go_sem,ge_iff_le,c1];refine cX h ?_;simp only[go_sem,c2,j,aP,g,f];refine cX B ?_;simp only[go_sem,c2,j,aP,g,f,h2];refine cX z ?_;simp only[go_sem,c2,j,aP,g,f,h3];refine cX z ?_;simp only[go_sem];refine cX I ?_;simp only[go_sem];refine cX C ?_;simp only[go_sem,RM.A_def,rG];refine cX w ?_;simp only[go_sem,RM.A_def,rG];obtain⟨n1,n2,n3,n5,n9,V,U,S⟩:=hK;have e:BS r o x=r:=by simp[BS,n1,n2,n3,n5,n9,V,U,S]
 have f1:(o.Kind==1)=false:=by simpa using n1
 have f2:(o.Kind==2)=false:=by simpa using n2
 have f3:(o.Kind==3)=false:=by simpa using n3
 have f5:(o.Kind==5)=false:=by simpa using n5
 have f9:(o.Kind==9)=false:=by simpa using n9
 have ae:(o.Kind==11)=false:=by simpa using V
 have ad:(o.Kind==12)=false:=by simpa using U
 have ac:(o.Kind==13)=false:=by simpa using S
 rw[e];refine aC aBC ?_;simp only[go_sem,RM.A_def,rG]at a b⊢;refine cX a ?_;simp only[go_sem];refine cX b ?_;simp only[go_sem,f1,f2,f3,f5,f9,ae,ad,ac]
end Hud
