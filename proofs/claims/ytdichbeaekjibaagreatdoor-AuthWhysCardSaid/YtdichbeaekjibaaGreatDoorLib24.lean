import Derived.Test.YtdichbeaekjibaaGreatDoorLib23
set_option linter.all false
set_option maxHeartbeats 40000000
namespace Hud
open Go
variable{G:L_}
def aP5{o:OpM}(h:jB o=0)(a:o.Kind=3)(b:o.Device=0):o.Member≠0:=by grind[jB,fP,oI]
def Reach.checked{cs:List CardM}{g:GM}(h:Reach cs g):∀o∈g.L,jB o=0:=by
 induction h with
 |new=>simp| @add g o d e c ih=>
  by_cases h:(dV g o).1=0;have a:=Ff h;rw[yE a h];intro x b;rcases cG.1 b with b|b;exact ih x b;rw[cA.1 b];exact a.check;grind[addM]
def Reach.rem{cs:List CardM}{g:GM}(h:Reach cs g):aPP g.L:=λ_ a b c=>aP5 (h.checked _ a) b c
def ggood{p:PGM}{g:GM}{cs:List CardM}(s:Sim p g)(c:p.ok)(a:Reach cs g)(d:CardsG p.cards):GGood p where
 ok:=c
 chk:=λn b=>by rw[Aq];apply a.checked n.o;rw[<-s.l];grind
 cards:=d
 idb:=λn b=>by have:=a.seqb n.id (by rw[<-s.i];exact List.mem_map_of_mem (f:=(·.id)) b);omega
def CardsG.perm{cs a:List CardM}(h:CardsG cs)(p:a.Perm cs):CardsG a :=
 ⟨by rw[p.length_eq];exact h.len,(p.map _).nodup_iff.2 h.nd,λc b=>h.mem c (p.mem_iff.1 b),λc b=>h.dev c (p.mem_iff.1 b)⟩
def Xg(p:PGM)(o:OpM):(sR p o).1.cards=p.cards:=by grind[sR,Oa,Q8]
def RL(cs:List CardM):∀(n:Nat)(l:List OpM),l.length=n->(AM cs l).cards=uE cs
 |0,l,h=>by
  obtain rfl:=Ae h;rfl
 |n+1,l,h=>by
  obtain⟨a,x,rfl⟩:∃a x,l=a++[x]:=⟨l.dropLast,l.getLast (by rintro rfl;simp at h),(List.dropLast_concat_getLast _).symm⟩
  rw[MS,Xg];exact RL cs n a y_
def Reach.ggood{cs:List CardM}(c:cardsOk cs)(d:CardsG cs){g:GM}(h:Reach cs g):GGood (AM cs g.L):=by have a:=h.good c;apply Hud.ggood a.sim (XM c _ λo b=>⟨a.ok.ops o b,a.ids o b⟩) h;rw[RL cs _ _ rfl];exact d.perm (H4 _ _)
def Reach.kill{cs:List CardM}(a:cardsOk cs){g:GM}(h:Reach cs g)(x y:Id):lA (AM cs g.L) x y=aPg g x y :=
 aOA (h.good a).sim (h.good a).n h.rem x y
def bQ:List CardM:=BL [1,2,3,1,2,3]
def rY:cardsOk bQ:=aEd _ d_ d_ d_
def JP:CardsG bQ where
 len:=d_
 nd:=by have:bQ.map (·.Device)=[1,2,3,4,5,6]:=rfl;rw[this];decide
 mem:=λc a=>by have h1:c.Member∈bQ.map (·.Member):=List.mem_map_of_mem (f:=(·.Member)) a;have:bQ.map (·.Member)=[1,2,3,1,2,3]:=rfl;simp_all;omega
 dev:=λc a=>by have h1:c.Device∈bQ.map (·.Device):=List.mem_map_of_mem (f:=(·.Device)) a;have:bQ.map (·.Device)=[1,2,3,4,5,6]:=rfl;simp_all;omega

structure EvT where
 fn:Nat->Option HFun
 pr:Nat->List AV->aK->Option (AV×aK)
inductive ER where
 |bad|ok (e:Ex) (st:St)
def O9:Value->Value->Bool|.int k a,.int e b=>k==e&&a==b|.bool a,.bool b=>a==b|.slice none a b,.slice none c d=>Nat.beq a c&&Nat.beq b d|.pointer none,.pointer none=>true|.nilFunc,.nilFunc=>true|.func (.func g) a b,.func (.func f) i h=>Nat.beq g f&&(Nat.beq a.size 0&&(Nat.beq b.size 0&&(Nat.beq i.size 0&&Nat.beq h.size 0)))|_,_=>false
mutual
def Gj:AV->AV->Bool|.v x,.v y=>O9 x y|.ls k l,.ls g m=>Nat.beq k g&&aEp l m|.ag l,.ag m=>VN l m|.tup l,.tup m=>VN l m|.rp l,.rp m=>VN l m|.own i,.own j=>Nat.beq i j|.mp i,.mp j=>Nat.beq i j|.ptr i a,.ptr j b=>Nat.beq i j&&Nat.beq a b|.elt i a b c,.elt j d e f=>Nat.beq i j&&(Nat.beq a d&&(Nat.beq b e&&Nat.beq c f))|.vw i a b c,.vw j d e f=>Nat.beq i j&&(Nat.beq a d&&(Nat.beq b e&&Nat.beq c f))|_,_=>false
def VN:O_->O_->Bool|[],[]=>true|x::l,y::m=>Gj x y&&VN l m|_,_=>false
def aEp:N_->N_->Bool|[],[]=>true|x::l,y::m=>VN x y&&aEp l m|_,_=>false
end
section
variable(G:L_)(tb:EvT)
end
structure EvT.Ok(P:Program)(G:Nat->Option (List AV))(tb:EvT):Prop where
 fn:∀f h,tb.fn f=some h->∃H,tF P f H=some h
 pr:∀f args T r T',tb.pr f args T=some (r,T')->aA P G f args T λr' T''=>r'=r/\T''=T'
section
variable{P:Program}{G:L_}{tb:EvT}
def MX{x y:Value}(h:O9 x y=true):x=y:=by
 unfold O9 at h;split at h
 case h_6=>
  simp only[zJ,Ko,Array.size_eq_zero_iff]at h;obtain⟨rfl,rfl,rfl,rfl,rfl⟩:=h;rfl
 all_goals simp_all
mutual
def aGa:∀(x y:AV),Gj x y=true->x=y
 |.v x,y,h=>by
  cases y<;>simp only[Gj,jJ]at h;rw[MX h]
 |.ls k l,y,h=>by
  cases y<;>simp only[Gj,jJ,zJ,Ko]at h;rw[h.1,ZQ l _ h.2]
 |.ag l,y,h=>by
  cases y<;>simp only[Gj,jJ]at h;rw[JQ l _ h]
 |.tup l,y,h=>by
  cases y<;>simp only[Gj,jJ]at h;rw[JQ l _ h]
 |.rp l,y,h=>by
  cases y<;>simp only[Gj,jJ]at h;rw[JQ l _ h]
 |.own i,y,h=>by
  cases y<;>simp only[Gj,jJ,Ko]at h;rw[h]
 |.mp i,y,h=>by
  cases y<;>simp only[Gj,jJ,Ko]at h;rw[h]
 |.ptr i a,y,h=>by
  cases y<;>simp only[Gj,jJ,zJ,Ko]at h;rw[h.1,h.2]
 |.elt i a b c,y,h=>by
  cases y<;>simp only[Gj,jJ,zJ,Ko]at h;simp_all
 |.vw i a b c,y,h=>by
  cases y<;>simp only[Gj,jJ,zJ,Ko]at h;simp_all
 |.yl i,y,h=>by cases y<;>simp only[Gj,jJ]at h
 |.bm f k d,y,h=>by cases y<;>simp only[Gj,jJ]at h
 |.cl f d,y,h=>by cases y<;>simp only[Gj,jJ]at h
 |.any,y,h=>by cases y<;>simp only[Gj,jJ]at h
def JQ:∀(x y:O_),VN x y=true->x=y
 |[],y,h=>by cases y<;>simp only[VN,jJ]at h;rfl
 |x::l,y,h=>by cases y<;>simp only[VN,jJ,zJ]at h;rw[aGa x _ h.1,JQ l _ h.2]
def ZQ:∀(x y:N_),aEp x y=true->x=y
 |[],y,h=>by cases y<;>simp only[aEp,jJ]at h;rfl
 |x::l,y,h=>by cases y<;>simp only[aEp,jJ,zJ]at h;rw[JQ x _ h.1,ZQ l _ h.2]
end
end
mutual
def fH:AV->AV->Bool|.v x,.v y=>O9 x y|.v (.slice none 0 0),.ls _ []=>true|.ls k l,.ls a m=>Nat.beq k a&&zF l m|.ag l,.ag m=>pL l m|.tup l,.tup m=>pL l m|_,_=>false
def pL:O_->O_->Bool|[],[]=>true|x::l,y::m=>fH x y&&pL l m|_,_=>false
def zF:N_->N_->Bool|[],[]=>true|x::l,y::m=>pL x y&&zF l m|_,_=>false
end
def RN:∀{l m:N_},zF l m=true->l.length=m.length
 |[],[],_=>rfl|x::l,y::m,h=>by
  simp only[zF,zJ]at h;simp only[sE,RN h.2]
 |[],_::_,h=>by simp[zF]at h|_::_,[],h=>by simp[zF]at h
def RO:∀{l m:O_},pL l m=true->l.length=m.length
 |[],[],_=>rfl|x::l,y::m,h=>by
  simp only[pL,zJ]at h;simp only[sE,RO h.2]
 |[],_::_,h=>by simp[pL]at h|_::_,[],h=>by simp[pL]at h
def VO{x y:AV}(h:fH x y=true)(a:aX x=true):aX y=true:=by cases x<;>cases y<;>simp only[fH,jJ]at h;rw[<-MX h];exact a;rfl;rfl;grind[aX];grind[aX]
mutual
def MY{h:GH}:∀{x y:AV}{u:Value},fH x y=true->oB h x u->oB h y u
 |.v x,.v y,u,d,e=>by
  simp only[fH]at d;rw[<-MX d];exact e
 | .v x,.ls k q,u,d,e=>by
  cases q with
  |nil=>
   unfold fH at d;grind[oB]
  |cons a b=>simp[fH]at d
 |.ls k l,.ls r m,u,d,e=>by
  simp only[fH,zJ,Ko]at d;obtain⟨rfl,f⟩:=d;have g:=RN f;simp only[oB]at e⊢;obtain⟨A,c,h1,h2,h3,i⟩:=e;refine⟨A,c,g ▸ h1,g ▸ h2,h3,?_⟩;rcases i with i|⟨b,o,p,n⟩
  grind;exact .inr ⟨b,o,p,ZR f n⟩
 |.ag l,.ag m,u,d,e=>by
  simp only[fH]at d;simp only[oB]at e⊢;obtain⟨j,h1,h2⟩:=e;exact⟨j,h1,VP d h2⟩
 |.tup l,.tup m,u,d,e=>by simp[oB]at e
def ZR{h:GH}{b k:Nat}:∀{l m:N_}{o:Nat},zF l m=true->kF h b k l o->kF h b k m o|[],[],o,_,_=>by simp[kF]|x::l,y::m,o,a,e=>by simp only[zF,zJ]at a;simp only[kF]at e⊢;exact⟨(RO a.1) ▸ e.1,ZS a.1 e.2.1,ZR a.2 e.2.2⟩
def ZS{h:GH}{b:Nat}:∀{l m:O_}{o:Nat},pL l m=true->mR h b l o->mR h b m o|[],[],o,_,_=>by simp[mR]|x::l,y::m,o,a,e=>by simp only[pL,zJ]at a;simp only[mR]at e⊢;obtain⟨⟨u,g,f,d⟩,c⟩:=e;exact⟨⟨u,VO a.1 g,f,MY a.1 d⟩,ZS a.2 c⟩
def VP{h:GH}:∀{l m:O_}{us:C_},pL l m=true->cK h l us->cK h m us|[],[],us,_,e=>e|x::l,y::m,us,b,e=>by simp only[pL,zJ]at b;simp only[cK]at e⊢;obtain⟨u,a,f,d,c⟩:=e;exact⟨u,a,f,MY b.1 d,VP b.2 c⟩
end
mutual
def ZT{h:GH}{φ:Nat->Value}{n:Nat}:∀{x y:AV}{u:Value},fH x y=true->Rp h φ n x u->Rp h φ n y u
 |.v x,.v y,u,a,e=>by
  simp only[fH]at a;rw[<-MX a];exact e
 |.v x,.ls k d,u,a,e=>by
  simp only[Rp]at e⊢;exact MY (x:=.v x) a (by simpa only[oB]using e)
 |.ls k l,.ls c m,u,a,e=>by
  simp only[Rp]at e⊢;exact MY a e
 |.ag l,.ag m,u,a,e=>by
  simp only[fH]at a;simp only[Rp]at e⊢;obtain⟨b,h1,h2⟩:=e;exact⟨b,h1,MZ a h2⟩
 |.tup l,.tup m,u,a,e=>by simp only[fH]at a;simp only[Rp]at e⊢;obtain⟨b,h1,h2⟩:=e;exact⟨b,h1,MZ a h2⟩
def MZ{h:GH}{φ:Nat->Value}{n:Nat}:∀{l m:O_}{us:C_},pL l m=true->cC h φ n l us->cC h φ n m us|[],[],us,_,e=>e|x::l,y::m,us,b,e=>by simp only[pL,zJ]at b;simp only[cC]at e⊢;obtain⟨u,a,f,d,c⟩:=e;exact⟨u,a,f,ZT b.1 d,MZ b.2 c⟩
end
section
variable{P:Program}{G:L_}{f:Nat}{args:O_}{T:aK}{p q:AV->aK->Prop}
def aA.dsub(s:aA P G f args T p)(n:∀r g,p r g->∃i,fH r i=true/\q i g):aA P G f args T q:=by
 have d:∀{h:GH}{φ:Nat->Value}{w w':World}{v:Value},CS h φ T w p v w'->CS h φ T w q v w':=by rintro h φ w w' v ⟨r,g,x,j,l,k,z,y⟩;obtain⟨i,o,m⟩:=n r g l;exact⟨i,g,x,j,m,k,z,ZT o y⟩
 intro h φ w c t hI u;rcases s h φ w c t hI u with⟨a,b⟩|⟨v,w',a,b⟩
 exact .inl ⟨a,b.mono λe w' ⟨v,l,k⟩=>⟨v,l,d k⟩⟩;exact .inr ⟨v,w',a,d b⟩
end
def aA.asub{P:Program}{G:L_}{f:Nat}{args a:O_}{T:aK}{p:AV->aK->Prop}(e:aA P G f a T p)(d:pL args a=true):aA P G f args T p :=
 λh c w b g hI i=>e h c w b g hI (MZ d i)
def lH(z:Int):mZ (IntKind.i64.wrap z):=by unfold mZ;simp only[IntKind.wrap,IntKind.bits,IntKind.signed];simp;omega
def aHd(z:Int):∃k:Nat,k<2^64/\IntKind.u64.wrap z=(k:Int):=by refine⟨(IntKind.u64.wrap z).toNat,?_,?_⟩<;>simp only[IntKind.wrap,IntKind.bits,IntKind.signed]<;>simp<;>omega
def aKv(z:Int):∃k:Nat,k<256/\IntKind.u8.wrap z=(k:Int):=by refine⟨(IntKind.u8.wrap z).toNat,?_,?_⟩<;>simp only[IntKind.wrap,IntKind.bits,IntKind.signed]<;>simp<;>omega
def C4(a:Int):O_:=[iv a,iv 0,iv 0,iv 0,.v (.slice none 0 0),iv 0,iv 0,iv 0,iv 0,.v (.slice none 0 0),iv 0,iv 0,.v (.int .u64 0),iv 0,.v (.slice none 0 0),.v (.slice none 0 0),iv 0,iv 0,.v (.int .u64 0),.v (.slice none 0 0),iv 0,iv 0,.v (.slice none 0 0),.v (.int .u64 0),.v (.slice none 0 0),.v (.int .u64 0),.v (.int .u64 0)]
def aMJ(b:Int):iZ (C4 b)=[]:=fI rfl rfl
def aNE(L:V_)(b:Int):xF L (C4 b)=C4 b:=fI rfl rfl
def aSG(L:V_)(n:Nat)(b:Int):EJ L n (C4 b)=C4 b:=fI rfl rfl
def aMK(b:Int):(C4 b).length=27:=fI rfl rfl
def aML(b:Int):(C4 b).drop 27=[]:=fI rfl rfl
def aSH(i k:Nat)(es:N_)(b:Int):IB i k es (C4 b)=C4 b:=fI rfl rfl
def OpM.d27(o:OpM):o.A.drop 27=[]:=fI rfl rfl
def OpM.up1(o:OpM)(x:Int):o.A.take 1++[iv x]++o.A.drop 2=OpM.A {o with Seq:=x}:=fI rfl rfl
def OpM.up3(o:OpM)(x:Int):o.A.take 3++[iv x]++o.A.drop 4=OpM.A {o with At:=x}:=fI rfl rfl
def OpM.up4(o:OpM)(l:D_):o.A.take 4++[ids l]++o.A.drop 5=OpM.A {o with Past:=l}:=fI rfl rfl
attribute [go_sem] aMJ aNE aSG aMK aML aSH OpM.d27 OpM.up1 OpM.up3 OpM.up4
def id0:(⟨0,0,0⟩:Id).ok:=⟨⟨d_,d_⟩,⟨d_,d_⟩,d_,d_⟩
def aGb:([]:List NodeM).length<=10/\∀x∈([]:List NodeM),x.ok:=⟨s_,s_⟩
def xC:([]:V_).length<=1000/\xN []:=⟨s_,λx a=>by simp at a⟩
def aGc{k:Nat}(h:k<256):[k].length<=1000/\xN [k]:=⟨s_,λx a=>by rw[cA.1 a];exact h⟩
def PA:∀l:List CardM,zF (l.map CardM.A) (l.map CardM.A)=true|[]=>rfl|c::l=>by simp only[fG,zF,CardM.A_def,pL,fH,O9,beq_self_eq_true,yH,PA l]
def aBe(cs:List CardM):aA PQ G Ci [.ls 5 (cs.map CardM.A)] [] λr T=>r=.ag (⟨cs,[],[],[],[]⟩:GM).A/\T=[]:=by refine aA.dsub (p:=λr T=>r=.ag [.ls 5 (cs.map CardM.A),.v (.slice none 0 0),.v (.slice none 0 0),.v (.slice none 0 0),.v (.slice none 0 0)]/\T=[]) (aC R9 ?_) ?_;simp only[go_sem];rintro r a ⟨rfl,rfl⟩;refine⟨_,?_,rfl,rfl⟩;simp only[fH,pL,GM.A,ids,uP,PA,Nat.beq_refl,yH]
def VQ:∀l:D_,zF (l.map Id.A) (l.map Id.A)=true|[]=>rfl|c::l=>by simp only[fG,zF,Id.A_def,pL,fH,O9,beq_self_eq_true,yH,VQ l]
def z5:O_:=[.v (.slice none 0 0),.v (.slice none 0 0),.v (.slice none 0 0),.v (.slice none 0 0),.v (.slice none 0 0)]
def kd:B_:=[6,4,3,2,5,7,8,3,6,9,11,11,13,12,10,4,3,2,6,13]
def RQ(n:Nat):Int:=kd.getD (n%20) 0
def aEq(n:Nat)(e:n<2^63-1):aA PQ G HO [iv n] [] λr T=>r=iv (RQ n)/\T=[]:=by
 apply aC P5;have d:(n:Int).tmod 20=((n%20:Nat):Int):=Y_;have c:n%20<kd.length:=zM _ d_;have b:(kd.map λn=>[iv n])[n%20]?=some [iv (RQ n)]:=by grind[RQ]
 simp only[kd,fG,uP]at b;have a:n%20<20:=c;simp only[go_sem,d,b,a]
def aEr(n:Nat):mZ (RQ n):=by
 have h1:∀m∈kd,mZ m:=by unfold mZ;decide
 have a:n%20<kd.length:=zM _ d_;grind[RQ]
def aKw(i:Nat):BoxM:=⟨1,1,i,1⟩
def BO(n:Nat):List BoxM:=(List.range n).map aKw
def aBf(n:Nat):BO (n+1)=BO n++[aKw n]:=by simp[BO,QH]
def JR(n:Nat)(d:n<=1000):aA PQ G Ao [iv n] [] λr T=>r=F5 (BO n)/\T=[]:=by
 refine aA.fin (p:=λr T=>r=.own 0/\T=[some (.arr 4 ((BO n).map BoxM.A))]) (aC P7 ?_) [0] ?_;rotate_left;rintro r e ⟨rfl,rfl⟩;simp only[go_sem,gQ];simp only[go_sem];refine aQ n (λi=>⟨0,[(0,iv n),(3,.own 0),(4,iv i)],[some (.arr 4 ((BO i).map BoxM.A))]⟩) (λ_=>True) ?_ trivial ?_ ?_;rfl;intro i c _;have a:=fQ i o_;have b:(BO i).length=i:=by simp[BO]
 have u:IntKind.u64.wrap (i:Int)=i:=aCD o_ o_;simp only[go_sem,aT c,a,aP,b,u,(g_:i+1<=maxLen),(o_:(i+1)*32<=140737488355328)];rw[aBf,bZ];rfl;intro _;simp only[go_sem,aS (bP _)]
def VX(g:GM)(q:Prop)(X:D_):Prop:=(∀x∈X,x∈g.I)/\(q->∀x∈g.I,x∈X)
def aOq(n:Nat):Prop:=n%37≠7/\0<n%3
def aEs (g:GM) (c:g.ok) (M:g.L.length<=200) (d:Int) (n:Nat) (W:n<1000000) (h0:0<g.L.length):aA PQ G DO [.ag g.A,iv d,iv n] [] λr T=>(∃X:D_,r=ids X/\VX g (aOq n) X/\X.length<=2000)/\T=[]:=by
 refine aA.fin (p:=λr T=>∃X:D_,((r=ids X/\T=[])\/(r=.own 0/\T=[some (.arr 3 (X.map Id.A))]))/\VX g (aOq n) X/\X.length<=2000) (aC P6 ?_) [0] ?_;rotate_left;rintro r V ⟨X,⟨rfl,rfl⟩|⟨rfl,rfl⟩,h1,h2⟩;simp only[go_sem,gQ,List.getElem?_nil];grind;simp only[go_sem,gQ];grind;simp only[go_sem];apply cX (JG g c);simp only[go_sem];apply cO (λm s=>∃(i:Nat)(a:Int),m=g.L.length-i/\i<=g.L.length/\-1<=a/\a<g.L.length/\s=⟨0,[(1,iv d),(2,iv n),(3,.ptr 0 0),(7,ids (jI g.I)),(8,iv a),(9,iv i)],[some (.box g.A)]⟩) g.L.length ⟨0,-1,rfl,o_,o_,o_,f_⟩;rintro m s ⟨i,a,rfl,hi,z,y,rfl⟩;rcases eD i g.L.length with e|U;have D:=pC (show i<(2^63-1) by have:=c.n;omega);have j:(g.L.map OpM.A)[i]?=some g.L[i].A:=aO _ g.L i e;generalize g.L[i]=o at *
 cases J:o.By==d;simp only[go_sem,aP,aT e,j,J,D];exact⟨g.L.length-(i+1),o_,i+1,a,rfl,o_,z,y,rfl⟩;simp only[go_sem,aP,aT e,j,J,D];exact⟨g.L.length-(i+1),o_,i+1,i,rfl,o_,o_,o_,rfl⟩
 ·obtain rfl:i=g.L.length:=o_;have Y:VX g (aOq n) (jI g.I):=⟨λx w=>(dQ _).mem_iff.1 w,λ_ x w=>(dQ _).mem_iff.2 w⟩
  have R:(jI g.I).length<=2000:=by rw[(dQ _).length_eq];have:=c.i;omega
  have b:(n:Int).tmod 37=((n%37:Nat):Int):=Y_;have k:(n:Int).tmod 3=((n%3:Nat):Int):=Y_;have P:(n:Int).tdiv 3=((n/3:Nat):Int):=Y_;have B:=c.i;have t:∀l:D_,l.length<=1000->(Fd g l).length<=2000:=λl Z=>by have:=Ou (g:=g) l;omega
  by_cases f:n%37=7/\0<a;have c1:(((n%37:Nat):Int)==7)=true:=by simp[f.1]
  have c2:decide (0<a)=true:=decide_eq_true f.2;obtain⟨q,rfl⟩:=Int.eq_ofNat_of_zero_le (o_:0<=a);have v:q<g.L.length:=o_;have j:(g.L.map OpM.A)[q]?=some g.L[q].A:=aO _ g.L q v;have H:=c.ops _ (eQ v);simp only[go_sem,aP,aS (bP _),b,c1,c2,gt_iff_lt,j];apply cX (ZL g g.L[q].Past c (by have:=H.past.1;omega));simp only[go_sem];exact⟨_,.inl rfl,⟨Fg c.i _,λh=>absurd f.1 h.1⟩,t _ (by have:=H.past.1;omega)⟩
  ·have C:(((((n%37:Nat):Int)==7)=true/\decide (0<a)=false))\/(((n%37:Nat):Int)==7)=false:=b_;by_cases h3:0<n%3;have c3:decide (0<((n%3:Nat):Int))=true:=decide_eq_true o_;rcases C with⟨c1,c2⟩|c1;simp only[go_sem,aP,aS (bP _),b,c1,c2,gt_iff_lt,undef,k,c3];grind;simp only[go_sem,aP,aS (bP _),b,c1,gt_iff_lt,undef,k,c3];grind
   ·have c3:decide (0<((n%3:Nat):Int))=false:=decide_eq_false o_;by_cases K:a<0;have u:decide (a<0)=true:=decide_eq_true K;rcases C with⟨c1,c2⟩|c1;simp only[go_sem,aP,aS (bP _),b,c1,c2,gt_iff_lt,k,c3,u];grind;simp only[go_sem,aP,aS (bP _),b,c1,gt_iff_lt,undef,k,c3,u];grind
    ·have u:decide (a<0)=false:=decide_eq_false K;obtain⟨q,rfl⟩:=Int.eq_ofNat_of_zero_le (o_:0<=a);have v:q<g.I.length:=o_;have j:(g.I.map Id.A)[q]?=some g.I[q].A:=aO _ g.I q v;have F:¬(g.I.length:Int)=0:=o_;have E:IntKind.i64.wrap ((n/3:Nat):Int)=((n/3:Nat):Int):=aJ o_ o_;have O:((n/3:Nat):Int).tmod (g.I.length:Int)=((n/3%g.I.length:Nat):Int):=Y_;have S:n/3%g.I.length<g.I.length:=zM _ o_;have N:(g.I.map Id.A)[n/3%g.I.length]?=some g.I[n/3%g.I.length].A:=aO _ g.I _ S;have Q:=XG (G:=G) g [g.I[q],g.I[n/3%g.I.length]] c s_;rcases C with⟨c1,c2⟩|c1
     all_goals (
      first
      |simp only[go_sem,aP,aS (bP _),b,c1,c2,gt_iff_lt,k,c3,u,P,O,j,N,F,E,Id.A_def]|simp only[go_sem,aP,aS (bP _),b,c1,gt_iff_lt,undef,k,c3,u,P,O,j,N,F,E,Id.A_def]
      apply cH (args2:=[.ag g.A,ids [g.I[q],g.I[n/3%g.I.length]]]) (aB _) rfl rfl Q
      rintro r V ⟨rfl,rfl⟩
      refine⟨z_,sy,?_⟩
      simp only[go_sem]
      exact⟨_,.inr rfl,⟨Fg c.i _,λh=>absurd h.2 h3⟩,t _ s_⟩)
def PB(g:GM)(h:g.ok)(l:D_)(t:l.length<=maxLen)(k:Int):aA PQ G zV [.ag g.A,ids l,iv k] [] λr T=>
 ((∃(i:Nat)(h1:i<g.I.length)(h2:i<g.L.length),g.L[i].Kind=k/\g.I[i]∈l/\r=.tup [.ag g.I[i].A,.ag g.L[i].A])\/r=.tup [.ag (⟨0,0,0⟩:Id).A,.ag P1])/\T=[]:=by
 apply aC Lj;have x:=h.n;have y:=h.i;have w0:IntKind.i64.wrap ((g.L.length:Int)-1)=(g.L.length:Int)-1:=aJ o_ o_;simp only[go_sem,aP,w0];apply cO (λm s=>∃i:Int,-1<=i/\i<g.L.length/\m=(i+1).toNat/\s=⟨0,[(1,ids l),(2,iv k),(3,.ptr 0 0),(6,.ptr 1 0),(7,.ptr 2 0),(8,iv i)],[some (.box g.A),some (.box [iv 0,iv 0,.v (.int .u64 0)]),some (.box P1)]⟩) g.L.length ⟨(g.L.length:Int)-1,o_,o_,o_,by simp only[go_sem,P1]⟩;rintro m s ⟨i,w,u,rfl,rfl⟩;by_cases h0:0<=i;obtain⟨q,rfl⟩:=Int.eq_ofNat_of_zero_le h0;have p:q<g.L.length:=o_;have a:q<g.I.length:=o_;have b:(g.L.map OpM.A)[q]?=some g.L[q].A:=aO _ g.L q p;have j:(g.I.map Id.A)[q]?=some g.I[q].A:=aO _ g.I q a;have o:decide (0<=(q:Int))=true:=decide_eq_true h0;have c:IntKind.i64.wrap ((q:Int)-1)=(q:Int)-1:=aJ o_ o_;have f:=uJ (G:=G) l g.I[q] t;rw[Id.A_def]at f;cases e:g.L[q].Kind==k;simp only[go_sem,P1,ge_iff_le,b,e,undef,c];exact⟨q,o_,(q:Int)-1,o_,o_,o_,rfl⟩;simp only[go_sem,P1,ge_iff_le,b,j,e,Id.A_def];apply cX f;by_cases d:g.I[q]∈l;simp only[go_sem,P1,d,decide_true,b,j,undef,Id.A_def];grind;simp only[go_sem,P1,d,decide_false,c];exact⟨q,o_,(q:Int)-1,o_,o_,o_,rfl⟩;have o:decide (0<=i)=false:=decide_eq_false h0;simp only[go_sem,P1,ge_iff_le,o];exact .inr rfl
end Hud
