import Derived.Test.YtfbnbkidnmhhoaaGreatDoorLib24
set_option linter.all false
set_option maxHeartbeats 40000000
namespace Hud
open Go
variable{G:L_}
structure EvT where
 fn:Nat->Option HFun
 pr:Nat->List AV->aK->Option (AV×aK)
inductive ER where
 |bad|ok (e:Ex) (st:St)
def O9:Value->Value->Bool|.int k a,.int e b=>k==e&&a==b|.bool a,.bool b=>a==b|.slice none a b,.slice none c d=>Nat.beq a c&&Nat.beq b d|.pointer none,.pointer none=>true|.nilFunc,.nilFunc=>true|.func (.func g) a b,.func (.func f) i h=>Nat.beq g f&&(Nat.beq a.size 0&&(Nat.beq b.size 0&&(Nat.beq i.size 0&&Nat.beq h.size 0)))|_,_=>false
mutual
def Gj:AV->AV->Bool|.v x,.v y=>O9 x y|.ls k l,.ls g m=>Nat.beq k g&&aEp l m|.ag l,.ag m=>VN l m|.tup l,.tup m=>VN l m|.rp l,.rp m=>VN l m|.own i,.own j=>Nat.beq i j|.mp i,.mp j=>Nat.beq i j|.ptr i a,.ptr j b=>Nat.beq i j&&Nat.beq a b|.elt i a b c,.elt j d e f=>Nat.beq i j&&(Nat.beq a d&&(Nat.beq b e&&Nat.beq c f))|.vw i a b c,.vw j d e f=>Nat.beq i j&&(Nat.beq a d&&(Nat.beq b e&&Nat.beq c f))|_,_=>false
def VN:O0->O0->Bool|[],[]=>true|x::l,y::m=>Gj x y&&VN l m|_,_=>false
def aEp:N_->N_->Bool|[],[]=>true|x::l,y::m=>VN x y&&aEp l m|_,_=>false
end
section
variable(G:L_)(tb:EvT)
end
structure EvT.Ok(P:Program)(G:Nat->Option (List AV))(tb:EvT):Prop where
 fn:∀f h,tb.fn f=some h->∃H,tF P f H=some h
 pr:∀f args T r T',tb.pr f args T=some (r,T')->aA P G f args T λr' T''=>r'=r/\T''=T'
section
variable{P:Program}{G:L_}{tb:EvT}
def MX{x y:Value}(h:O9 x y=true):x=y:=by
 unfold O9 at h;split at h
 case h_6=>
  simp only[zJ,Ko,Array.size_eq_zero_iff]at h;obtain⟨rfl,rfl,rfl,rfl,rfl⟩:=h;rfl
 all_goals simp_all
mutual
def aGa:∀(x y:AV),Gj x y=true->x=y
 |.v x,y,h=>by
  cases y<;>simp only[Gj,jJ]at h;rw[MX h]
 |.ls k l,y,h=>by
  cases y<;>simp only[Gj,jJ,zJ,Ko]at h;rw[h.1,ZQ l _ h.2]
 |.ag l,y,h=>by
  cases y<;>simp only[Gj,jJ]at h;rw[JQ l _ h]
 |.tup l,y,h=>by
  cases y<;>simp only[Gj,jJ]at h;rw[JQ l _ h]
 |.rp l,y,h=>by
  cases y<;>simp only[Gj,jJ]at h;rw[JQ l _ h]
 |.own i,y,h=>by
  cases y<;>simp only[Gj,jJ,Ko]at h;rw[h]
 |.mp i,y,h=>by
  cases y<;>simp only[Gj,jJ,Ko]at h;rw[h]
 |.ptr i a,y,h=>by
  cases y<;>simp only[Gj,jJ,zJ,Ko]at h;rw[h.1,h.2]
 |.elt i a b c,y,h=>by
  cases y<;>simp only[Gj,jJ,zJ,Ko]at h;simp_all
 |.vw i a b c,y,h=>by
  cases y<;>simp only[Gj,jJ,zJ,Ko]at h;simp_all
 |.yl i,y,h=>by cases y<;>simp only[Gj,jJ]at h
 |.bm f k d,y,h=>by cases y<;>simp only[Gj,jJ]at h
 |.cl f d,y,h=>by cases y<;>simp only[Gj,jJ]at h
 |.any,y,h=>by cases y<;>simp only[Gj,jJ]at h
def JQ:∀(x y:O0),VN x y=true->x=y
 |[],y,h=>by cases y<;>simp only[VN,jJ]at h;rfl
 |x::l,y,h=>by cases y<;>simp only[VN,jJ,zJ]at h;rw[aGa x _ h.1,JQ l _ h.2]
def ZQ:∀(x y:N_),aEp x y=true->x=y
 |[],y,h=>by cases y<;>simp only[aEp,jJ]at h;rfl
 |x::l,y,h=>by cases y<;>simp only[aEp,jJ,zJ]at h;rw[JQ x _ h.1,ZQ l _ h.2]
end
end
mutual
def fH:AV->AV->Bool|.v x,.v y=>O9 x y|.v (.slice none 0 0),.ls _ []=>true|.ls k l,.ls a m=>Nat.beq k a&&zF l m|.ag l,.ag m=>pL l m|.tup l,.tup m=>pL l m|_,_=>false
def pL:O0->O0->Bool|[],[]=>true|x::l,y::m=>fH x y&&pL l m|_,_=>false
def zF:N_->N_->Bool|[],[]=>true|x::l,y::m=>pL x y&&zF l m|_,_=>false
end
def RN:∀{l m:N_},zF l m=true->l.length=m.length
 |[],[],_=>rfl|x::l,y::m,h=>by
  simp only[zF,zJ]at h;simp only[sE,RN h.2]
 |[],_::_,h=>by simp[zF]at h|_::_,[],h=>by simp[zF]at h
def RO:∀{l m:O0},pL l m=true->l.length=m.length
 |[],[],_=>rfl|x::l,y::m,h=>by
  simp only[pL,zJ]at h;simp only[sE,RO h.2]
 |[],_::_,h=>by simp[pL]at h|_::_,[],h=>by simp[pL]at h
def VO{x y:AV}(h:fH x y=true)(a:aX x=true):aX y=true:=by cases x<;>cases y<;>simp only[fH,jJ]at h;rw[<-MX h];exact a;rfl;rfl;grind[aX];grind[aX]
mutual
def MY{h:GH}:∀{x y:AV}{u:Value},fH x y=true->oB h x u->oB h y u
 |.v x,.v y,u,d,e=>by
  simp only[fH]at d;rw[<-MX d];exact e
 | .v x,.ls k s,u,d,e=>by
  cases s with
  |nil=>
   unfold fH at d;grind[oB]
  |cons a b=>simp[fH]at d
 |.ls k l,.ls t m,u,d,e=>by
  simp only[fH,zJ,Ko]at d;obtain⟨rfl,g⟩:=d;have i:=RN g;simp only[oB]at e⊢;obtain⟨A,c,f,h2,r,j⟩:=e;refine⟨A,c,i ▸ f,i ▸ h2,r,?_⟩;rcases j with j|⟨b,o,q,p⟩
  grind;exact .inr ⟨b,o,q,ZR g p⟩
 |.ag l,.ag m,u,d,e=>by
  simp only[fH]at d;simp only[oB]at e⊢;obtain⟨n,f,h2⟩:=e;exact⟨n,f,VP d h2⟩
 |.tup l,.tup m,u,d,e=>by simp[oB]at e
def ZR{h:GH}{b k:Nat}:∀{l m:N_}{o:Nat},zF l m=true->kF h b k l o->kF h b k m o|[],[],o,_,_=>by simp[kF]|x::l,y::m,o,a,e=>by simp only[zF,zJ]at a;simp only[kF]at e⊢;exact⟨(RO a.1) ▸ e.1,ZS a.1 e.2.1,ZR a.2 e.2.2⟩
def ZS{h:GH}{b:Nat}:∀{l m:O0}{o:Nat},pL l m=true->mR h b l o->mR h b m o|[],[],o,_,_=>by simp[mR]|x::l,y::m,o,a,e=>by simp only[pL,zJ]at a;simp only[mR]at e⊢;obtain⟨⟨u,g,f,d⟩,c⟩:=e;exact⟨⟨u,VO a.1 g,f,MY a.1 d⟩,ZS a.2 c⟩
def VP{h:GH}:∀{l m:O0}{us:O5},pL l m=true->cK h l us->cK h m us|[],[],us,_,e=>e|x::l,y::m,us,b,e=>by simp only[pL,zJ]at b;simp only[cK]at e⊢;obtain⟨u,a,f,d,c⟩:=e;exact⟨u,a,f,MY b.1 d,VP b.2 c⟩
end
mutual
def ZT{h:GH}{φ:Nat->Value}{n:Nat}:∀{x y:AV}{u:Value},fH x y=true->Rp h φ n x u->Rp h φ n y u
 |.v x,.v y,u,a,e=>by
  simp only[fH]at a;rw[<-MX a];exact e
 |.v x,.ls k f,u,a,e=>by
  simp only[Rp]at e⊢;exact MY (x:=.v x) a (by simpa only[oB]using e)
 |.ls k l,.ls d m,u,a,e=>by
  simp only[Rp]at e⊢;exact MY a e
 |.ag l,.ag m,u,a,e=>by
  simp only[fH]at a;simp only[Rp]at e⊢;obtain⟨b,c,h2⟩:=e;exact⟨b,c,MZ a h2⟩
 |.tup l,.tup m,u,a,e=>by simp only[fH]at a;simp only[Rp]at e⊢;obtain⟨b,c,h2⟩:=e;exact⟨b,c,MZ a h2⟩
def MZ{h:GH}{φ:Nat->Value}{n:Nat}:∀{l m:O0}{us:O5},pL l m=true->kR h φ n l us->kR h φ n m us|[],[],us,_,e=>e|x::l,y::m,us,b,e=>by simp only[pL,zJ]at b;simp only[kR]at e⊢;obtain⟨u,a,f,d,c⟩:=e;exact⟨u,a,f,ZT b.1 d,MZ b.2 c⟩
end
section
variable{P:Program}{G:L_}{f:Nat}{args:O0}{T:aK}{p q:AV->aK->Prop}
def aA.dsub(s:aA P G f args T p)(n:∀r g,p r g->∃i,fH r i=true/\q i g):aA P G f args T q:=by
 have d:∀{h:GH}{φ:Nat->Value}{w w':World}{v:Value},CS h φ T w p v w'->CS h φ T w q v w':=by rintro h φ w w' v ⟨r,g,u,j,l,k,y,x⟩;obtain⟨i,o,m⟩:=n r g l;exact⟨i,g,u,j,m,k,y,ZT o x⟩
 intro h φ w c t hI hA;rcases s h φ w c t hI hA with⟨a,b⟩|⟨v,w',a,b⟩
 exact .inl ⟨a,b.mono λe w' ⟨v,l,k⟩=>⟨v,l,d k⟩⟩;exact .inr ⟨v,w',a,d b⟩
end
def aA.asub{P:Program}{G:L_}{f:Nat}{args a:O0}{T:aK}{p:AV->aK->Prop}(e:aA P G f a T p)(d:pL args a=true):aA P G f args T p :=
 λh c w b g hI hA=>e h c w b g hI (MZ d hA)
def lH(z:Int):mZ (IntKind.i64.wrap z):=by unfold mZ;simp only[IntKind.wrap,IntKind.bits,IntKind.signed];simp;omega
def aHd(z:Int):∃k:Nat,k<2^64/\IntKind.u64.wrap z=(k:Int):=by refine⟨(IntKind.u64.wrap z).toNat,?_,?_⟩<;>simp only[IntKind.wrap,IntKind.bits,IntKind.signed]<;>simp<;>omega
def aKv(z:Int):∃k:Nat,k<256/\IntKind.u8.wrap z=(k:Int):=by refine⟨(IntKind.u8.wrap z).toNat,?_,?_⟩<;>simp only[IntKind.wrap,IntKind.bits,IntKind.signed]<;>simp<;>omega
def C4(by0:Int):O0:=[iv by0,iv 0,iv 0,iv 0,.v (.slice none 0 0),iv 0,iv 0,iv 0,iv 0,.v (.slice none 0 0),iv 0,iv 0,.v (.int .u64 0),iv 0,.v (.slice none 0 0),.v (.slice none 0 0),iv 0,iv 0,.v (.int .u64 0),.v (.slice none 0 0),iv 0,iv 0,.v (.slice none 0 0),.v (.int .u64 0),.v (.slice none 0 0),.v (.int .u64 0),.v (.int .u64 0)]
def aMJ(b:Int):iZ (C4 b)=[]:=fI rfl rfl
def aNE(L:O3)(b:Int):xF L (C4 b)=C4 b:=fI rfl rfl
def aZG(L:O3)(n:Nat)(b:Int):EJ L n (C4 b)=C4 b:=fI rfl rfl
def aMK(b:Int):(C4 b).length=27:=fI rfl rfl
def aML(b:Int):(C4 b).drop 27=[]:=fI rfl rfl
def aZH(i k:Nat)(es:N_)(b:Int):IB i k es (C4 b)=C4 b:=fI rfl rfl
def OpM.d27(o:OpM):o.A.drop 27=[]:=fI rfl rfl
def OpM.up1(o:OpM)(x:Int):o.A.take 1++[iv x]++o.A.drop 2=OpM.A {o with Seq:=x}:=fI rfl rfl
def OpM.up3(o:OpM)(x:Int):o.A.take 3++[iv x]++o.A.drop 4=OpM.A {o with At:=x}:=fI rfl rfl
def OpM.up4(o:OpM)(l:O6):o.A.take 4++[ids l]++o.A.drop 5=OpM.A {o with Past:=l}:=fI rfl rfl
attribute [go_sem] aMJ aNE aZG aMK aML aZH OpM.d27 OpM.up1 OpM.up3 OpM.up4
def aVQ(by0:Int)(cs:O0):Prop:=∃o:OpM,o.ok/\o.By=by0/\pL cs o.A=true
def kM(by0 k d ol rl:Int)(pa:List NodeM)(ep of:Id)(bo:O3):OpM:=⟨by0,0,k,0,[],d,ol,0,rl,pa,ep,0,bo,[],of,[],0,0,[],0,[],0,0⟩
def id0:(⟨0,0,0⟩:Id).ok:=⟨⟨s_,s_⟩,⟨s_,s_⟩,s_,s_⟩
def aQ4{by0 k d ol rl:Int}{pa:List NodeM}{ep of:Id}{bo:O3}(j:mZ by0)(h2:mZ k)(i:mZ d)(h:mZ ol)(g:mZ rl)(f:pa.length<=10/\∀x∈pa,x.ok)(e:ep.ok)(c:of.ok)(b:bo.length<=1000/\xN bo):(kM by0 k d ol rl pa ep of bo).ok:=by
 have z:mZ 0:=⟨s_,s_⟩
 refine⟨?_,?_,e,c,⟨sc,sc⟩,f,b,⟨sc,sc⟩,⟨sc,sc⟩,⟨sc,sc⟩,⟨sc,sc⟩⟩;intro n a;simp only[kM,cS,pP,or_false]at a;rcases a with rfl|rfl|rfl|rfl|rfl|rfl|rfl|rfl|rfl|rfl|rfl<;>assumption;intro n a;simp only[kM,cS,pP,or_false]at a;rcases a with rfl|rfl|rfl<;>decide
def aN3{by0 k d ol rl:Int}{pa:List NodeM}{ep of:Id}{bo:O3}{cs:O0}(h:(kM by0 k d ol rl pa ep of bo).ok)(a:pL cs (kM by0 k d ol rl pa ep of bo).A=true):aVQ by0 cs:=⟨_,h,rfl,a⟩
def aPg{k:Nat}(h:k<2^64):([⟨k,[]⟩]:List NodeM).length<=10/\∀x∈([⟨k,[]⟩]:List NodeM),x.ok:=by refine⟨k_,?_⟩;intro x a;rw[aE5.1 a];exact⟨h,k_,k_⟩
def aGb:([]:List NodeM).length<=10/\∀x∈([]:List NodeM),x.ok:=⟨k_,k_⟩
def xC:([]:O3).length<=1000/\xN []:=⟨k_,λx a=>by simp at a⟩
def aGc{k:Nat}(h:k<256):[k].length<=1000/\xN [k]:=⟨k_,λx a=>by rw[aE5.1 a];exact h⟩
def aUE(by0:Int)(h:mZ by0)(n:Nat)(u:n<1000000):aA PQ G aMb [.ag (C4 by0),iv n] [] λr T=>(∃p,r=.ag p/\aVQ by0 p)/\T=[]:=by
 have g:(n:Int).tmod 3=((n%3:Nat):Int):=rfl;have f:(n:Int).tmod 8=((n%8:Nat):Int):=rfl;have a:mZ 0:=⟨s_,s_⟩
 have v:n%8<8:=zM _ s_;obtain⟨j,s,i⟩:=aHd ((IntKind.i64.wrap ((n:Int).tdiv 3)).tmod 3);obtain⟨l,c,m⟩:=aHd (IntKind.i64.wrap (1+(IntKind.i64.wrap ((n:Int).tdiv 8)).tmod 90));obtain⟨q,o,t⟩:=aKv (IntKind.i64.wrap ((n:Int).tdiv 8));have b:n%8=0\/n%8=1\/n%8=2\/n%8=3\/n%8=4\/n%8=5\/n%8=6\/n%8=7:=o_;have e:(⟨IntKind.i64.wrap (1+((n%3:Nat):Int)),1,(j:Int)⟩:Id).ok:=⟨lH _,⟨by show(-9223372036854775808:Int)<=1;decide,by show(1:Int)<=2^63-1;decide⟩,by show(0:Int)<=(j:Int);omega,by show(j:Int)<2^64;omega⟩
 rcases b with b|b|b|b|b|b|b|b;apply aC aCW;simp only[go_sem,g,f,b,i,C4];apply cX (aCN 8);simp only[go_sem,show Ip 8=false from rfl];refine⟨_,rfl,aN3 (by0:=by0) (k:=8) (d:=0) (ol:=0) (rl:=0) (pa:=[]) (ep:=⟨0,0,0⟩) (of:=⟨IntKind.i64.wrap (1+((n%3:Nat):Int)),1,(j:Int)⟩) (bo:=[]) (aQ4 h ⟨s_,s_⟩ a a a aGb id0 e xC) ?_⟩;simp only[pL,fH,O9,OpM.A,kM,ids,F5,rG,bl,ul,uP,beq_self_eq_true,yH,mF,aBY];rfl;apply aC aCW;simp only[go_sem,g,f,b,i,C4];apply cX (aCN 2);simp only[go_sem,show Ip 2=true from rfl,m];refine⟨_,rfl,aN3 (by0:=by0) (k:=2) (d:=(IntKind.i64.wrap (1+(IntKind.i64.wrap ((n:Int).tdiv 8)).tmod 5))) (ol:=0) (rl:=(IntKind.i64.wrap (1+(IntKind.i64.wrap ((n:Int).tdiv 40)).tmod 3))) (pa:=[⟨l,[]⟩]) (ep:=⟨0,0,0⟩) (of:=⟨0,0,0⟩) (bo:=[]) (aQ4 h ⟨s_,s_⟩ (lH _) a (lH _) (aPg c) id0 id0 xC) ?_⟩;simp only[pL,fH,zF,O9,OpM.A,kM,NodeM.A,ids,F5,rG,bl,ul,uP,fG,beq_self_eq_true,yH,mF,aBY,Nat.beq_refl];rfl;apply aC aCW;simp only[go_sem,g,f,b,i,C4];apply cX (aCN 3);simp only[go_sem,show Ip 3=true from rfl,m];refine⟨_,rfl,aN3 (by0:=by0) (k:=3) (d:=(IntKind.i64.wrap (1+(IntKind.i64.wrap ((n:Int).tdiv 8)).tmod 5))) (ol:=0) (rl:=0) (pa:=[⟨l,[]⟩]) (ep:=⟨0,0,0⟩) (of:=⟨0,0,0⟩) (bo:=[]) (aQ4 h ⟨s_,s_⟩ (lH _) a a (aPg c) id0 id0 xC) ?_⟩;simp only[pL,fH,zF,O9,OpM.A,kM,NodeM.A,ids,F5,rG,bl,ul,uP,fG,beq_self_eq_true,yH,mF,aBY,Nat.beq_refl];rfl;apply aC aCW;simp only[go_sem,g,f,b,i,C4];apply cX (aCN 4);simp only[go_sem,show Ip 4=true from rfl,m];refine⟨_,rfl,aN3 (by0:=by0) (k:=4) (d:=0) (ol:=0) (rl:=0) (pa:=[⟨l,[]⟩]) (ep:=⟨0,0,0⟩) (of:=⟨0,0,0⟩) (bo:=[]) (aQ4 h ⟨s_,s_⟩ a a a (aPg c) id0 id0 xC) ?_⟩;simp only[pL,fH,zF,O9,OpM.A,kM,NodeM.A,ids,F5,rG,bl,ul,uP,fG,beq_self_eq_true,yH,mF,aBY,Nat.beq_refl];rfl;apply aC aCW;simp only[go_sem,g,f,b,i,C4];apply cX (aCN 2);simp only[go_sem,show Ip 2=true from rfl,m];refine⟨_,rfl,aN3 (by0:=by0) (k:=2) (d:=(IntKind.i64.wrap (1+(IntKind.i64.wrap ((n:Int).tdiv 8)).tmod 5))) (ol:=0) (rl:=(IntKind.i64.wrap (1+(IntKind.i64.wrap ((n:Int).tdiv 40)).tmod 3))) (pa:=[⟨l,[]⟩]) (ep:=⟨0,0,0⟩) (of:=⟨0,0,0⟩) (bo:=[]) (aQ4 h ⟨s_,s_⟩ (lH _) a (lH _) (aPg c) id0 id0 xC) ?_⟩;simp only[pL,fH,zF,O9,OpM.A,kM,NodeM.A,ids,F5,rG,bl,ul,uP,fG,beq_self_eq_true,yH,mF,aBY,Nat.beq_refl];rfl;apply aC aCW;simp only[go_sem,g,f,b,i,t,C4];apply cX (aCN 6);simp only[go_sem,show Ip 6=false from rfl];refine⟨_,rfl,aN3 (by0:=by0) (k:=6) (d:=0) (ol:=0) (rl:=0) (pa:=[]) (ep:=⟨IntKind.i64.wrap (1+((n%3:Nat):Int)),1,(j:Int)⟩) (of:=⟨0,0,0⟩) (bo:=[q]) (aQ4 h ⟨s_,s_⟩ a a a aGb e id0 (aGc o)) ?_⟩;simp only[pL,fH,zF,O9,OpM.A,kM,ids,F5,rG,bl,ul,uP,fG,beq_self_eq_true,yH,mF,aBY,Nat.beq_refl];rfl;apply aC aCW;simp only[go_sem,g,f,b,i,C4];apply cX (aCN 7);simp only[go_sem,show Ip 7=false from rfl];refine⟨_,rfl,aN3 (by0:=by0) (k:=7) (d:=0) (ol:=0) (rl:=0) (pa:=[]) (ep:=⟨0,0,0⟩) (of:=⟨IntKind.i64.wrap (1+((n%3:Nat):Int)),1,(j:Int)⟩) (bo:=[43]) (aQ4 h ⟨s_,s_⟩ a a a aGb id0 e (aGc s_)) ?_⟩;simp only[pL,fH,zF,O9,OpM.A,kM,ids,F5,rG,bl,ul,uP,fG,beq_self_eq_true,yH,mF,aBY,Nat.beq_refl];rfl;apply aC aCW;simp only[go_sem,g,f,b,i,C4];apply cX (aCN 13);simp only[go_sem,show Ip 13=true from rfl,m];refine⟨_,rfl,aN3 (by0:=by0) (k:=13) (d:=(IntKind.i64.wrap (1+(IntKind.i64.wrap ((n:Int).tdiv 8)).tmod 5))) (ol:=(IntKind.i64.wrap (1+(IntKind.i64.wrap ((n:Int).tdiv 40)).tmod 5))) (rl:=0) (pa:=[⟨l,[]⟩]) (ep:=⟨0,0,0⟩) (of:=⟨IntKind.i64.wrap (1+((n%3:Nat):Int)),1,(j:Int)⟩) (bo:=[]) (aQ4 h ⟨s_,s_⟩ (lH _) (lH _) a (aPg c) id0 e xC) ?_⟩;simp only[pL,fH,zF,O9,OpM.A,kM,NodeM.A,ids,F5,rG,bl,ul,uP,fG,beq_self_eq_true,yH,mF,aBY,Nat.beq_refl];rfl
def aSI(by0:Int)(b:mZ by0)(n:Nat)(a:n<1000000):aA PQ G aMb [.ag (C4 by0),iv n] [] λr T=>(∃o:OpM,o.ok/\o.By=by0/\r=.ag o.A)/\T=[]:=by refine(aUE by0 b n a).dsub ?_;rintro r f ⟨⟨e,rfl,o,d,h2,c⟩,rfl⟩;exact⟨.ag o.A,by simp only[fH];exact c,⟨o,d,h2,rfl⟩,rfl⟩
def kN(l:O4)(j:Nat):Int:=if j<l.length then pX (l.getD j 0) 1000000 else 0
def aXi(l:O4)(j:Nat):0<=kN l j/\kN l j<1000000:=by unfold kN;split;exact BJ _ _ s_;decide
def aS3(l:O4)(j:Nat):∃k:Nat,k<1000000/\kN l j=(k:Int):=⟨(kN l j).toNat,by have:=aXi l j;omega,by have:=aXi l j;omega⟩
def aXj{b:Int}(h:mZ b)(c a:Nat)(h2:c<1000000)(i:a<1000000):(⟨b,1,1,(c:Int).tmod 5,[],0,0,0,0,[⟨5,[]⟩],⟨0,0,0⟩,0,[],[],⟨0,0,0⟩,[],(a:Int).tmod 5,0,[],0,[],0,0⟩:OpM).ok:=by
 have z:mZ 0:=⟨s_,s_⟩
 have d:mZ 1:=⟨s_,s_⟩
 have g:mZ ((c:Int).tmod 5):=by have e:(c:Int).tmod 5=((c%5:Nat):Int):=rfl;rw[e];exact⟨o_,o_⟩
 have f:mZ ((a:Int).tmod 5):=by have e:(a:Int).tmod 5=((a%5:Nat):Int):=rfl;rw[e];exact⟨o_,o_⟩
 refine⟨?_,?_,id0,id0,⟨k_,k_⟩,aPg s_,xC,⟨k_,k_⟩,⟨k_,k_⟩,⟨k_,k_⟩,⟨k_,k_⟩⟩;simp_all;simp
def aU1{o:OpM}(c:o.ok){g:GM}(j:g.ok)(h:∀x∈g.I,x.b<=2147483647){X:O6}(k:∀x∈X,x∈g.I)(i:X.length<=1000)(d:Int)(f:Nat):OpM.ok {o with Seq:=Sx X d,At:=IntKind.i64.wrap (Fe g X+(f:Int).tmod 3),Past:=yV g X}:=by
 have m:mZ (Sx X d):=by have a:=XH d X 0;have b:=XI d 2147483647 X 0 s_ (λx e=>h x (k x e));unfold Sx;exact⟨o_,o_⟩
 have h2:mZ (IntKind.i64.wrap (Fe g X+(f:Int).tmod 3)):=lH _;have l:=c.ints;refine⟨?_,c.nums,c.epoch,c.of,⟨uR (aUb X) i,λx e=>j.is x (KF X x e)⟩,c.path,c.body,c.refs,c.guards,c.boxes,c.hist⟩;simp_all
def aWX (g:GM) (c:g.ok) (v:∀x∈g.I,x.b<=2147483647) (Q:g.Cards≠[]) (R:g.L.length<=200) (l:O4) (hl:l.length<=2^63-1) (hi:∀n∈l,mZ n):
 aA PQ G aPk [.ag g.A,rG l] [] λr T=>(∃o:OpM,o.ok/\0<=o.By/\r=.ag (cM o).A)/\T=[]:=by
 have C:0<g.Cards.length:=H3.2 Q;have aa:=c.cn;obtain⟨d,Y,e0⟩:=aS3 l 0;obtain⟨a,W,e1⟩:=aS3 l 1;obtain⟨f,z,e2⟩:=aS3 l 2;obtain⟨u,m,e3⟩:=aS3 l 3;apply aC aR2;simp only[go_sem];refine jG (λs=>s=⟨0,[(2,.ptr 0 0),(4,.ptr 1 0),(5,.own 2)],[some (.box g.A),some (.box (C4 0)),some (.arr 1 [[iv d],[iv a],[iv f],[iv u]])]⟩) ?_ ?_;refine aQ 4 (λi=>⟨0,[(1,rG l),(2,.ptr 0 0),(4,.ptr 1 0),(5,.own 2),(6,iv i)],[some (.box g.A),some (.box (C4 0)),some (.arr 1 ((List.range i).map λj=>[iv (kN l j)]))]⟩) (λ_=>True) ?_ trivial ?_ ?_;simp only[go_sem,C4,Mk,uP];intro i Z _;have M:=fQ i o_;have P:decide ((i:Int)<4)=true:=decide_eq_true o_;have N:(List.range i).length=i:=QK;rw[QH,bZ,fG,uP];rcases eD i l.length with E|E;have g0:(l.map λn=>[iv n])[i]?=some [iv l[i]]:=aO _ l i E;have B:=hi l[i] (eQ E);have J:kN l i=pX l[i] 1000000:=by grind[kN]
 rw[J];generalize l[i]=x at *
 simp only[go_sem,C4,aP,P,aT E,g0];apply cX (Dl x 1000000 B.1 B.2 s_ s_);simp only[go_sem,C4,aP,N,M,(o_:(i+1)*8<=140737488355328),(g_:i+1<=maxLen)];have J:kN l i=0:=by grind[kN]
 rw[J];simp only[go_sem,C4,aP,P,aS (o_:¬i<l.length),N,M,(o_:(i+1)*8<=140737488355328),(g_:i+1<=maxLen)];intro _;simp only[go_sem,C4,show List.range 4=[0,1,2,3] from rfl,fG,uP,e0,e1,e2,e3];rintro s rfl;have K:IntKind.i64.wrap (1+((d%g.Cards.length:Nat):Int))=((1+d%g.Cards.length:Nat):Int):=by have:=zM d C;rw[aJ o_ o_];omega
 have p:mZ ((1+d%g.Cards.length:Nat):Int):=by have:=zM d C;exact⟨o_,o_⟩
 have H:((g.Cards.length:Int)=0)=False:=by simp;exact Q
 have F:(d:Int).tmod (g.Cards.length:Int)=((d%g.Cards.length:Nat):Int):=rfl;generalize ab:((1+d%g.Cards.length:Nat):Int)=q at *
 have ac:0<=q:=o_;rw[bC];refine Xs (λs=>∃o:OpM,o.ok/\o.By=q/\s=⟨0,[(2,.ptr 0 0),(4,.ptr 1 0),(5,.own 2),(8,.ptr 3 0)],[some (.box g.A),some (.box (C4 0)),some (.arr 1 [[iv d],[iv a],[iv f],[iv u]]),some (.box o.A)]⟩) ?_ ?_;simp only[go_sem,aP,H,F,K];refine⟨?_,?_⟩;apply Jo (aSI q p u m);rintro r S ⟨⟨o,w,k,rfl⟩,rfl⟩;simp only[go_sem];grind;apply Jo (aSI q p u m);rintro r S ⟨⟨o,w,k,rfl⟩,rfl⟩;simp only[go_sem];grind;rintro s ⟨o,w,k,rfl⟩;simp only[go_sem,aP];refine aL (λh=>?_) (λh=>?_);simp only[go_sem];refine cX (aA.asub (OX ⟨o.By,1,1,(f:Int).tmod 5,[],0,0,0,0,[⟨5,[]⟩],⟨0,0,0⟩,0,[],[],⟨0,0,0⟩,[],(u:Int).tmod 5,0,[],0,[],0,0⟩ (aXj (k ▸ p) f u z m) ou) ?_) ?_;simp only[pL,fH,zF,O9,OpM.A,NodeM.A,ids,F5,rG,bl,ul,uP,fG,beq_self_eq_true,yH,mF,aBY,Nat.beq_refl];rfl;simp only[go_sem];exact⟨_,aXj (k ▸ p) f u z m,ou,rfl⟩;simp only[go_sem];apply cX (JG g c);have t:∀x∈jI g.I,x∈g.I:=λx y=>(dQ _).mem_iff.1 y;have D:(jI g.I).length<=g.L.length+4:=by rw[(dQ _).length_eq,c.i];omega
 generalize jI g.I=X at *
 simp only[go_sem];refine aL (λh3=>?_) (λh3=>?_);have V:IntKind.i64.wrap ((a:Int).tdiv 3)=((a/3:Nat):Int):=by rw[show(a:Int).tdiv 3=((a/3:Nat):Int) from rfl,aJ o_ o_]
 have U:IntKind.i64.wrap ((a:Int).tdiv 100)=((a/100:Nat):Int):=by rw[show(a:Int).tdiv 100=((a/100:Nat):Int) from rfl,aJ o_ o_]
 have hL:g.L≠[]:=by intro e;rw[e]at h;simp at h
 clear t D;have t:=XW (g:=g) c.i [((a/3:Nat):Int),((a/100:Nat):Int)];have D:=XX c [((a/3:Nat):Int),((a/100:Nat):Int)]
 have hC:=aUa (G:=G) g c [((a/3:Nat):Int),((a/100:Nat):Int)] k_ (by
  intro n O;simp only[cS,pP,or_false]at O
  rcases O with rfl|rfl<;>exact⟨o_,o_⟩) k_ hL
 generalize qI g [((a/3:Nat):Int),((a/100:Nat):Int)]=X at *
 simp only[go_sem,V,U];apply cH (aB _) rfl rfl hC;rintro r S ⟨rfl,rfl⟩;refine⟨w_,by simp only[aE5,forall_eq,xH];exact MR _,?_⟩;simp only[go_sem];apply cX (U9 g X c o_);simp only[go_sem];apply cX (aH7 g X o.By o_ (λx y=>by have:=v x (t x y);omega));simp only[go_sem];apply cX (aDT g X c o_);simp only[go_sem];apply cX (OX _ (aU1 w c v t o_ o.By f) ou);simp only[go_sem];exact⟨_,aU1 w c v t o_ o.By f,ou,rfl⟩;simp only[go_sem];apply cX (U9 g X c o_);simp only[go_sem];apply cX (aH7 g X o.By o_ (λx y=>by have:=v x (t x y);omega));simp only[go_sem];apply cX (aDT g X c o_);simp only[go_sem];apply cX (OX _ (aU1 w c v t o_ o.By f) ou);simp only[go_sem];exact⟨_,aU1 w c v t o_ o.By f,ou,rfl⟩
def aIG:List CardM:=BL [1,2,3,1]
def aPV:cardsOk aIG:=aEd _ s_ s_ s_
def Reach.hyps{cs:List CardM}(c:cardsOk cs){g:GM}(h:Reach cs g):g.ok/\(∀x∈g.I,x.b<=2147483647)/\g.Cards≠[]/\g.L.length<=200:=by have a:=h.good c;exact⟨a.ok,h.seqb,by rw[a.cards];exact c.ne,a.n⟩
def aUF(l:List CardM):∀e∈l.map CardM.A,∀c∈e,∃x,c=AV.v x:=by intro e b c a;obtain⟨y,_,rfl⟩:=dF.1 b;simp only[CardM.A_def,cS,pP,or_false]at a;rcases a with rfl|rfl|rfl|rfl|rfl<;>exact⟨_,rfl⟩
def PA:∀l:List CardM,zF (l.map CardM.A) (l.map CardM.A)=true|[]=>rfl|c::l=>by simp only[fG,zF,CardM.A_def,pL,fH,O9,beq_self_eq_true,yH,PA l]
def aBe(cs:List CardM):aA PQ G Ci [.ls 5 (cs.map CardM.A)] [] λr T=>r=.ag (⟨cs,[],[],[],[]⟩:GM).A/\T=[]:=by refine aA.dsub (p:=λr T=>r=.ag [.ls 5 (cs.map CardM.A),.v (.slice none 0 0),.v (.slice none 0 0),.v (.slice none 0 0),.v (.slice none 0 0)]/\T=[]) (aC R9 ?_) ?_;simp only[go_sem];rintro r a ⟨rfl,rfl⟩;refine⟨_,?_,rfl,rfl⟩;simp only[fH,pL,GM.A,ids,uP,PA,Nat.beq_refl,yH]
def aTb(o:OpM):(cM o).By=o.By:=by unfold cM;exact Eq.refl _
def VQ:∀l:O6,zF (l.map Id.A) (l.map Id.A)=true|[]=>rfl|c::l=>by simp only[fG,zF,Id.A_def,pL,fH,O9,beq_self_eq_true,yH,VQ l]
def nwM(o:OpM)(k d ol rl:Int)(of:Id):OpM:=⟨o.By,o.Seq,k,o.At,o.Past,d,ol,0,rl,[],⟨0,0,0⟩,0,[],[],of,[],0,0,[],0,[],0,0⟩
def aQ5{o:OpM}(c:o.ok){k d ol rl:Int}{of:Id}(h2:mZ k)(h:mZ d)(g:mZ ol)(f:mZ rl)(e:of.ok):(nwM o k d ol rl of).ok:=by
 have z:mZ 0:=⟨s_,s_⟩
 have b:=c.ints;refine⟨?_,?_,id0,e,c.past,aGb,xC,⟨sS,sS⟩,⟨sS,sS⟩,⟨sS,sS⟩,⟨sS,sS⟩⟩
 ·intro n a;simp only[nwM,cS,pP,or_false]at a;rcases a with rfl|rfl|rfl|rfl|rfl|rfl|rfl|rfl|rfl|rfl|rfl;exact b _ k_;exact b _ k_;exact h2;exact b _ k_
  all_goals assumption
 intro n a;simp only[nwM,cS,pP,or_false]at a;rcases a with rfl|rfl|rfl<;>decide
def aS4(o:OpM):(cM o).Kind=o.Kind:=by unfold cM;exact Eq.refl _
def z5:O0:=[.v (.slice none 0 0),.v (.slice none 0 0),.v (.slice none 0 0),.v (.slice none 0 0),.v (.slice none 0 0)]
def aU2 (l:O4) (hl:l.length<=2^63-1) (Y:∀n∈l,mZ n):
 aA PQ G aOy [rG l] [] λr T=>(∃g,Reach aIG g/\r=.ag g.A)/\T=[]:=by
 apply aC aR3;simp only[go_sem];apply cH (aB _) rfl rfl (aEe [1,2,3,1] s_);rintro r T' ⟨rfl,rfl⟩;refine⟨w_,by simp only[aE5,forall_eq,xH];exact aUF _,?_⟩;simp only[go_sem];apply cX (aBe aIG);simp only[go_sem];refine jG (λs=>∃g,Reach aIG g/\s=⟨0,[(2,.ptr 0 0),(3,.ptr 1 0)],[some (.box z5),some (.box g.A)]⟩) ?_ ?_;rotate_left;rintro s ⟨g,b,rfl⟩;simp only[go_sem,z5];exact⟨g,b,rfl⟩;apply cO (λm s=>∃(i:Nat)(g:GM),m=14-i/\i<=14/\Reach aIG g/\s=⟨0,[(0,rG l),(2,.ptr 0 0),(3,.ptr 1 0),(4,iv i)],[some (.box z5),some (.box g.A)]⟩) 14 ⟨0,_,rfl,s_,Reach.new,by simp only[go_sem,z5]⟩;rintro m s ⟨i,g,hm,X,b,rfl⟩;obtain⟨x,hs,R,F⟩:=b.hyps aPV;by_cases j:i<14/\(i=0\/4*i<l.length);rotate_left;rcases eD i 14 with t|t;have H:¬i=0:=λe=>j ⟨t,.inl e⟩;have h4:¬4*i<l.length:=λe=>j ⟨t,.inr e⟩;have J:decide ((i:Int)<14)=true:=decide_eq_true o_;have I:((i:Int)==0)=false:=by simpa using H
 have U:decide (4*(i:Int)<(l.length:Int))=false:=decide_eq_false o_;have K:IntKind.i64.wrap (4*(i:Int))=4*(i:Int):=aJ o_ o_;simp only[go_sem,aP,J,I,U,K];exact⟨g,b,rfl⟩;have J:decide ((i:Int)<14)=false:=decide_eq_false o_;simp only[go_sem,J,undef];exact⟨g,b,rfl⟩;obtain⟨t,j⟩:=j;have f:=fQ i o_;have J:decide ((i:Int)<14)=true:=decide_eq_true o_;have K:IntKind.i64.wrap (4*(i:Int))=4*(i:Int):=aJ o_ o_;obtain⟨k,hk,Z⟩:∃k:Nat,k<=l.length/\(if(4*(i:Int))<(l.length:Int) then(4*(i:Int)) else(l.length:Int))=(k:Int):=⟨min (4*i) l.length,o_,so⟩
 have B:=aWX (G:=G) g x hs R F (l.drop k) (by rw[vY];omega) (λn P=>Y n (QG P));have V:(l.map λn=>[iv n]).drop k=(l.drop k).map λn=>[iv n]:=by rw[<-aC0]
 have z:((l.drop k).map λn=>[iv n]).take (l.length-k)=(l.drop k).map λn=>[iv n]:=sG k_;rw[bC];refine Xs (λs=>s=⟨0,[(0,rG l),(2,.ptr 0 0),(3,.ptr 1 0),(4,iv i)],[some (.box z5),some (.box g.A)]⟩) ?_ ?_;rcases j with H|h4;subst H;simp only[go_sem,undef];have I:((i:Int)==0)=false\/i=0:=by rcases JX i with h|h;exact .inr h;left;simp;omega
 rcases I with I|H;have U:decide (4*(i:Int)<(l.length:Int))=true:=decide_eq_true o_;simp only[go_sem,aP,J,I,U,K];subst H;simp only[go_sem,undef];rintro s rfl;simp only[go_sem,aP,K,Z,hk,V,z];apply Jo B;rintro r T' ⟨⟨o,W,E,N⟩,rfl⟩;obtain⟨d,a,v,rfl⟩:∃d:OpM,d.ok/\0<=d.By/\r=.ag d.A:=⟨cM o,BM W,by rw[aTb];exact E,N⟩
 clear W E;have aa:(l.drop k).length=l.length-k:=vY;have Q:∀n∈l.drop k,mZ n:=λn P=>Y n (QG P);clear B;clear V z Z;generalize l.drop k=c at *
 simp only[go_sem,z5];have u:mZ 0:=⟨s_,s_⟩
 have q:(⟨1,1,0⟩:Id).ok:=⟨⟨s_,s_⟩,⟨s_,s_⟩,s_,s_⟩
 refine aL (λD=>?_) (λD=>?_);have S:3<c.length:=by have:=of_decide_eq_true D;omega
 have g3:(c.map λn=>[iv n])[3]?=some [iv (c.getD 3 0)]:=by rw[gE,rH,jN S];rfl
 have C:mZ (c.getD 3 0):=by rw[rH,jN S];exact Q _ (eQ S)
 simp only[go_sem,g3];apply cX (Dl (c.getD 3 0) 1000000 C.1 C.2 s_ s_);have O:0<=pX (c.getD 3 0) 1000000:=(BJ _ _ s_).1;generalize pX (c.getD 3 0) 1000000=n at *
 cases w:(d.Kind !=1);simp only[go_sem,undef,w];apply cX (So g d x a);simp only[go_sem];refine aL (λp=>?_) (λp=>?_);simp only[go_sem,z5,f];exact⟨13-i,o_,i+1,_,o_,o_,b.add a (W6 a),rfl⟩;simp only[go_sem,z5,f];exact⟨13-i,o_,i+1,g,o_,o_,b,rfl⟩;cases y:(n.tmod 3==1);cases L:(n.tmod 6==2);simp only[go_sem,w,y,L];apply cX (So g d x a);simp only[go_sem];refine aL (λp=>?_) (λp=>?_);simp only[go_sem,z5,f];exact⟨13-i,o_,i+1,_,o_,o_,b.add a (W6 a),rfl⟩;simp only[go_sem,z5,f];exact⟨13-i,o_,i+1,g,o_,o_,b,rfl⟩;simp only[go_sem,w,y,L];refine cX (aA.asub (OX (nwM d 13 (IntKind.i64.wrap (1+(IntKind.i64.wrap ((n).tdiv 6)).tmod 5)) (IntKind.i64.wrap (1+(IntKind.i64.wrap ((n).tdiv 30)).tmod 4)) 0 ⟨1,1,0⟩) (aQ5 a ⟨s_,s_⟩ (lH _) (lH _) u q) v) ?_) ?_;simp only[pL,fH,O9,OpM.A,nwM,ids,F5,rG,bl,ul,uP,beq_self_eq_true,yH,mF,aBY,Nat.beq_refl,VQ];rfl;simp only[go_sem,undef];apply cX (So g (cM (nwM d 13 (IntKind.i64.wrap (1+(IntKind.i64.wrap ((n).tdiv 6)).tmod 5)) (IntKind.i64.wrap (1+(IntKind.i64.wrap ((n).tdiv 30)).tmod 4)) 0 ⟨1,1,0⟩)) x (BM (aQ5 a ⟨s_,s_⟩ (lH _) (lH _) u q)));simp only[go_sem];refine aL (λp=>?_) (λp=>?_);simp only[go_sem,z5,f];exact⟨13-i,o_,i+1,_,o_,o_,b.add (BM (aQ5 a ⟨s_,s_⟩ (lH _) (lH _) u q)) (W6 (BM (aQ5 a ⟨s_,s_⟩ (lH _) (lH _) u q))),rfl⟩;simp only[go_sem,z5,f];exact⟨13-i,o_,i+1,g,o_,o_,b,rfl⟩;simp only[go_sem,w,y];refine cX (aA.asub (OX (nwM d 2 (IntKind.i64.wrap (1+(IntKind.i64.wrap ((n).tdiv 3)).tmod 5)) 0 (IntKind.i64.wrap (1+(IntKind.i64.wrap ((n).tdiv 15)).tmod 3)) ⟨0,0,0⟩) (aQ5 a ⟨s_,s_⟩ (lH _) u (lH _) id0) v) ?_) ?_;simp only[pL,fH,O9,OpM.A,nwM,ids,F5,rG,bl,ul,uP,beq_self_eq_true,yH,mF,aBY,Nat.beq_refl,VQ];rfl;have M:((cM (nwM d 2 (IntKind.i64.wrap (1+(IntKind.i64.wrap ((n).tdiv 3)).tmod 5)) 0 (IntKind.i64.wrap (1+(IntKind.i64.wrap ((n).tdiv 15)).tmod 3)) ⟨0,0,0⟩)).Kind !=1)=true:=by rw[aS4];rfl
 have L:(n.tmod 6==2)=false:=by rw[X6 O]at y⊢;simp only[beq_iff_eq]at y;simp only[beq_eq_false_iff_ne,ne_eq];omega
 simp only[go_sem,undef,M,L];apply cX (So g (cM (nwM d 2 (IntKind.i64.wrap (1+(IntKind.i64.wrap ((n).tdiv 3)).tmod 5)) 0 (IntKind.i64.wrap (1+(IntKind.i64.wrap ((n).tdiv 15)).tmod 3)) ⟨0,0,0⟩)) x (BM (aQ5 a ⟨s_,s_⟩ (lH _) u (lH _) id0)));simp only[go_sem];refine aL (λp=>?_) (λp=>?_);simp only[go_sem,z5,f];exact⟨13-i,o_,i+1,_,o_,o_,b.add (BM (aQ5 a ⟨s_,s_⟩ (lH _) u (lH _) id0)) (W6 (BM (aQ5 a ⟨s_,s_⟩ (lH _) u (lH _) id0))),rfl⟩;simp only[go_sem,z5,f];exact⟨13-i,o_,i+1,g,o_,o_,b,rfl⟩;cases w:(d.Kind !=1);simp only[go_sem,undef,w];apply cX (So g d x a);simp only[go_sem];refine aL (λp=>?_) (λp=>?_);simp only[go_sem,z5,f];exact⟨13-i,o_,i+1,_,o_,o_,b.add a (W6 a),rfl⟩;simp only[go_sem,z5,f];exact⟨13-i,o_,i+1,g,o_,o_,b,rfl⟩;simp only[go_sem,w,show((0:Int).tmod 3==1)=false from rfl,show((0:Int).tmod 6==2)=false from rfl];apply cX (So g d x a);simp only[go_sem];refine aL (λp=>?_) (λp=>?_);simp only[go_sem,z5,f];exact⟨13-i,o_,i+1,_,o_,o_,b.add a (W6 a),rfl⟩;simp only[go_sem,z5,f];exact⟨13-i,o_,i+1,g,o_,o_,b,rfl⟩
def aXN(a b:O6):4<=aPU a b:=by unfold aPU ptsF;split;omega;split;omega;split;omega;split<;>omega
def aOw{a c b d:O6}(h:a.Perm c)(f:∀x,x∈b↔x∈d):(aN a b).length=(aN c d).length:=by
 unfold aN;rw[(hZ _).length_eq,(hZ _).length_eq];have e:(c.filter λx=>!decide (x∈b))=c.filter λx=>!decide (x∈d):=List.filter_congr λx _=>by rw[decide_eq_decide.2 (f x)]
 rw[<-e];exact(h.filter _).length_eq
def aP8{a b:O6}(h:a.Perm b):sQ a=sQ b:=aOk ((hZ a).trans (h.trans (hZ b).symm)) (aOn a) (aOn b)
def aO5{a b:O6}(d:a.Nodup)(c:b.Nodup)(h:∀x,x∈a↔x∈b):a.Perm b:=(aBH d c).2 h
def aTc{a b:O6}(c:a.Nodup):(aN a b).Nodup:=(hZ _).nodup_iff.2 (c.filter _)
def aR4{a b:O6}(f:a.Nodup)(e:b.Nodup):(Bs a b).Nodup:=by unfold Bs;rw[vQ];refine⟨aTc f,e,?_⟩;intro x d y c;rintro rfl;exact((BX _ _ _).1 d).2 c
def aMD{a b:O6}(x:Id):x∈Bs a b↔x∈a\/x∈b:=by unfold Bs;rw[cG,BX];by_cases h:x∈b<;>simp[h]
def aOx{cs:List CardM}(l:cardsOk cs){g:GM}(k:Reach cs g){d c b a:O3}(r1:RRow g d)(n:RRow g c)(f:RRow g b)(e:RRow g a)
 (m:rid g b=rid g d++aIW (AM cs g.L) (aN (sQ (rid g c)) (sQ (rid g d)))) (h2:rid g a=rid g c++aIW (AM cs g.L) (aN (sQ (rid g d)) (sQ (rid g c)))):
 (∀x,x∈rid g b↔x∈rid g d\/x∈rid g c)/\(∀x,x∈rid g a↔x∈rid g d\/x∈rid g c)/\sQ (rid g b)=sQ (rid g a):=by
 have j:∀x,x∈rid g b↔x∈rid g d\/x∈rid g c:=λx=>by rw[m,cG,(mE _ _).mem_iff,BX,(hZ _).mem_iff,(hZ _).mem_iff];by_cases h:x∈rid g d<;>simp[h]
 have i:∀x,x∈rid g a↔x∈rid g d\/x∈rid g c:=λx=>by rw[h2,cG,(mE _ _).mem_iff,BX,(hZ _).mem_iff,(hZ _).mem_iff];by_cases h:x∈rid g c<;>simp[h]
 exact⟨j,i,aP8 (aO5 (aOj l k f) (aOj l k e) λx=>(j x).trans (i x).symm)⟩
def aRy(l:O6)(a:l.length<=1000000000):aA PQ G rO [ids l] [] λr T=>r=ids (sQ l)/\T=[]:=by refine(AD l a).fin [0] ?_;rintro r b ⟨rfl,rfl⟩;simp only[go_sem,aSF]
def aWY(P:GK G)(ab:aA PQ G aM1 [] [] λr T=>r=.v (.bool true)/\T=[])(l b a:O4)(hl:l.length<=2^63-1)(hi:∀n∈l,mZ n)(h1:b.length<=2^63-1)(ad:∀n∈b,mZ n)(h2:a.length<=2^63-1)(ac:∀n∈a,mZ n):
 aA PQ G aOp [rG l,rG b,rG a] [] λr T=>r=.v (.bool true)/\T=[]:=by
 apply aC aP3;simp only[go_sem];apply Jo (aU2 l hl hi);rintro r Q ⟨⟨g,e,rfl⟩,rfl⟩;have f:=aPV;have gd:=e.good f;have H:=e.row f;have u:=gd.ok;have ah:=gd.n;simp only[go_sem];apply cX (aE7 g u b h1 ad);simp only[go_sem];apply cX (aE7 g u a h2 ac);have cA:=λx(hx:x∈qI g b) y hy=>aMU f e (m:=b) (x:=x) (y:=y) hx hy;have cB:=λx(hx:x∈qI g a) y hy=>aMU f e (m:=a) (x:=x) (y:=y) hx hy;have sA:=XW (g:=g) u.i b;have sB:=XW (g:=g) u.i a;have nA:=Sy (g:=g) u.i H.nd b;have nB:=Sy (g:=g) u.i H.nd a;have lA:=XX u b;have lB:=XX u a;generalize qI g b=A at *
 generalize qI g a=B at *
 simp only[go_sem];apply aBF (aQM P f e A o_ cA);simp only[go_sem,TG,MG];apply aBF (aQM P f e B o_ cB);have S:=aPe f e cA;have R:=aPe f e cB;have Y:=aPD f e sA;have W:=aPD f e sB;generalize aKU g A g.L.length=F at *
 generalize aKU g B g.L.length=E at *
 have p1:(rid g F).Perm A:=aO5 (aOj f e S) nA Y;have p2:(rid g E).Perm B:=aO5 (aOj f e R) nB W;obtain⟨M,K,o,C,aa,Z,hM⟩:=aR1 (G:=G) P f e S R rfl rfl rfl rfl rfl rfl;obtain⟨ma,mb,hs⟩:=aOx f e S R o C aa Z;obtain⟨z,w,t,s,k,j,J⟩:=aR1 (G:=G) P f e o C rfl rfl rfl rfl rfl rfl;obtain⟨aj,ai,ak⟩:=aOx f e o C t s k j;have nX:=aR4 nA nB;have lX:(Bs A B).length<=1000:=by unfold Bs;rw[dZ];have:=aJe A B;omega
 have O:sQ (rid g M)=sQ (Bs A B):=aP8 (aO5 (aOj f e o) nX λx=>by rw[ma,Y,W,aMD]);have hY:sQ (rid g K)=sQ (Bs A B):=hs ▸ O;have eU:(aN (sQ (rid g E)) (sQ (rid g F))).length=(aN B A).length:=aOw ((hZ _).trans p2) λx=>by rw[(hZ _).mem_iff,Y]
 have eV:(aN (sQ (rid g F)) (sQ (rid g E))).length=(aN A B).length:=aOw ((hZ _).trans p1) λx=>by rw[(hZ _).mem_iff,W]
 have e0:aN (sQ (Bs A B)) (sQ (Bs A B))=[]:=aOe λ_ h=>h;have z0:aIW (AM aIG g.L) []=[]:=Ae (by rw[aDM];rfl);have z4:aPU (sQ (Bs A B)) (sQ (Bs A B))=4:=aXJ (aSH (λ_=>Iff.rfl) s_);rw[O,hY,e0,z0,jO]at k j;rw[O,hY,e0,z4]at J;rw[eU,eV]at hM;have al:=aXN (sQ (rid g F)) (sQ (rid g E));generalize aPU (sQ (rid g F)) (sQ (rid g E))=N at *
 obtain⟨_,k1,j1,_,_⟩:=aQh f e t;obtain⟨_,k2,j2,_,_⟩:=aQh f e s;have o1:=k1 z.length;have o2:=k2 w.length;rw[dE]at o1 o2;have gA:=aPn (G:=G) _ o1;have gB:=aPn (G:=G) _ o2;rw[j1,k,O]at gA;rw[j2,j,hY]at gB;have hU:=aS1 (G:=G) A B o_ o_;have hS:=aRy (G:=G) (Bs A B) o_;have af:=aVN (G:=G) B A o_ o_;have ae:=aVN (G:=G) A B o_ o_;have hE:=Pr (G:=G) (sQ (Bs A B)) (sQ (Bs A B)) (by rw[(hZ _).length_eq];unfold maxLen;omega);rw[decide_eq_true rfl]at hE;generalize Bs A B=X at *
 generalize AM aIG (aIX g F)=p at *
 generalize AM aIG (aIX g E)=q at *
 generalize AM aIG (aIX g M)=p' at *
 generalize AM aIG (aIX g K)=q' at *
 generalize AM aIG (aIX g z)=V at *
 generalize AM aIG (aIX g w)=U at *
 simp only[go_sem,TG,MG];apply aG (T2:=TG 0 p++TG 3 q) [1,2,3,4,5,6] (aB _) s_ k_ rfl u_ hM;rintro r Q ⟨rfl,c,d,rfl⟩;refine'(λ(D:(_:Prop))=>?_) ?_;rotate_left;cases c<;>cases d<;>(simp only[go_sem,T2,MG];exact D)
 apply cX hU;simp only[go_sem];apply cX hS;simp only[go_sem];apply aG (T2:=TG 0 p'++TG 3 q') [0,2,3,1,4,5] (aB _) s_ k_ rfl u_ J;rintro r Q ⟨rfl,c,d,rfl⟩;refine'(λ(D:(_:Prop))=>?_) ?_;rotate_left;cases c<;>cases d<;>(simp only[go_sem,T2,MG,gQ];exact D)
 apply cX af;have I:decide ((N:Int)>=4)=true:=decide_eq_true o_;simp only[go_sem,aP,beq_self_eq_true];apply cX ae;simp only[go_sem,aP,beq_self_eq_true,I];apply aG (T2:=TG 0 V) [0,2,3] (aB _) s_ k_ rfl u_ gA;rintro r Q ⟨rfl,rfl⟩;simp only[go_sem,TG,MG];apply cX hE;simp only[go_sem];apply aG (T2:=TG 0 U) [1,4,5] (aB _) s_ k_ rfl u_ gB;rintro r Q ⟨rfl,rfl⟩;simp only[go_sem,TG,MG];apply cX hE;simp only[go_sem];apply cX ab;simp only[go_sem]
end Hud
