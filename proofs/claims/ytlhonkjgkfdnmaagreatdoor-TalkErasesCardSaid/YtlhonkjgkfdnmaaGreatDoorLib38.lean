import Derived.Test.YtlhonkjgkfdnmaaGreatDoorLib36
set_option linter.all false
set_option maxHeartbeats 40000000
namespace Hud
open Go
variable{G:L_}
def PE(l:V_)(k:IntKind):fH (.ls 1 (l.map λn:Nat=>[.v (.int k (n:Int))])) (.ls 1 (l.map λn:Nat=>[.v (.int k (n:Int))]))=true:=by
 apply Ma _
 induction l with
 |nil=>rfl|cons x l ih=>simp only[fG,zF,pL,fH,O9,beq_self_eq_true,yH,ih]
def RR(l:D_):fH (ids l) (ids l)=true:=Ma _ (VQ l)
structure RowsOk(b r g x:AV)(B R:List Nat)(Gs:List Int)(X:List BoxM):Prop where
 b1:B.length<=1000/\xN B
 b2:fH b (.ls 1 (bl B))=true
 r1:R.length<=1000/\∀y∈R,y<2^64
 r2:fH r (.ls 1 (ul R))=true
 g1:Gs.length<=1000/\∀y∈Gs,mZ y
 g2:fH g (rG Gs)=true
 x1:X.length<=1000/\∀y∈X,y.ok
 x2:fH x (F5 X)=true
def VT(z:Int):mZ (z.tmod 2):=by have:(z.tmod 2).natAbs=z.natAbs%2:=Int.natAbs_tmod z 2;constructor<;>omega
def VU{w:Nat}(h:w<256):[w,1,2,3,4,5,6,7,8].length<=1000/\xN [w,1,2,3,4,5,6,7,8]:=by refine⟨s_,λx a=>?_⟩;simp_all;omega
def K7{I g:D_}:∀(l out:D_),out.Nodup->(l.foldl (uD I g) out).Nodup|[],_,h=>h| y::l,out,h=>K7 l _ (by
   unfold uD;split;rename_i c;simp only[zJ,decide_eq_true_eq,EX,decide_eq_false_iff_not]at c;rw[vQ];refine⟨h,s_,?_⟩;intro a f b d e;rw[cA.1 d]at e;exact c.2.2 (e ▸ f)
   exact h)
def K8{g:GM}(a:g.ok)(X:D_):(yV g X).length<=1000:=by have h1:(yV g X).Nodup:=(dQ _).nodup_iff.2 (K7 X [] s_);have:=List.Nodup.length_le_of_subset h1 (KF (g:=g) X);have:=a.i;have:=a.n;omega
def ZV(X:D_)(d:Int)(h:∀x∈X,x.b<=2147483647):mZ (Sx X d):=by have a:=XH d X 0;have b:=XI d 2147483647 X 0 d_ h;unfold Sx;exact⟨o_,o_⟩
def rZ:([]:V_).length<=1000/\∀y∈([]:V_),y<2^64:=⟨s_,s_⟩
def tS:([]:B_).length<=1000/\∀y∈([]:B_),mZ y:=⟨s_,s_⟩
def tT:([]:List BoxM).length<=1000/\∀y∈([]:List BoxM),y.ok:=⟨s_,s_⟩
def VV:RowsOk dK dK dK dK [] [] [] []:=⟨xC,rfl,rZ,rfl,tS,rfl,tT,rfl⟩
def VW{o:OpM}{p b r g x:AV}{P:D_}{B R:V_}{a:B_}{X:List BoxM}(c:fH p (ids P)=true)(h:RowsOk b r g x B R a X):fH (.ag (gD o p b r g x)) (.ag (opR o P B R a X).A)=true:=by simp only[gD,opR,OpM.A_def,uP,fH,pL,O9,c,h.b2,h.r2,h.g2,h.x2,beq_self_eq_true,yH]
def G3(b sq k d rl nd:Int):OpM:=⟨b,sq,k,0,[],d,0,0,rl,[],⟨0,0,0⟩,0,[],[],⟨0,0,0⟩,[],nd,0,[],0,[],0,0⟩
def Hs{b sq k d rl nd:Int}(h1:mZ b)(h2:mZ sq)(h3:mZ k)(e:mZ d)(c:mZ rl)(a:mZ nd):(G3 b sq k d rl nd).ok:=by
 have z:mZ 0:=⟨d_,d_⟩
 refine⟨?_,?_,id0,id0,⟨am,am⟩,aGb,xC,⟨am,am⟩,⟨am,am⟩,⟨am,am⟩,⟨am,am⟩⟩;simp_all[G3,cS,pP];grind[G3]
def aMv(g:GM)(n:Int)(P:D_):Prop:=∃X,VX g (aMj ((pX n 1000000).toNat/5)) X/\P=yV g X
def NxR(e:GM)(n:Int)(r:AV)(T:aK):Prop:=∃(o:OpM)(P:D_)(d:Bool)(b a g x:AV)(B R:V_)(c:B_)(X:List BoxM),o.ok/\0<=o.By/\(P.length<=1000/\∀y∈P,y.ok)/\(d=true->P=[])/\(B.length<=1000/\xN B)/\(R.length<=1000/\∀y∈R,y<2^64)/\(c.length<=1000/\∀y∈c,mZ y)/\(X.length<=1000/\∀y∈X,y.ok) /\
 ((b=dK/\a=dK/\g=rG c/\x=F5 X/\B=[]/\R=[]/\T=[])\/(g=dK/\x=dK/\c=[]/\X=[]/\((b=dK/\a=dK/\B=[]/\R=[]/\T=[])\/(b=.own 0/\a=dK/\R=[]/\T=[some (.arr 1 (bl B))])\/(b=.own 0/\a=.own 1/\T=[some (.arr 1 (bl B)),some (.arr 1 (ul R))]))))/\aMv e n P/\r=.ag (gD o (lz 3 d (P.map Id.A)) b a g x)
def JT{a:Bool}{P:D_}(h:a=true->P=[]):fH (lz 3 a (P.map Id.A)) (ids P)=true:=by cases a;exact RR P;rw[h rfl];rfl
def SwR(g:GM)(h:O_)(f:Nat)(s:St):Prop:=∃(o:OpM)(X:D_)(b a e x:AV)(B R:V_)(d:B_)(c:List BoxM)(y:Id)(Y:aK),o.ok/\0<=o.By/\VX g (aMj (f/5)) X/\X.length<=2000/\(B.length<=1000/\xN B)/\(R.length<=1000/\∀y∈R,y<2^64)/\(d.length<=1000/\∀y∈d,mZ y)/\(c.length<=1000/\∀y∈c,y.ok) /\
 ((b=dK/\a=dK/\e=rG d/\x=F5 c/\B=[]/\R=[]/\Y=[])\/(e=dK/\x=dK/\d=[]/\c=[]/\((b=dK/\a=dK/\B=[]/\R=[]/\Y=[])\/(b=.own 5/\a=dK/\R=[]/\Y=[some (.arr 1 (bl B))])\/(b=.own 5/\a=.own 6/\Y=[some (.arr 1 (bl B)),some (.arr 1 (ul R))])))) /\
 s=⟨0,[(9,ids X),(7,.ptr 2 0),(1,iv f),(6,.ptr 1 0),(3,.ptr 0 0)],[some (.box g.A),some (.box (C4 0)),some (.box (gD o dK b a e x)),some (.box y.A),some (.box h)]++Y⟩
def sw0{g:GM}{b:O_}{a:Nat}{o:OpM}{X:D_}{y:Id}{s:St}(h1:o.ok)(h2:0<=o.By)(h3:VX g (aMj (a/5)) X)(d:X.length<=2000)(c:s=⟨0,[(9,ids X),(7,.ptr 2 0),(1,iv a),(6,.ptr 1 0),(3,.ptr 0 0)],[some (.box g.A),some (.box (C4 0)),some (.box (gD o dK dK dK dK dK)),some (.box y.A),some (.box b)]⟩):SwR g b a s :=
 ⟨o,X,_,_,_,_,[],[],[],[],y,[],h1,h2,h3,d,xC,rZ,tS,tT,.inr ⟨rfl,rfl,rfl,rfl,.inl ⟨rfl,rfl,rfl,rfl,rfl⟩⟩,c⟩
def aBh (g:GM) (C:g.ok) (S:∀o∈g.L,jB o=0) (hs:∀x∈g.I,x.b<=2147483647) (U:∀x∈g.I,0<=x.a) (Q:∀c∈g.Cards,0<=c.Member) (Z:g.L.length<=200) (n m:Int) (hn:mZ n) (hm:mZ m):
 aA PQ G Al [.ag g.A,iv n,iv m] [] (NxR g n):=by
 obtain⟨j,bm,e1⟩:∃k:Nat,k<1000000/\pX n 1000000=(k:Int):=⟨(pX n 1000000).toNat,by have:=BJ n 1000000 (by decide);omega,by have:=BJ n 1000000 (by decide);omega⟩
 obtain⟨E,bk,e2⟩:∃k:Nat,k<1000000/\pX m 1000000=(k:Int):=⟨(pX m 1000000).toNat,by have:=BJ m 1000000 (by decide);omega,by have:=BJ m 1000000 (by decide);omega⟩
 have O:=Dl (G:=G) n 1000000 hn.1 hn.2 (by decide) (by decide);have N:=Dl (G:=G) m 1000000 hm.1 hm.2 (by decide) (by decide);rw[e1]at O;have az:(g.L.length:Int)=0->aMv g n []:=λh=>⟨[],⟨by simp,λ_ x u=>by rw[Ae (show g.I.length=0 by rw[C.i];omega)]at u;exact u⟩,rfl⟩
 rw[e2]at N;refine aC P3 ?_;rw[L9,bC];refine cB (λs=>s=⟨0,[(6,.ptr 1 0),(3,.ptr 0 0),(1,iv n),(2,iv m)],[some (.box g.A),some (.box (C4 0))]⟩) ?_ ?_;rfl;rintro s rfl;rw[bC];refine cB (λs=>s=⟨0,[(1,iv j),(6,.ptr 1 0),(3,.ptr 0 0),(2,iv m)],[some (.box g.A),some (.box (C4 0))]⟩) ?_ ?_;simp only[go_sem];refine cX O ?_;simp only[go_sem];rintro s rfl;rw[bC];refine cB (λs=>s=⟨0,[(2,iv E),(1,iv j),(6,.ptr 1 0),(3,.ptr 0 0)],[some (.box g.A),some (.box (C4 0))]⟩) ?_ ?_;simp only[go_sem];refine cX N ?_;simp only[go_sem];rintro s rfl;have z0:mZ 0:=⟨by decide,by decide⟩
 have ai:(j:Int).tmod 4=((j%4:Nat):Int):=rfl;have aw:IntKind.i64.wrap (1+(j:Int).tmod 5)=((1+j%5:Nat):Int):=by have e:(j:Int).tmod 5=((j%5:Nat):Int):=rfl;rw[e,aJ (by omega) (by omega)];omega
 rw[bC];refine cB (λs=>∃o:OpM,o.ok/\0<=o.By/\s=⟨0,[(7,.ptr 2 0),(2,iv E),(1,iv j),(6,.ptr 1 0),(3,.ptr 0 0)],[some (.box g.A),some (.box (C4 0)),some (.box (gD o dK dK dK dK dK))]⟩) ?_ ?_;simp only[go_sem];refine cX (aEq E (by omega)) ?_;simp only[go_sem,aw];exact⟨G3 ((1+j%5:Nat):Int) 0 (RQ E) 0 0 0,Hs ⟨by omega,by omega⟩ z0 (aEr _) z0 z0 z0,by show(0:Int)<=((1+j%5:Nat):Int);omega,rfl⟩;rintro s ⟨o,F,D,rfl⟩;rw[bC];refine cB (λs=>s=⟨0,[(8,iv g.L.length),(7,.ptr 2 0),(2,iv E),(1,iv j),(6,.ptr 1 0),(3,.ptr 0 0)],[some (.box g.A),some (.box (C4 0)),some (.box (gD o dK dK dK dK dK))]⟩) ?_ ?_;simp only[go_sem,aP];rintro s rfl;rw[bC];refine cB (λs=>g.L.length≠0/\s=⟨0,[(8,iv g.L.length),(7,.ptr 2 0),(2,iv E),(1,iv j),(6,.ptr 1 0),(3,.ptr 0 0)],[some (.box g.A),some (.box (C4 0)),some (.box (gD o dK dK dK dK dK))]⟩) ?_ ?_;clear S C U Q hs O N;simp only[go_sem];refine aL (λh=>?_) (λh=>?_);simp only[go_sem,C4,ai];exact⟨G3 1 1 1 0 0 ((j%4:Nat):Int),[],true,_,_,_,_,[],[],[],[],Hs ⟨by decide,by decide⟩ ⟨by decide,by decide⟩ ⟨by decide,by decide⟩ z0 z0 ⟨by omega,by omega⟩,by show(0:Int)<=1;decide,⟨by simp,by simp⟩,λ_=>rfl,xC,rZ,tS,tT,.inr ⟨rfl,rfl,rfl,rfl,.inl ⟨rfl,rfl,rfl,rfl,rfl⟩⟩,az (by simpa using h),rfl⟩;simp only[go_sem];simp_all;rintro s ⟨bn,rfl⟩;rw[bC];refine cB (λs=>∃o:OpM,o.ok/\0<=o.By/\s=⟨0,[(8,iv g.L.length),(7,.ptr 2 0),(2,iv E),(1,iv j),(6,.ptr 1 0),(3,.ptr 0 0)],[some (.box g.A),some (.box (C4 0)),some (.box (gD o dK dK dK dK dK))]⟩) ?_ ?_;clear S C U Q hs O N;simp only[go_sem];refine aL (λh=>?_) (λh=>?_);simp only[go_sem];exact⟨G3 1 0 2 (IntKind.i64.wrap ((g.L.length:Int)+1)) (IntKind.i64.wrap (3-IntKind.i64.wrap (((j:Int).tmod 5).tdiv 4))) 0,Hs ⟨by decide,by decide⟩ z0 ⟨by decide,by decide⟩ (lH _) (lH _) z0,by show(0:Int)<=1;decide,rfl⟩;simp only[go_sem];grind;clear F D;rintro s ⟨f,F,D,rfl⟩;clear o;have ah:IntKind.i64.wrap ((j:Int).tdiv 5)=((j/5:Nat):Int):=by rw[show(j:Int).tdiv 5=((j/5:Nat):Int) from rfl,aJ (by omega) (by omega)]
 have aa:=λd=>aEs (G:=G) g C Z d (j/5) (by omega) (by omega);rw[bC];refine cB (λs=>∃X:D_,VX g (aMj (j/5)) X/\X.length<=2000/\s=⟨0,[(9,ids X),(8,iv g.L.length),(7,.ptr 2 0),(2,iv E),(1,iv j),(6,.ptr 1 0),(3,.ptr 0 0)],[some (.box g.A),some (.box (C4 0)),some (.box (gD f dK dK dK dK dK))]⟩) ?_ ?_;simp only[go_sem,ah];refine Jo (aa f.By) ?_;rintro r T' ⟨⟨X,rfl,h1,h2⟩,rfl⟩;simp only[go_sem];grind;rintro s ⟨X,p,l,rfl⟩;rw[bC];refine cB (λs=>∃X:D_,VX g (aMj (j/5)) X/\X.length<=2000/\s=⟨0,[(9,ids X),(8,iv g.L.length),(7,.ptr 2 0),(2,iv E),(1,iv j),(6,.ptr 1 0),(3,.ptr 0 0)],[some (.box g.A),some (.box (C4 0)),some (.box (gD f dK dK dK dK dK))]⟩) ?_ ?_;simp only[go_sem];refine aL (λh=>?_) (λh=>?_);simp only[go_sem];refine cX (JG g C) ?_;simp only[go_sem];exact⟨_,⟨λx u=>(dQ _).mem_iff.1 u,λ_ x u=>(dQ _).mem_iff.2 u⟩,by rw[(dQ _).length_eq,C.i];omega,rfl⟩;simp only[go_sem];grind;clear p l;rintro s ⟨t,p,l,rfl⟩;clear X;have ab:t.length<=maxLen:=by unfold maxLen;omega
 rw[bC];refine cB (λs=>∃(x:Id)(oc:O_),x.ok/\s=⟨0,[(10,.ptr 3 0),(9,ids t),(8,iv g.L.length),(7,.ptr 2 0),(2,iv E),(1,iv j),(6,.ptr 1 0),(3,.ptr 0 0)],[some (.box g.A),some (.box (C4 0)),some (.box (gD f dK dK dK dK dK)),some (.box x.A),some (.box oc)]⟩) ?_ ?_;simp only[go_sem];refine Jo (PB g C t ab 6) ?_;rintro r T' ⟨hr,rfl⟩;rcases hr with⟨i,h1,h2,v,hm,rfl⟩|rfl;simp only[go_sem];exact⟨_,_,C.is _ (eQ h1),rfl⟩;simp only[go_sem,P1];exact⟨⟨0,0,0⟩,_,id0,rfl⟩;rintro s ⟨x,oc,u,rfl⟩;rw[bC];refine cB (λs=>∃(x:Id),x.ok/\s=⟨0,[(10,.ptr 3 0),(9,ids t),(8,iv g.L.length),(7,.ptr 2 0),(2,iv E),(1,iv j),(6,.ptr 1 0),(3,.ptr 0 0)],[some (.box g.A),some (.box (C4 0)),some (.box (gD f dK dK dK dK dK)),some (.box x.A),some (.box oc)]⟩) ?_ ?_;have ac:0<g.I.length:=by rw[C.i];omega
 have g0:(g.I.map Id.A)[0]?=some g.I[0].A:=aO _ g.I 0 ac;have h0:=C.is _ (eQ ac);simp only[go_sem,Id.A_def]at g0⊢;refine aL (λh=>?_) (λh=>?_);simp only[go_sem,g0,Id.A_def];grind;simp only[go_sem];exact⟨x,u,rfl⟩;clear u;rintro s ⟨K,u,rfl⟩;clear x;rw[bC];refine cB (λs=>s=⟨0,[(12,iv ((E/20:Nat):Int)),(10,.ptr 3 0),(9,ids t),(8,iv g.L.length),(7,.ptr 2 0),(1,iv j),(6,.ptr 1 0),(3,.ptr 0 0)],[some (.box g.A),some (.box (C4 0)),some (.box (gD f dK dK dK dK dK)),some (.box K.A),some (.box oc)]⟩) ?_ ?_;have av:IntKind.i64.wrap ((E:Int).tdiv 20)=((E/20:Nat):Int):=by rw[show(E:Int).tdiv 20=((E/20:Nat):Int) from rfl,aJ (by omega) (by omega)]
 simp only[go_sem,av];rintro s rfl;have au:E/20<1000000:=by omega
 generalize E/20=k at *
 have q3:(k:Int).tmod 3=((k%3:Nat):Int):=rfl;have q6:(k:Int).tmod 6=((k%6:Nat):Int):=rfl;have q5:(k:Int).tmod 5=((k%5:Nat):Int):=rfl;rw[bC];refine cB (SwR g oc j) ?_ ?_
 ·rcases(show f.Kind=2\/f.Kind=3\/f.Kind=5\/f.Kind=6\/f.Kind=7\/f.Kind=8\/(f.Kind=9\/f.Kind=10\/f.Kind=11\/f.Kind=12\/f.Kind=13)\/(f.Kind≠2/\f.Kind≠3/\f.Kind≠5/\f.Kind≠6/\f.Kind≠7/\f.Kind≠8/\f.Kind≠9/\f.Kind≠10/\f.Kind≠11/\f.Kind≠12/\f.Kind≠13) by omega) with v|v|v|v|v|v|v|v;simp only[go_sem,v,ge_iff_le];refine aL (λh=>?_) (λh=>?_);simp only[go_sem];exact sw0 (y:=K) ((F.dev _ (lH _)).role _ (lH _)) D p l rfl;simp only[go_sem];exact sw0 (y:=K) F D p l rfl;simp only[go_sem,v];refine aL (λh=>?_) (λh=>?_);simp only[go_sem];exact sw0 (y:=K) (((F.kind 3 ⟨by decide,by decide⟩).dev 0 z0).mem _ (lH _)) D p l rfl;simp only[go_sem];exact sw0 (y:=K) ((F.kind 3 ⟨by decide,by decide⟩).dev _ (lH _)) D p l rfl;simp only[go_sem,v];exact sw0 (y:=K) (((F.kind 5 ⟨by decide,by decide⟩).mem _ (lH _)).role _ (lH _)) D p l rfl;have ac:0<g.I.length:=by rw[C.i];omega
  obtain⟨q,bj,aq,eq⟩:∃q:Nat,1<=q/\q<=g.I.length/\(if 4<(g.I.length:Int) then 4 else(g.I.length:Int))=(q:Int):=⟨min g.I.length 4,by omega,by omega,by split<;>omega⟩
  have ar:((q:Int)=0)=False:=by simp;omega
  have ap:(k:Int).tmod (q:Int)=((k%q:Nat):Int):=rfl;have ae:k%q<g.I.length:=CV (zM _ (by omega)) aq;have gq:(g.I.map Id.A)[k%q]?=some g.I[k%q].A:=aO _ g.I _ ae;have af:=C.is _ (eQ ae);generalize g.I[k%q]=z at *
  obtain⟨w1,ad,bi⟩:=aKv (k:Int);obtain⟨w2,ao,bh⟩:=aHd ((IntKind.i64.wrap ((k:Int).tdiv 3)).tmod 5);obtain⟨w3,an,bg⟩:=aHd ((IntKind.i64.wrap ((k:Int).tdiv 15)).tmod 5);simp only[go_sem,v,eq,ar,ap,gq,aP,Id.A_def,bi];refine aL (λh=>?_) (λh=>?_);simp only[go_sem,bh,bg];exact⟨_,t,_,_,_,_,[w1,1,2,3,4,5,6,7,8],[w2,w3],[],[],K,_,((F.kind 6 ⟨by decide,by decide⟩).ep z af).n_ _ (VT _),D,p,l,VU ad,⟨by simp,by simp;exact⟨ao,an⟩⟩,tS,tT,.inr ⟨rfl,rfl,rfl,rfl,.inr (.inr ⟨rfl,rfl,rfl⟩)⟩,rfl⟩;simp only[go_sem];exact⟨_,t,_,_,_,_,[w1,1,2,3,4,5,6,7,8],[],[],[],K,_,((F.kind 6 ⟨by decide,by decide⟩).ep z af).n_ _ (VT _),D,p,l,VU ad,rZ,tS,tT,.inr ⟨rfl,rfl,rfl,rfl,.inr (.inl ⟨rfl,rfl,rfl,rfl⟩)⟩,rfl⟩;obtain⟨w,hw,ew⟩:=aKv (IntKind.i64.wrap (97+(k:Int).tmod 3));simp only[go_sem,v,ew];exact⟨_,t,_,_,_,_,[w],[],[],[],K,_,(F.kind 7 ⟨by decide,by decide⟩).of_ _ u,D,p,l,aGc hw,rZ,tS,tT,.inr ⟨rfl,rfl,rfl,rfl,.inr (.inl ⟨rfl,rfl,rfl,rfl⟩)⟩,rfl⟩;simp only[go_sem,v];exact sw0 (y:=K) ((F.kind 8 ⟨by decide,by decide⟩).of_ _ u) D p l rfl
  ·rcases v with v|v|v|v|v
   all_goals (
    simp only[go_sem,v]
    refine Jo (aBg g C S U Q t ab f F D k au) ?_
    rintro r T' ⟨⟨o2,gs,bs,h1,h2,h3,h4,rfl⟩,rfl⟩
    simp only[go_sem]
    refine aL (λh=>?_) (λh=>?_)
    simp only[go_sem,ah]
    refine Jo (aa o2.By) ?_
    rintro r T' ⟨⟨X,rfl,h5,h6⟩,rfl⟩
    simp only[go_sem]
    exact⟨o2,X,_,_,_,_,[],[],gs,bs,K,[],h1,h2,h5,h6,xC,rZ,h3,h4,.inl ⟨rfl,rfl,rfl,rfl,rfl,rfl,rfl⟩,rfl⟩
    simp only[go_sem]
    exact⟨o2,t,_,_,_,_,[],[],gs,bs,K,[],h1,h2,p,l,xC,rZ,h3,h4,.inl ⟨rfl,rfl,rfl,rfl,rfl,rfl,rfl⟩,rfl⟩)
  obtain⟨n2,n3,n5,n6,n7,n8,n9,am,al,ak,aj⟩:=v;have f2:(f.Kind==2)=false:=by simpa using n2
  have f3:(f.Kind==3)=false:=by simpa using n3
  have f5:(f.Kind==5)=false:=by simpa using n5
  have f6:(f.Kind==6)=false:=by simpa using n6
  have f7:(f.Kind==7)=false:=by simpa using n7
  have f8:(f.Kind==8)=false:=by simpa using n8
  have f9:(f.Kind==9)=false:=by simpa using n9
  have bf:(f.Kind==10)=false:=by simpa using am
  have be:(f.Kind==11)=false:=by simpa using al
  have bd:(f.Kind==12)=false:=by simpa using ak
  have bc:(f.Kind==13)=false:=by simpa using aj
  simp only[go_sem,f2,f3,f5,f6,f7,f8,f9,bf,be,bd,bc];exact sw0 (y:=K) F D p l rfl
 clear F D p l ab u;rintro s ⟨o,X,b,r',g',x,B,R,Gs,Xs,y,Y,F,D,W,M,hB,hR,bb,ax,J,rfl⟩;clear f t K;rw[bC];refine cB (λs=>∃X:D_,VX g (aMj (j/5)) X/\X.length<=2000/\s=⟨0,[(9,ids X),(7,.ptr 2 0),(1,iv j),(6,.ptr 1 0),(3,.ptr 0 0)],[some (.box g.A),some (.box (C4 0)),some (.box (gD o dK b r' g' x)),some (.box y.A),some (.box oc)]++Y⟩) ?_ ?_
 ·have hh:=uJ (G:=G) X o.Of (by unfold maxLen;omega);cases hz:(o.Of.a==0&&(o.Of.b==0&&o.Of.c==0))
  ·rcases J with⟨rfl,rfl,rfl,rfl,rfl,rfl,rfl⟩|⟨rfl,rfl,rfl,rfl,⟨rfl,rfl,rfl,rfl,rfl⟩|⟨rfl,rfl,rfl,rfl⟩|⟨rfl,rfl,rfl⟩⟩
   all_goals (
    simp only[go_sem,hz]
    refine cX hh ?_
    simp only[go_sem]
    refine aL (λh=>?_) (λh=>?_)
    simp only[go_sem]
    refine cX (JG g C) ?_
    simp only[go_sem]
    exact⟨_,⟨λx u=>(dQ _).mem_iff.1 u,λ_ x u=>(dQ _).mem_iff.2 u⟩,by rw[(dQ _).length_eq,C.i];omega,rfl⟩
    simp only[go_sem]
    exact⟨X,W,M,rfl⟩)
  ·rcases J with⟨rfl,rfl,rfl,rfl,rfl,rfl,rfl⟩|⟨rfl,rfl,rfl,rfl,⟨rfl,rfl,rfl,rfl,rfl⟩|⟨rfl,rfl,rfl,rfl⟩|⟨rfl,rfl,rfl⟩⟩
   all_goals (
    simp only[go_sem,hz,undef]
    exact⟨X,W,M,rfl⟩)
 clear W M;rintro s ⟨t,W,M,rfl⟩;clear X;have hH:=U9 (G:=G) g t C (by omega);have hS:=aH7 (G:=G) g t o.By (by omega) (λx u=>by have:=hs x (W.1 x u);omega);have ba:=aDT (G:=G) g t C (by omega);have V:(yV g t).length<=1000/\∀y∈yV g t,y.ok:=⟨K8 C t,λx u=>C.is x (KF t x u)⟩
 have ay:mZ (Sx t o.By):=ZV t o.By λx u=>hs x (W.1 x u);have T:aMv g n (yV g t):=⟨t,by rw[e1];exact W,rfl⟩
 generalize yV g t=H at *
 generalize Sx t o.By=sq at *
 generalize Fe g t=lt at *
 have P:=(F.seq sq ay).at_ (IntKind.i64.wrap (lt+(IntKind.i64.wrap ((j:Int).tdiv 5)).tmod 2)) (lH _);clear C S hs U Q Z O N aa W M;rcases J with⟨rfl,rfl,rfl,rfl,rfl,rfl,rfl⟩|⟨rfl,rfl,rfl,rfl,⟨rfl,rfl,rfl,rfl,rfl⟩|⟨rfl,rfl,rfl,rfl⟩|⟨rfl,rfl,rfl⟩⟩
 all_goals (
  simp only[go_sem]
  refine cX hH ?_
  simp only[go_sem]
  refine cX hS ?_
  simp only[go_sem]
  refine cX ba ?_
  simp only[go_sem,C4])
 exact⟨_,H,false,_,_,_,_,[],[],Gs,Xs,P,D,V,(by simp),xC,rZ,bb,ax,.inl ⟨rfl,rfl,rfl,rfl,rfl,rfl,rfl⟩,T,rfl⟩;exact⟨_,H,false,_,_,_,_,[],[],[],[],P,D,V,(by simp),xC,rZ,tS,tT,.inr ⟨rfl,rfl,rfl,rfl,.inl ⟨rfl,rfl,rfl,rfl,rfl⟩⟩,T,rfl⟩;exact⟨_,H,false,_,_,_,_,B,[],[],[],P,D,V,(by simp),hB,rZ,tS,tT,.inr ⟨rfl,rfl,rfl,rfl,.inr (.inl ⟨rfl,rfl,rfl,rfl⟩)⟩,T,rfl⟩;exact⟨_,H,false,_,_,_,_,B,R,[],[],P,D,V,(by simp),hB,hR,tS,tT,.inr ⟨rfl,rfl,rfl,rfl,.inr (.inr ⟨rfl,rfl,rfl⟩)⟩,T,rfl⟩
def aOf(g:GM)(z:g.ok)(q:∀o∈g.L,jB o=0)(u:∀x∈g.I,x.b<=2147483647)(s:∀x∈g.I,0<=x.a)(l:∀c∈g.Cards,0<=c.Member)(i:g.L.length<=200)(n m:Int)(v:mZ n)(w:mZ m):
 aA PQ G Al [.ag g.A,iv n,iv m] [] λr T=>(∃o:OpM,o.ok/\0<=o.By/\aMv g n o.Past/\r=.ag o.A)/\T=[]:=by
 obtain⟨t,d⟩:∃t:D_->Prop,t=aMv g n:=⟨_,rfl⟩
 refine aA.dsub (p:=λr T=>(∃(o:OpM)(P:D_)(p b j g x:AV)(B R:V_)(k:B_)(X:List BoxM),o.ok/\0<=o.By/\(P.length<=1000/\∀y∈P,y.ok)/\fH p (ids P)=true/\t P/\RowsOk b j g x B R k X/\r=.ag (gD o p b j g x))/\T=[]) ((aBh g z q u s l i n m v w).fin [0,1] ?_) ?_;rintro r H ⟨o,P,p,b,j,F,x,B,R,k,X,h1,h2,h3,h,e,E,D,C,⟨rfl,rfl,rfl,rfl,rfl,rfl,rfl⟩|⟨rfl,rfl,rfl,rfl,⟨rfl,rfl,rfl,rfl,rfl⟩|⟨rfl,rfl,rfl,rfl⟩|⟨rfl,rfl,rfl⟩⟩,f,rfl⟩;simp only[go_sem,gQ,List.getElem?_nil];exact⟨o,P,_,_,_,_,_,[],[],k,X,h1,h2,h3,JT h,d ▸ f,⟨xC,rfl,rZ,rfl,D,VS _,C,PD _⟩,rfl⟩;simp only[go_sem,gQ,List.getElem?_nil];exact⟨o,P,_,_,_,_,_,[],[],[],[],h1,h2,h3,JT h,d ▸ f,VV,rfl⟩;simp only[go_sem,gQ,List.getElem?_nil];exact⟨o,P,_,_,_,_,_,B,[],[],[],h1,h2,h3,JT h,d ▸ f,⟨e,PE _ _,rZ,rfl,tS,rfl,tT,rfl⟩,rfl⟩;simp only[go_sem,gQ];exact⟨o,P,_,_,_,_,_,B,R,[],[],h1,h2,h3,JT h,d ▸ f,⟨e,PE _ _,E,PE _ _,tS,rfl,tT,rfl⟩,rfl⟩;rintro r H ⟨⟨o,P,p,b,j,F,x,B,R,k,X,h1,h2,h3,h,f,e,rfl⟩,rfl⟩;exact⟨_,VW h e,⟨_,aEu h1 h3 e.b1 e.r1 e.g1 e.x1,h2,d ▸ f,rfl⟩,rfl⟩
def aEw(g:GM)(l:g.ok)(f:∀o∈g.L,jB o=0)(i:∀x∈g.I,x.b<=2147483647)(h:∀x∈g.I,0<=x.a)(e:∀c∈g.Cards,0<=c.Member)(d:g.L.length<=200)(n m:Int)(j:mZ n)(k:mZ m):
 aA PQ G Al [.ag g.A,iv n,iv m] [] λr T=>(∃o:OpM,o.ok/\0<=o.By/\r=.ag o.A)/\T=[]:=
 (aOf g l f i h e d n m j k).mono λ_ _ ⟨⟨o,h1,h2,_,h3⟩,p⟩=>⟨⟨o,h1,h2,h3⟩,p⟩
def aBi{o:OpM}(h:jB o=0):1<=o.By:=by unfold jB at h;grind[fP,oI]
def Reach.ida{cs:List CardM}{g:GM}(h:Reach cs g):∀x∈g.I,0<=x.a:=by
 induction h with
 |new=>simp| @add g o d e c ih=>
  by_cases h:(dV g o).1=0;have a:=Ff h;rw[yE a h];intro x b;rcases cG.1 b with b|b;exact ih x b;rw[cA.1 b];have:=aBi a.check;show 0<=o.By;omega;grind[addM]
def aEx(g:GM)(o:OpM):(addM g o).1.L.length<=g.L.length+1:=by grind[addM]
def aMw:aA PQ G zT [] [] λr T=>r=Sa [1,2,3,1,2,3]/\T=[]:=by refine aA.fin (p:=λr T=>r=.own 0/\T=[some (.arr 1 [[iv 1],[iv 2],[iv 3],[iv 1],[iv 2],[iv 3]])]) (aC Lf ?_) [0] ?_;rotate_left;rintro r a ⟨rfl,rfl⟩;simp only[go_sem,gQ];rfl;simp only[go_sem]
def Reach.hyp6{g:GM}(d:Reach bQ g):g.ok/\(∀o∈g.L,jB o=0)/\(∀x∈g.I,x.b<=2147483647)/\(∀x∈g.I,0<=x.a)/\(∀c∈g.Cards,0<=c.Member)/\g.L.length<=200:=by have e:=d.good rY;refine⟨e.ok,d.checked,d.seqb,d.ida,?_,e.n⟩;rw[e.cards];exact λc f=>by have:=JP.mem c f;omega
def ZW:aA PQ G Ci [.ls 5 (bQ.map CardM.A)] [] λr T=>r=.ag (⟨bQ,[],[],[],[]⟩:GM).A/\T=[]:=aBe bQ
def VY:aA PQ G xP [Sa [1,2,3,1,2,3]] [] λr T=>r=.ls 5 (bQ.map CardM.A)/\T=[]:=by refine(aEe [1,2,3,1,2,3] d_).fin [0] ?_;rintro r a ⟨rfl,rfl⟩;simp only[go_sem,gQ];rfl
def aBj (l:B_) (Z:l.length<=2^63-1) (hi:∀n∈l,mZ n) (M:Nat) (hM:M<=100):
 aA PQ G Ew [rG l,iv M] [] λr T=>(∃g,Reach bQ g/\g.L.length<=M/\r=.ag g.A)/\T=[]:=by
 apply aC Om;simp only[go_sem];apply cX aMw;simp only[go_sem];apply cX VY;simp only[go_sem];apply cX ZW;simp only[go_sem];refine jG (λs=>∃g,Reach bQ g/\g.L.length<=M/\s=⟨0,[(4,.ptr 0 0),(5,.ptr 1 0)],[some (.box z5),some (.box g.A)]⟩) ?_ ?_;rotate_left;rintro s ⟨g,y,I,rfl⟩;simp only[go_sem,z5];grind;apply cO (λm s=>∃(i:Nat)(g:GM),m=M-i/\i<=M/\g.L.length<=i/\Reach bQ g/\s=⟨0,[(0,rG l),(1,iv M),(4,.ptr 0 0),(5,.ptr 1 0),(6,iv i)],[some (.box z5),some (.box g.A)]⟩) M ⟨0,_,rfl,o_,cN _,Reach.new,by simp only[go_sem,z5]⟩;rintro m s ⟨i,g,V,aa,ab,y,rfl⟩;obtain⟨J,u,d,w,t,c⟩:=y.hyp6;have W:=λo z=>So (G:=G) g o J z;have O:=λn m Y V=>aEw (G:=G) g J u d w t c n m Y V;clear u d w t c J;have q:decide ((i:Int)<(M:Int))=decide (i<M):=s_;have x:decide ((i:Int)<4)=decide (i<4):=p_;have w2:IntKind.i64.wrap (2*(i:Int))=((2*i:Nat):Int):=a_;have k:decide (((2*i:Nat):Int)<(l.length:Int))=decide (2*i<l.length):=p_;by_cases b:i<M/\(i<4\/2*i<l.length);rotate_left;rcases eD i M with a|a;have c1:decide (i<M)=true:=decide_eq_true a;have c2:decide (i<4)=false:=decide_eq_false λh=>b ⟨a,.inl h⟩;have c3:decide (2*i<l.length)=false:=decide_eq_false λh=>b ⟨a,.inr h⟩;simp only[go_sem,aP,q,x,w2,k,c1,c2,c3];grind;have c1:decide (i<M)=false:=decide_eq_false o_;simp only[go_sem,q,c1,undef];grind;obtain⟨a,b⟩:=b;have U:=fQ i o_;have w3:IntKind.i64.wrap (((2*i:Nat):Int)+1)=((2*i+1:Nat):Int):=a_;have C:decide (((2*i+1:Nat):Int)<(l.length:Int))=decide (2*i+1<l.length):=p_;have c1:decide (i<M)=true:=decide_eq_true a;rw[bC];refine cB (λs=>s=⟨0,[(0,rG l),(1,iv M),(4,.ptr 0 0),(5,.ptr 1 0),(6,iv i)],[some (.box z5),some (.box g.A)]⟩) ?_ ?_;clear O W;rcases b with Q|Q;have c2:decide (i<4)=true:=decide_eq_true Q;simp only[go_sem,q,x,c1,c2,undef];have c3:decide (2*i<l.length)=true:=decide_eq_true Q;rcases eD i 4 with X|X;have c2:decide (i<4)=true:=decide_eq_true X;simp only[go_sem,q,x,c1,c2,undef];have c2:decide (i<4)=false:=decide_eq_false o_;simp only[go_sem,aP,q,x,c1,c2,w2,k,c3];rintro s rfl;obtain⟨f,j,F,H,e⟩:∃f j:Int,mZ f/\mZ j/\((2*i+1<l.length/\(l.map λn=>[iv n])[2*i]?=some [iv f]/\(l.map λn=>[iv n])[2*i+1]?=some [iv j])\/(¬2*i+1<l.length/\2*i<l.length/\(l.map λn=>[iv n])[2*i]?=some [iv f]/\j=0)\/(¬2*i<l.length/\f=0/\j=0)):=by
  have z0:mZ 0:=⟨d_,d_⟩
  grind
 have v:=O f j F H;clear O;rcases e with⟨h1,R,g2⟩|⟨h1,h2,R,rfl⟩|⟨h1,rfl,rfl⟩
 have h2:2*i<l.length:=o_;have S:decide (2*i<l.length)=true:=decide_eq_true h2;have B:decide (2*i+1<l.length)=true:=decide_eq_true h1;simp only[go_sem,aP,w2,k,w3,C,R,g2,h1,h2];rotate_left;have S:decide (2*i<l.length)=true:=decide_eq_true h2;have B:decide (2*i+1<l.length)=false:=decide_eq_false h1;simp only[go_sem,aP,w2,k,w3,C,B,R,h2];rotate_left;have S:decide (2*i<l.length)=false:=decide_eq_false h1;have B:decide (2*i+1<l.length)=false:=decide_eq_false o_;simp only[go_sem,aP,w2,k,S,w3,C,B]
 all_goals (
  clear hi Z q x k C w2 w3 c1 b
  refine And.intro ?_ ?_
  all_goals (
   apply Jo v
   rintro r T' ⟨⟨o,z,K,rfl⟩,rfl⟩
   have d:=BM z
   have D:=OX (G:=G) o z K
   have P:=W (cM o) d
   have I:=aEx g (cM o)
   have E:=y.add d (W6 d)
   generalize cM o=p at *
   generalize N:addM g p=ag at *
   clear N d v
   simp only[go_sem]
   try refine And.intro ?_ ?_
   all_goals (
    apply cX D
    simp only[go_sem]
    try refine And.intro ?_ ?_
    all_goals (
     apply cX P
     simp only[go_sem]
     refine aL (λhe=>?_) (λhe=>?_)
     simp only[go_sem,z5,U]
     exact⟨M-(i+1),o_,i+1,_,rfl,o_,o_,E,rfl⟩
     simp only[go_sem,z5,U]
     exact⟨M-(i+1),o_,i+1,g,rfl,o_,o_,y,rfl⟩))))
def zG(g:GM)(U:V_):D_:=Fd g (U.map λi=>g.I.getD i default)
def Xi(g:GM)(o:OpM)(U:V_):OpM:=opR {o with Seq:=Sx (zG g U) o.By,At:=Fe g (zG g U)} (yV g (zG g U)) [] [] [] []
def bhM(g:GM)(o:OpM)(U:V_):GM:=(addM g (cM (Xi g o U))).1
def ZX{g:GM}(c:g.ok)(d:∀x∈g.I,x.b<=2147483647){o:OpM}(e:o.ok)(U:V_)(f:mZ (Fe g (zG g U))):(Xi g o U).ok :=
 aEu ((e.seq _ (ZV _ _ λx a=>d x (Fg c.i _ x a))).at_ _ f) ⟨K8 c _,λx a=>c.is x (KF _ x a)⟩ xC rZ tS tT
def Fr{cs:List CardM}{g:GM}(a:Reach cs g)(d:g.ok){o:OpM}(b:o.ok)(U:V_)(c:mZ (Fe g (zG g U))):Reach cs (bhM g o U):=by have h:=BM (ZX d a.seqb b U c);exact a.add h (W6 h)
def GR {cs:List CardM} {g:GM} (b:Reach cs g) (X:D_):mZ (Fe g X):=by
 have a:∀(X:D_)(t:Int),0<=t->t<=2147483647->0<=X.foldl (vN g) t/\X.foldl (vN g) t<=2147483647:=by
  intro X
  induction X with
  |nil=>exact λt h0 h1=>⟨h0,h1⟩| cons x X ih=>
   intro t h0 h1;have c:(g.L.getD (aW g.I x).toNat default).At<=2147483647:=by rw[rH];rcases eD (aW g.I x).toNat g.L.length with h|h;rw[jN h];exact(Ov (b.checked _ (eQ h))).2;rw[sX h];decide
   grind[vN]
 have:=a X 0 d_ d_;unfold Fe;exact⟨o_,o_⟩
def C5:bQ=qB:=(show bQ=Xm from rfl).trans aBk
def Vb{g a:GM}{o p:OpM}{U:V_}(h1:Xi g o U=p)(h2:addM g (cM p)=(a,0)):bhM g o U=a:=by rw[bhM,h1,h2]
def lG0:GM:=⟨qB,[],[],[],[]⟩
def ZZ:Id:=⟨1,1,1678659063197719793⟩
def lI2:Id:=⟨1,2,1986754332845367016⟩
def lI3:Id:=⟨1,3,302905262156610722⟩
def lI4:Id:=⟨1,4,2151359658425387410⟩
def lI5:Id:=⟨1,5,1415757915243515795⟩
def lI6:Id:=⟨2,1,217900310499724631⟩
def lP1:OpM:=⟨1,1,1,0,[],0,0,0,0,[],⟨0,0,0⟩,0,[],[],⟨0,0,0⟩,[],0,0,[],0,[],0,0⟩
def PI:OpM:=⟨1,1,1,0,[],0,0,0,0,[],⟨0,0,0⟩,0,[],[],⟨0,0,0⟩,[],0,0,[],0,[],1957341969156249392,2198076407687076080⟩
def lG1:GM:=⟨qB,[PI],[ZZ],[[]],[[false]]⟩
def lS1:cM lP1=PI:=db
def lA1:addM lG0 (cM lP1)=(lG1,0):=by refine KX (c:=⟨1,1,1858807316446646070,2294458496254976924,1058522930688824048⟩) (up:=[]) lS1 k_ ?_ k_ k_ d_ k_ k_ k_;rw[show lP1.By.toNat=1 from rfl,PH _ (lG _ _)];kernel_rfl
def lP2:OpM:=⟨1,2,2,0,[ZZ],2,0,0,3,[],⟨0,0,0⟩,0,[],[],⟨0,0,0⟩,[],0,0,[],0,[],0,0⟩
def TQ:OpM:=⟨1,2,2,0,[ZZ],2,0,0,3,[],⟨0,0,0⟩,0,[],[],⟨0,0,0⟩,[],0,0,[],0,[],1100293863131382432,85999066257217048⟩
def lG2:GM:=⟨qB,[PI,TQ],[ZZ,lI2],[[],[0]],[[false,false],[true,false]]⟩
def lS2:cM lP2=TQ:=db
def lA2:addM lG1 (cM lP2)=(lG2,0):=by refine KX (c:=⟨1,1,1858807316446646070,2294458496254976924,1058522930688824048⟩) (up:=[0]) lS2 k_ ?_ k_ k_ d_ k_ k_ k_;rw[show lP2.By.toNat=1 from rfl,PH _ (lG _ _)];kernel_rfl
def lB2:bhM lG1 (G3 1 0 2 2 3 0) [0]=lG2:=Vb k_ lA2
def lP3:OpM:=⟨1,3,2,0,[lI2],3,0,0,3,[],⟨0,0,0⟩,0,[],[],⟨0,0,0⟩,[],0,0,[],0,[],0,0⟩
def Xo:OpM:=⟨1,3,2,0,[lI2],3,0,0,3,[],⟨0,0,0⟩,0,[],[],⟨0,0,0⟩,[],0,0,[],0,[],331454641707575666,880825274174778007⟩
def lG3:GM:=⟨qB,[PI,TQ,Xo],[ZZ,lI2,lI3],[[],[0],[1]],[[false,false,false],[true,false,false],[true,true,false]]⟩
def lS3:cM lP3=Xo:=db
def lA3:addM lG2 (cM lP3)=(lG3,0):=by refine KX (c:=⟨1,1,1858807316446646070,2294458496254976924,1058522930688824048⟩) (up:=[1]) lS3 k_ ?_ k_ k_ d_ k_ k_ k_;rw[show lP3.By.toNat=1 from rfl,PH _ (lG _ _)];kernel_rfl
def lB3:bhM lG2 (G3 1 0 2 3 3 0) [1]=lG3:=Vb k_ lA3
def lP4:OpM:=⟨1,4,2,0,[lI3],4,0,0,3,[],⟨0,0,0⟩,0,[],[],⟨0,0,0⟩,[],0,0,[],0,[],0,0⟩
def lO4:OpM:=⟨1,4,2,0,[lI3],4,0,0,3,[],⟨0,0,0⟩,0,[],[],⟨0,0,0⟩,[],0,0,[],0,[],1985449911018515417,1095755653441449969⟩
def lG4:GM:=⟨qB,[PI,TQ,Xo,lO4],[ZZ,lI2,lI3,lI4],[[],[0],[1],[2]],[[false,false,false,false],[true,false,false,false],[true,true,false,false],[true,true,true,false]]⟩
def lS4:cM lP4=lO4:=db
def lA4:addM lG3 (cM lP4)=(lG4,0):=by refine KX (c:=⟨1,1,1858807316446646070,2294458496254976924,1058522930688824048⟩) (up:=[2]) lS4 k_ ?_ k_ k_ d_ k_ k_ k_;rw[show lP4.By.toNat=1 from rfl,PH _ (lG _ _)];kernel_rfl
def lB4:bhM lG3 (G3 1 0 2 4 3 0) [2]=lG4:=Vb k_ lA4
def lO5:OpM:=⟨1,5,3,0,[lI4],2,0,0,0,[],⟨0,0,0⟩,0,[],[],⟨0,0,0⟩,[],0,0,[],0,[],1016970253116322207,1455940877492789305⟩
def Za:GM:=⟨qB,[PI,TQ,Xo,lO4,lO5],[ZZ,lI2,lI3,lI4,lI5],[[],[0],[1],[2],[3]],[[false,false,false,false,false],[true,false,false,false,false],[true,true,false,false,false],[true,true,true,false,false],[true,true,true,true,false]]⟩
def lO6:OpM:=⟨2,1,3,0,[lI4],1,0,0,0,[],⟨0,0,0⟩,0,[],[],⟨0,0,0⟩,[],0,0,[],0,[],119229842462975473,345172639488305421⟩
def BP:GM:=⟨qB,[PI,TQ,Xo,lO4,lO5,lO6],[ZZ,lI2,lI3,lI4,lI5,lI6],[[],[0],[1],[2],[3],[3]],[[false,false,false,false,false,false],[true,false,false,false,false,false],[true,true,false,false,false,false],[true,true,true,false,false,false],[true,true,true,true,false,false],[true,true,true,true,false,false]]⟩
def GS{b k d rl:Int}(h1:mZ b)(h3:mZ k)(c:mZ d)(a:mZ rl):(G3 b 0 k d rl 0).ok:=Hs h1 ⟨d_,d_⟩ h3 c a ⟨d_,d_⟩
def lR1:Reach bQ lG1:=by have h:=BM (Hs (b:=1) (sq:=1) (k:=1) (d:=0) (rl:=0) (nd:=0) ⟨d_,d_⟩ ⟨d_,d_⟩ ⟨d_,d_⟩ ⟨d_,d_⟩ ⟨d_,d_⟩ ⟨d_,d_⟩);have r:Reach bQ (addM ⟨bQ,[],[],[],[]⟩ (cM (G3 1 1 1 0 0 0))).1:=Reach.new.add h (W6 h);rw[C5]at r⊢;rw[show G3 1 1 1 0 0 0=lP1 from rfl,show(⟨qB,[],[],[],[]⟩:GM)=lG0 from rfl,lA1]at r;exact r
def lR2:Reach bQ lG2:=lB2 ▸ Fr lR1 lR1.hyp6.1 (GS ⟨d_,d_⟩ ⟨d_,d_⟩ ⟨d_,d_⟩ ⟨d_,d_⟩) _ (GR lR1 _)
def lR3:Reach bQ lG3:=lB3 ▸ Fr lR2 lR2.hyp6.1 (GS ⟨d_,d_⟩ ⟨d_,d_⟩ ⟨d_,d_⟩ ⟨d_,d_⟩) _ (GR lR2 _)
def lR4:Reach bQ lG4:=lB4 ▸ Fr lR3 lR3.hyp6.1 (GS ⟨d_,d_⟩ ⟨d_,d_⟩ ⟨d_,d_⟩ ⟨d_,d_⟩) _ (GR lR3 _)
structure LivesP(G:Nat->Option (List AV)):Prop where
 counts:aA PQ G pN [.ptr 0 0,ids BP.I] (TG 0 (AM bQ BP.L)) λr T=>r=ids Za.I/\T=TG 0 (AM bQ BP.L)
 why:aA PQ G wB [.ptr 0 0,ids BP.I,.ag lI6.A] (TG 0 (AM bQ BP.L)) λr T=>r=iv 15/\T=TG 0 (AM bQ BP.L)
 kill:lA (AM bQ BP.L) lI5 lI6=true
def aII{g:PGM}{o:OpM}(h:(sR g o).2=0)(a:vF o=0):(sR g o).1=⟨g.cards,g.nodes++[⟨o,C7 o,BF g o,Fa g o.Past⟩]⟩:=by grind[sR,Oa,Q8]
def lQ:Nat->PGM|0=>⟨qB,[]⟩|1=>⟨qB,[⟨PI,ZZ,[0,0,0,0],1⟩]⟩|2=>⟨qB,[⟨PI,ZZ,[0,0,0,0],1⟩,⟨TQ,lI2,[1,0,0,0],2⟩]⟩|3=>⟨qB,[⟨PI,ZZ,[0,0,0,0],1⟩,⟨TQ,lI2,[1,0,0,0],2⟩,⟨Xo,lI3,[3,0,0,0],3⟩]⟩|4=>⟨qB,[⟨PI,ZZ,[0,0,0,0],1⟩,⟨TQ,lI2,[1,0,0,0],2⟩,⟨Xo,lI3,[3,0,0,0],3⟩,⟨lO4,lI4,[7,0,0,0],4⟩]⟩|5=>⟨qB,[⟨PI,ZZ,[0,0,0,0],1⟩,⟨TQ,lI2,[1,0,0,0],2⟩,⟨Xo,lI3,[3,0,0,0],3⟩,⟨lO4,lI4,[7,0,0,0],4⟩,⟨lO5,lI5,[15,0,0,0],5⟩]⟩|_=>⟨qB,[⟨PI,ZZ,[0,0,0,0],1⟩,⟨TQ,lI2,[1,0,0,0],2⟩,⟨Xo,lI3,[3,0,0,0],3⟩,⟨lO4,lI4,[7,0,0,0],4⟩,⟨lO5,lI5,[15,0,0,0],5⟩,⟨lO6,lI6,[15,0,0,0],5⟩]⟩
def Xp(g:PGM)(o:OpM):PGM:=⟨g.cards,g.nodes++[⟨o,C7 o,BF g o,Fa g o.Past⟩]⟩
def lQ0:AM bQ []=lQ 0:=by show(⟨uE bQ,[]⟩:PGM)=lQ 0;rw[uE,List.mergeSort_of_pairwise (by rw[C5];decide),C5];rfl
def pO1{l:List OpM}{o:OpM}{g a:PGM}(h0:AM bQ l=g)(c:(sR (AM bQ l) o).2=0)(b:jB o=0)(h1:Xp g o=a):AM bQ (l++[o])=a:=by rw[MS,aII c ((Aq o).trans b),h0];exact h1
def aGh:L_:=λg=>if g=1 then some lP else if g=0 then some (qY.map λn:Nat=>iv (n:Int)) else none
def aH8(g:GM)(o:OpM)(X:D_):OpM:={o with Past:=yV g X,Seq:=Sx X o.By,At:=Fe g X}
def aBC(g:GM)(o:OpM)(X:D_):GM:=(addM g (cM (aH8 g o X))).1
def aNS{g:GM}(a:g.ok){o:OpM}(d:o.ok)(X:D_)(f:∀x∈X,x.b<=2147483647)(e:mZ (Fe g X)):(aH8 g o X).ok:=by have h:=(d.seq _ (ZV X o.By f)).at_ _ e;exact⟨h.ints,h.nums,h.epoch,h.of,⟨K8 a _,λx c=>a.is x (KF _ x c)⟩,h.path,h.body,h.refs,h.guards,h.boxes,h.hist⟩
def aOK(g:GM)(f:g.ok)(o:OpM)(j:o.ok)(h:0<=o.By)(X:D_)(i:∀x∈X,x.b<=2147483647)(c:X.length<=100000)(e:mZ (Fe g X)):
 aA PQ G aCZ [.ag g.A,.ag o.A,ids X] [] λr T=>r=.ag (aBC g o X).A/\T=[]:=by
 have a:=aNS f j X i e;have n:=U9 (G:=G) g X f c;have l:=aH7 (G:=G) g X o.By c (λx k=>by have:=i x k;omega);have m:=aDT (G:=G) g X f c;have d:=OX (G:=G) (aH8 g o X) a h;have q:=So (G:=G) g (cM (aH8 g o X)) f (BM a);apply aC aLZ;have cE:(aH8 g o X).A=_:=OpM.A_def ({o with Past:=yV g X,Seq:=Sx X o.By,At:=Fe g X}:OpM);dsimp only at cE;unfold aBC;generalize aH8 g o X=p at *
 generalize yV g X=H at *
 generalize Sx X o.By=s at *
 generalize Fe g X=t at *
 clear a e j i;rw[OpM.A_def o];simp only[go_sem,z5];apply cX n;simp only[go_sem];apply cX l;simp only[go_sem];apply cX m;simp only[go_sem];rw[cE]at d;refine And.intro ?_ ?_
 all_goals (
  apply cX d
  simp only[go_sem]
  try refine And.intro ?_ ?_
  all_goals (
   apply cX q
   simp only[go_sem]))
def aGf{cs:List CardM}{g:GM}(a:Reach cs g)(d:g.ok){o:OpM}(c:o.ok)(X:D_)(e:∀x∈X,x.b<=2147483647):Reach cs (aBC g o X):=by have h:=BM (aNS d c X e (GR a X));exact a.add h (W6 h)
end Hud
