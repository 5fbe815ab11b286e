import Derived.Test.YtlhonkjgkfdnmaaGreatDoorLib12
set_option linter.all false
namespace Hud
set_option maxRecDepth 99999
open Go
def Om:=eVf (cF Ew [])
def P3:=eVf (cF Al [])
def P5:=eVf (cF HO [])
def P6:=eVf (cF DO [(67,none,1000)])
def Lj:=eVf (cF zV [])
def Lk:=eVf (cF zW [])
def P7:=eVf (cF Ao [(2,none,4),(3,none,4)])
end Hud
namespace Hud
open Go
section
variable{h h1:GH}{φ φ1:Nat->Value}{m n:Nat}
mutual
def aEf:∀{x:AV}{u u1:Value},Rp h φ m x u->Rp h1 φ1 n x u1->Rp h φ n x u
 |.v _,_,_,e,_=>by simpa[Rp]using e|.ls _ _,_,_,e,_=>by simp only[Rp]at *;exact e|.ag g,_,_,e,f=>by simp only[Rp]at *;obtain⟨d,a,b⟩:=e;obtain⟨_,_,c⟩:=f;exact⟨d,a,B4 b c⟩
 |.own _,_,_,e,f=>by simp only[Rp]at *;exact⟨f.1,e.2⟩|.ptr _ _,_,_,e,f=>by simp only[Rp]at *;exact⟨f.1,e.2⟩|.elt _ _ _ _,_,_,e,f=>by simp only[Rp]at *;exact⟨f.1,e.2⟩|.vw _ _ _ _,_,_,e,f=>by simp only[Rp]at *;exact⟨f.1,e.2⟩|.mp _,_,_,e,f=>by simp only[Rp]at *;exact⟨f.1,e.2⟩|.yl _,_,_,e,f=>by simp only[Rp]at *;exact⟨f.1,e.2⟩|.rp _,_,_,e,_=>by simp only[Rp]at *;exact e|.cl _ g,_,_,e,f=>by simp only[Rp]at *;obtain⟨d,a,b⟩:=e;obtain⟨_,_,c⟩:=f;exact⟨d,a,B4 b c⟩
 |.bm _ _ g,_,_,e,f=>by simp only[Rp]at *;obtain⟨d,a,b⟩:=e;obtain⟨_,_,c⟩:=f;exact⟨d,a,B4 b c⟩
 |.tup g,_,_,e,f=>by simp only[Rp]at *;obtain⟨d,a,b⟩:=e;obtain⟨_,_,c⟩:=f;exact⟨d,a,B4 b c⟩
 |.any,_,_,_,_=>z_
def B4:∀{cs:O_}{us vs:C_},cC h φ m cs us->cC h1 φ1 n cs vs->cC h φ n cs us
 |[],us,vs,e,_=>by simpa[cC]using e
 |c::cs,us,vs,e,f=>by
  simp only[cC]at *
  obtain⟨u,d,a,b,c⟩:=e;obtain⟨_,_,_,i,g⟩:=f;exact⟨u,d,a,aEf b i,B4 c g⟩
end
def GP{w w1:World}{i D:Nat}:∀{o:AObj},uF h φ m w i o->uF h1 φ1 n w1 D o->uF h φ n w i o
 |.box O,e,f=>by
  obtain⟨g,B,E,a,b,c,d⟩:=e;obtain⟨_,_,_,_,_,_,F⟩:=f;exact⟨g,B,E,a,b,c,B4 d F⟩
 |.arr _ _,e,_=>e
 |.arf k N,e,f=>by
  refine⟨e.1,e.2.imp id ?_⟩;rintro⟨g,c,y,E,t,q,j,u,v,z,J⟩;refine⟨g,c,y,E,t,q,j,u,v,z,?_⟩;rcases f.2 with⟨_,_,M⟩|⟨_,_,_,_,_,_,_,_,_,_,G⟩
  grind[cC];exact B4 J G
 |.lp r s,e,f=>by
  obtain⟨l,t,q,j,u,v⟩:=e;obtain⟨_,_,_,_,_,I⟩:=f;exact⟨l,t,q,j,u,λp A=>aEf (v p A) (I p A)⟩
 |.mit k a b c,e,f=>by
  obtain⟨g,C,t,q,j,u⟩:=e;obtain⟨_,_,_,_,_,Q⟩:=f;refine⟨g,C,t,q,j,?_⟩;grind
 |.map R L K bs P,e,f=>by obtain⟨g,x,t,q,j,u,v,z⟩:=e;obtain⟨_,_,_,_,_,_,_,H⟩:=f;exact⟨g,x,t,q,j,u,v,B4 z H⟩
end
def aA.keep{P:Program}{G:L_}{f:FuncId}{args:O_}{T:aK}{q:Value->Prop}(B:aA P G f args T λr d=>(∃J,d=T++J)/\∃v,r=.v v/\q v):
 aA P G f args T λr d=>(∃v,r=.v v/\q v)/\d=T:=by
 have n:∀{h:GH}{φ:Nat->Value}{w w':World}{v:Value},Inv h φ w T->CS h φ T w (λr d=>(∃J,d=T++J)/\∃v,r=.v v/\q v) v w'->CS h φ T w (λr d=>(∃v,r=.v v/\q v)/\d=T) v w':=by
  rintro h φ w w' v hI ⟨r,d,F,m,⟨⟨J,rfl⟩,x,rfl,z⟩,c,g,y⟩;have l:∀i o,T[i]?=some (some o)->(T++J)[i]?=some (some o):=λi o e=>by rw[mY];exact e;grind
  refine⟨.v x,T,F,m,⟨⟨x,rfl,z⟩,rfl⟩,?_,?_,by simpa[Rp]using y⟩;exact⟨c.os,c.tape,c.output,c.size,c.frame,c.le,c.gfr,c.phi,λi o b A C=>c.org i o b (l i o A) C,cN _,c.drawn⟩;exact⟨g.gh,λi o e=>GP (g.obj i o (l i o e)) (hI.obj i o e),λi j u t b s p=>g.dis i j u t b (l i u s) (l j t p)⟩
 intro h φ w k D hI E;rcases B h φ w k D hI E with⟨a,b⟩|⟨v,w',a,b⟩
 exact .inl ⟨a,b.mono λe w' ⟨v,s,p⟩=>⟨v,s,n hI p⟩⟩;grind
def eH{P:Program}{G:L_}{f:FuncId}{b:HFun}{H:List (Nat×Option Nat×Nat)}(e:tF P f H=some b){args:O_}{T:aK}{x:Value}
 (c:aF8 P G b args T λr a=>r=.v x/\a.take T.length=T):aA P G f args T λr a=>r=.v x/\a=T:=by
 refine(aA.keep (q:=λv=>v=x) ((fT e c).mono ?_)).mono ?_;rintro r a ⟨rfl,d⟩;exact⟨⟨a.drop T.length,by have:=(LC T.length a).symm;rwa[d]at this⟩,x,rfl,rfl⟩;simp
end Hud
namespace Hud
set_option maxRecDepth 99999
open Go
def BZ:=eVf (cF kO [])
def wK:=eVf (cF eE [])
def sT:=eVf (cF iA [])
def vT:=eVf (cF kP [(2,some 0,1)])
end Hud
namespace Hud
open Go
section
variable{h:GH}{φ:Nat->Value}{n i k:Nat}{es:N_}
mutual
def aHa(a:n<=i):∀{x:AV}{u:Value},Rp h φ n x u->CB i k es x=x
 |.v _,_,_=>rfl|.ls _ _,_,_=>rfl|.rp _,_,_=>rfl|.any,_,_=>rfl|.ptr _ _,_,_=>rfl|.mp _,_,_=>rfl|.yl _,_,_=>rfl|.own j,_,e=>by simp only[Rp]at e;simp only[CB];rw[if_neg o_]|.elt j _ _ _,_,e=>by simp only[Rp]at e;simp only[CB];rw[if_neg o_]|.vw j _ _ _,_,e=>by simp only[Rp]at e;simp only[CB];rw[if_neg o_]|.ag d,_,e=>by simp only[Rp]at e;obtain⟨c,_,b⟩:=e;simp only[CB];rw[Fo a b]
 |.cl _ d,_,e=>by simp only[Rp]at e;obtain⟨c,_,b⟩:=e;simp only[CB];rw[Fo a b]
 |.bm _ _ d,_,e=>by simp only[Rp]at e;obtain⟨c,_,b⟩:=e;simp only[CB];rw[Fo a b]
 |.tup d,_,e=>by simp only[Rp]at e;obtain⟨c,_,b⟩:=e;simp only[CB];rw[Fo a b]
def Fo(a:n<=i):∀{cs:O_}{us:C_},cC h φ n cs us->IB i k es cs=cs|[],_,_=>rfl|c::cs,_,e=>by simp only[cC]at e;obtain⟨u,d,_,b,c⟩:=e;simp only[IB];rw[aHa a b,Fo a c]
end
def RI:∀{a b:O_}{us:C_},cC h φ n (a++b) us->(∃d,cC h φ n a d)/\∃f,cC h φ n b f|[],_,us,e=>⟨⟨[],by simp[cC]⟩,us,e⟩|c::a,b,us,e=>by simp only[jC,cC]at e;obtain⟨u,g,_,l,k⟩:=e;obtain⟨⟨d,j⟩,i⟩:=RI k;exact⟨⟨u::d,by simp only[cC];exact⟨u,d,rfl,l,j⟩⟩,i⟩
def aEl(d:n<=i):∀{c:N_}{us:C_},cC h φ n c.flatten us->Zk i k es c=c|[],_,_=>rfl|e::c,us,f=>by rw[zK]at f;obtain⟨⟨j,a⟩,g,b⟩:=RI f;simp only[Zk];rw[Fo d a,aEl d b]
def aIs{l:List (Nat×AV)}{f:Nat->Value}(c:n<=i)(a:∀p∈l,Rp h φ n p.2 (f p.1)):QR i k es l=l:=by
 induction l with
 |nil=>rfl|cons p l ih=>
  obtain⟨j,x⟩:=p;simp only[QR];rw[aHa c (a (j,x) EV),ih λp b=>a p (GU _ b)]
def aEm{w:World}{j:Nat}(a:n<=i):∀{o:AObj},uF h φ n w j o->Vq i k es o=some o
 |.box y,e=>by
  obtain⟨_,_,_,_,_,_,d⟩:=e;simp only[Vq];rw[Fo a d]
 |.arr _ _,_=>rfl|.mit _ _ _ _,_=>rfl| .arf q g,e=>by
  have v:Zk i k es g=g:=by
   rcases e.2 with⟨_,_,p⟩|⟨_,_,_,_,_,_,_,_,_,_,b⟩
   subst p;rfl;exact aEl a b
  have l:(g.all λx=>x.all gS)=true:=oD.2 λx m=>oD.2 λc t=>(e.1 x m).2 c t;grind[Vq]
 |.lp r s,e=>by
  obtain⟨_,_,_,_,_,u⟩:=e;simp only[Vq];rw[aIs (f:=λq=>r.tmps.getD q undef) a u]
 |.map _ _ _ _ _,e=>by obtain⟨_,_,_,_,_,_,_,d⟩:=e;simp only[Vq];rw[Fo a d]
end
def aA.keepLs {P:Program} {G:L_} {f:FuncId} {args:O_} {T:aK} {q:Nat->N_->Prop} (M:aA P G f args T λr d=>d.take T.length=T/\∃i k c,r=.own i/\T.length<=i/\d[i]?=some (some (.arr k c))/\q k c):
 aA P G f args T λr d=>(∃k c,q k c/\r=.ls k c)/\d=T:=by
 have A:∀{h:GH}{φ:Nat->Value}{w w':World}{v:Value},tU G h->Inv h φ w T->CS h φ T w (λr d=>d.take T.length=T/\∃i k c,r=.own i/\T.length<=i/\d[i]?=some (some (.arr k c))/\q k c) v w'->CS h φ T w (λr d=>(∃k c,q k c/\r=.ls k c)/\d=T) v w':=by
  rintro h φ w w' v u hI ⟨r,d,R,z,⟨W,i,k,c,rfl,B,I,K⟩,J,C,X⟩;have O:SInv P G 0 h φ T w ⟨T.length,[(0,.own i)],d⟩ ⟨#[v],[]⟩ w':=by refine⟨rfl,?_,⟨R,z,u.mono J.le,J,C,λi=>?_⟩,s_,by simp[Eo]⟩;intro i x y I V;simp_all;simp only[bA];split;simp_all;simp[Rp]
  have L:cR d i=some (.arr k c):=by simp[cR,I]
  have n:=O.shutI i;unfold Hud.shutI at n;simp only[L]at n;obtain⟨_,_,⟨h2,p,_,g,D,S⟩,_,_⟩:=n;have l:=S 0;have U:bA (QR i k c [(0,AV.own i)]) 0=.ls k c:=by simp[QR,bA,CB]
  rw[U]at l;replace l:Rp h2 p ((QS i k c d).set i none).length (.ls k c) v:=l;have m:∀j o,T[j]?=some (some o)->((QS i k c d).set i none)[j]?=some (some o):=λj o e=>by
   have Y:j<T.length:=(sV.1 e).1;rw[List.getElem?_set_ne o_,Ry];have t:d[j]?=some (some o):=m_;rw[t];show some (Vq i k c o)=some (some o);rw[aEm B (hI.obj j o e)]
  refine⟨.ls k c,T,h2,p,⟨⟨k,c,K,rfl⟩,rfl⟩,?_,?_,by simpa only[Rp]using l⟩;exact⟨g.os,g.tape,g.output,g.size,g.frame,g.le,g.gfr,g.phi,λi o b B N=>g.org i o b (m i o B) N,cN _,g.drawn⟩;exact⟨D.gh,λi o e=>GP (D.obj i o (m i o e)) (hI.obj i o e),λi j H F b t E=>D.dis i j H F b (m i H t) (m j F E)⟩
 intro h φ w s u hI Q;rcases M h φ w s u hI Q with⟨a,b⟩|⟨v,w',a,b⟩
 exact .inl ⟨a,b.mono λe w' ⟨v,t,E⟩=>⟨v,t,A u hI E⟩⟩;grind
def O6{J a:St->Prop}{Q:Ex->St->Prop}(h:∀s,J s->a s):∀e s,@Kv ⟨J⟩ ⟨Q⟩ e s->@Kv ⟨a⟩ ⟨Q⟩ e s:=by
 intro e s
 cases e with
 |normal=>exact h _|exit i=>exact id|ret=>exact id
def O7{P:Program}{G:L_}{st:St}{d:V_}{a:HC}{Q:Ex->St->Prop}(N:Nat)(S:Nat->St)(J:Nat->Prop)(h0:st=S 0)(e:J 0)(f:∀i,i<N->J i->@cW P G a (S i) ⟨@Kv ⟨λc=>c=S (i+1)/\J (i+1)⟩ ⟨Q⟩⟩)
 (j:J N->@cW P G a (S N) ⟨@Kv ⟨λ_=>False⟩ ⟨Q⟩⟩):@cW P G (.loop d a) st ⟨Q⟩:=by
 apply kL (λn s=>∃i,i<=N/\n=N-i/\s=S i/\J i) N ⟨0,pR _,s_,h0,e⟩;rintro n s ⟨i,k,rfl,rfl,g⟩;rcases eD i N with b|h;exact oN (O6 λs ⟨h1,h2⟩=>⟨N-(i+1),o_,i+1,o_,rfl,h1,h2⟩) (f i b g);grind
end Hud
namespace Hud
set_option maxRecDepth 99999
open Go
open W
def aJ7:cF aGT []=some ⟨158,[(8,none)],S [R0 8 1 [M F],R0 18 1 [c0 aHf,J 9 (s 5 (al zS5) (t 18))],D 19 5 [] [L 5 t9,J 21 (l (f 2 t9)),J 20 (K [zl 22 21,zf 21 9 2,zv 19 5 9] (c1 aF0 w3)),J 23 (s 5 t9 (c3 aBF (t 19) (t 20) (t 22)))],R0 24 8 [L 3 (i 3 (l (f 2 t9)) (sb (n (l (f 2 t9))) w1)),J 10 (s 3 (al zI) (t 31))],R 32 3 [0] [A 11 (ad w1 (c2 uV v0 (w 4)))],R 35 3 [1] [A 12 (ad w1 (c2 uV v1 (w 4)))],R 38 5 [2] [A 13 (l (i 1 (j3 [.string (Hud.bs []),.string (Hud.bs []),.string (Hud.bs [])] (kc (.const (.string (Hud.bs [97])))) (kc (.const (.string (Hud.bs [98])))) (kc (.const (.string (Hud.bs [97,98]))))) (c2 uV v2 w3)))],R 43 5 [3] [A 14 (l (i 1 (j3 [.string (Hud.bs []),.string (Hud.bs []),.string (Hud.bs [])] (kc (.const (.string (Hud.bs [97])))) (kc (.const (.string (Hud.bs [98])))) (kc (.const (.string (Hud.bs [97,98]))))) (c2 uV v3 w3)))],R0 48 9 [L 5 t9,v11,L 3 (t 10),v13,x (.s2b (zt 51)),s 5 t9 (c3 aBF (t 48) (x (.bld zO [(0,(1,zt 49)),(2,(1,zw 7)),(16,(3,zt 50)),(14,(1,zt 52))])) (l (f 2 t9)))],R 57 9 [10] [L 5 t9,v12,L 3 (t 10),v14,x (.s2b (zt 60)),s 5 t9 (c3 aBF (t 57) (x (.bld zO [(0,(1,zt 58)),(2,(1,zw 7)),(16,(3,zt 59)),(14,(1,zt 61))])) (l (f 2 t9)))],R0 66 2 [A 15 (c1 aE4 (L 5 t9))],S [R0 68 7 [v15,O (x (.nilS false 0 (zt 68))) (ne (n (l (f 2 t9))) (w 7))],If 75 [15,9,13,14,12,11] (S [E0 [A 8 F],.ret])],R 76 4 [15,9] [A 16 (c2 aBC v15 (l (f 2 t9)))],S [R0 80 2 [ne (n v16) w1],If 82 [11,12,16,14,13] (S [E0 [A 8 F],.ret])],R 83 19 [11,12] [A 17 (O (O (eq v11 v12) (N (eq v11 w1) (eq v12 (w 4)))) (N (eq v11 (w 4)) (eq v12 w1)))],S [R 102 5 [17] [N v17 (eq v13 v14)],If 107 [14] (S [R 108 19 [16,13] [A 8 (N (N (eq (n (l (f 4 (i 5 v16 w0)))) w1) (eq (l (i 1 (l (f 4 (i 5 v16 w0))) w0)) v13)) (c0 aE5))],.ret])],S [R0 127 5 [ne (n (l (f 4 (i 5 v16 w0)))) w2],If 132 [16,13,14] (S [E0 [A 8 F],.ret])],R 133 25 [16,13,14] [A 8 (N (N (eq (l (i 1 (l (f 4 (i 5 v16 w0))) w0)) (mm false v13 v14)) (eq (l (i 1 (l (f 4 (i 5 v16 w0))) w1)) (mm true v13 v14))) (c0 aE5))],.ret]⟩:=k_
def aJJ:=eVf (cF aIX [])
def aLL:=eVf (cF aE4 [(3,some 2,35)])
def aLM:=eVf (cF aE5 [])
def aM2:=eVf (cF aHf [(26,none,1000)])
def aM3:=eVf (cF aBF [])
def aK7:=eVf (cF aF0 [])
def aM4:=eVf (cF aHG [])
def aLN:=eVf (cF aJ5 [])
end Hud
