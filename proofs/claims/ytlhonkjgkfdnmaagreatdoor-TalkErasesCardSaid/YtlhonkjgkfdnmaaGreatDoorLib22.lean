import Derived.Test.YtlhonkjgkfdnmaaGreatDoorLib12
import Derived.ProofKit
import Derived.Deep.Slices
set_option linter.all false
namespace Hud
set_option maxRecDepth 99999
open Go
def Aw:=eVf (cF kH [])
def pJ:=eVf (cF bK [])
def sP:=eVf (cF bO [])
def oU:=eVf (cF eK [])
def rS:=eVf (cF gO [])
def oV:=eVf (cF eM [])
def pW:=eVf (cF fK [])
def pK:=eVf (cF fB [])
def lS:=eVf (cF dA [])
def oF:=eVf (cF cQ [])
def rC:=eVf (cF dL [])
def rT:=eVf (cF dR [])
def oG:=eVf (cF bW [])
def tH:=eVf (cF eF [])
def tI:=eVf (cF cY [])
end Hud
namespace Hud
open Go Go.RowKit Go.WideShapes Go.ChangeShapes Go.Deep
def Hb:LK->Value->Prop|.int k,v=>∃n,v=.int k n/\(Lit.int k n).wf=true|.bool,v=>∃b,v=.bool b|.str,v=>∃s,v=.string s/\s.size<=maxLen
def kC:List LK->C_->Prop|[],a=>a=[]|k::b,a=>∃v r,a=v::r/\Hb k v/\kC b r
def UY{a b:List LK}{u v:C_}(h:kC a u)(k:kC b v):kC (a++b) (u++v):=by
 induction a generalizing u with
 |nil=>simp only[kC]at h;subst h;simpa using k|cons x a ih=>
  simp only[kC]at h;obtain⟨w,r,rfl,h1,h2⟩:=h;simp only[jC,kC];exact⟨w,r++v,rfl,h1,ih h2⟩
mutual
def OE(P:Program):Nat->TypeId->Option (List LK)|0,_=>none|n+1,t=>match P.underlying t with|some .bool=>some [.bool]|some (.int k)=>some [.int k]|some .string=>some [.str]|some (.struct a)=>Jz P n a.toList 0|_=>none
def Jz(P:Program):Nat->List Field->Nat->Option (List LK)|0,_,_=>none|_+1,[],_=>some []|n+1,f::d,c=>match OE P n f.type,Jz P n d (c+P.cellsOf f.type) with|some a,some b=>if f.offset=c/\a.length=P.cellsOf f.type then some (a++b) else none|_,_=>none
end
section
variable{H:Type}{enc:TypeId×Value->H}{P:Program}{w:World}{base:Nat}{spare:Nat->Bool}{held:Bool}
mutual
def Qr:∀{n:Nat}{t:TypeId}{ks:List LK},OE P n t=some ks->ks.length=P.cellsOf t->∀{fuel:Nat}{cs:C_}{x:DataW H×List MemPlace},DataW.trod enc P w base spare held fuel t cs=some x->kC ks cs
 |0,_,_,h,_,_,_,_,_=>by simp[OE]at h
 | n+1,t,ks,h,q,fuel,cs,x,e=>by
  simp only[OE]at h;split at h;rename_i a;cases h;obtain⟨b,d,_⟩:=DataW.trod_bool a e;subst d;simp[kC,Hb];rename_i k a;cases h;obtain⟨m,d,_,g⟩:=DataW.trod_int a e;subst d;simp[kC,Hb,g];rename_i a;cases h;obtain⟨s,d,_,g⟩:=DataW.trod_string a e;subst d;simp[kC,Hb,g];rename_i u a;obtain⟨p,m,_,_,o,c,r⟩:=DataW.trod_struct a e
  have:=Qs h (cs:=cs) (λi f j=>by
   have h1:=r i f sf;have h2:i<p.length:=by rw[c];rcases eD i u.size with l|l;exact l;rw[sX Z_]at j;simp at j
   exact⟨m,_,h1.trans (jN h2)⟩) (by rw[o,<-q,pQ])
  simpa using this;simp at h
def Qs:∀{n:Nat}{p:List Field}{off:Nat}{ks:List LK},Jz P n p off=some ks->∀{cs:C_},(∀(i:Nat)(f:Field),p[i]?=some f->∃c x,DataW.trod enc P w base spare held c f.type ((cs.drop f.offset).take (P.cellsOf f.type))=some x) ->
 cs.length=off+ks.length->kC ks (cs.drop off)
 |0,_,_,_,h,_,_,_=>by simp[Jz]at h|n+1,[],off,ks,h,cs,m,l=>by
  simp only[Jz,E_]at h;subst h;simp only[kC];exact LB (by simp at l;omega)
 | n+1,f::p,off,ks,h,cs,m,l=>by
  simp only[Jz]at h;split at h;rename_i a b h1 h2;split at h;rename_i r;cases h;obtain⟨o,j⟩:=r;obtain⟨c,x,e⟩:=m 0 f rfl;have d:=Qr h1 j e;rw[dZ]at l;have k:=Qs h2 (cs:=cs) (λi g q=>m (i+1) g (by simpa using q)) (by rw[<-j];omega);rw[o]at d;have:cs.drop off=(cs.drop off).take (P.cellsOf f.type)++cs.drop (off+P.cellsOf f.type):=by rw[<-Kg,LC]
  rw[this];exact UY d k;simp at h;simp at h
end
end
def Iy(w:World):GH:=λb=>match w.heap[b]? with|some (.cells a _ _)=>some a|_=>none
def aD4(w:World)(φ:Nat->Value):Inv (Iy w) φ w [] where
 gh:=λb g e=>by unfold Iy at e;split at e;rename_i c E a h;cases e;exact⟨E,a,h⟩;simp at e
 obj:=λi o e=>so
 dis:=λi j f d b e=>so
def aAz{w:World}{b o:Nat}{v:Value}(h:w.cell? ⟨b,o,none⟩=some v):oY (Iy w) b o=some v:=by unfold World.cell? at h;unfold oY Iy;split at h;rename_i c E a h1;simp only at h1;rw[h1];simpa using h;simp at h
def UZ{k:LK}{v:Value}(h:Hb k v):aX (.v v)=true:=by
 cases k with
 |int k=>obtain⟨n,rfl,_⟩:=h;rfl
 |bool=>obtain⟨b,rfl⟩:=h;rfl
 |str=>obtain⟨s,rfl,_⟩:=h;rfl
def Ua{ks:List LK}{vs:C_}(h:kC ks vs):∀{i:Nat}{v:Value},vs[i]?=some v->∃k,Hb k v:=by
 induction ks generalizing vs with
 |nil=>simp only[kC]at h;subst h;simp|cons k ks ih=>
  simp only[kC]at h;obtain⟨u,r,rfl,h1,h2⟩:=h;intro i v a
  cases i with
  |zero=>simp only[sW,E_]at a;subst a;exact⟨k,h1⟩|succ i=>exact ih h2 ov
section
variable{H:Type}{enc:TypeId×Value->H}{P:Program}{W:World}{base:Nat}{spare:Nat->Bool}{held:Bool}{h:GH}{φ:Nat->Value}
def aD5 {t e:TypeId} {ks:List LK} {n:Nat} (U:P.underlying t=some (.slice e)) (G:OE P n e=some ks) (J:ks.length=P.cellsOf e) (Y:0<ks.length) {A:Option Addr} {h B:Nat} {d:DataW H} {ps:List MemPlace}
 (K:DataW.Trod enc P W base spare held t (.slice A h B) d ps):
 ∃N:List C_,(∀x∈N,kC ks x)/\N.length<=maxLen/\Rp (Iy W) φ 0 (.ls ks.length (N.map λx=>x.map .v)) (.slice A h B):=by
 obtain⟨S,K⟩:=K;rcases open_slice U K with⟨h1,_⟩|⟨a,F,Q,m,n',D,Pl,h1,_,h3,R,V,_,z⟩
 obtain⟨rfl,rfl,rfl⟩:A=none/\h=0/\B=0:=by simpa[Value.cells]using h1
 refine⟨[],s_,s_,?_⟩;simp only[Rp,oB,uP,gQ];exact⟨none,0,rfl,cN _,pR _,s_⟩;obtain⟨rfl,rfl,rfl⟩:A=some a/\h=F/\B=Q:=by simpa[Value.cells]using h1
 have X:h<=m:=by rw[V];split<;>omega
 have f:∀i,∃C:C_,i<h->(W.cells? base (a.add (i*P.cellsOf e)) (P.cellsOf e)=some C/\kC ks C):=by intro i;by_cases w:i<h;obtain⟨C,M,L⟩:=z i o_;exact⟨C,λ_=>⟨M,Qr G J L⟩⟩;exact⟨[],λy=>absurd y w⟩
 refine⟨(List.range h).map λi=>(f i).choose,?_,by simpa using uR h3 R,?_⟩;intro x T;obtain⟨i,w,rfl⟩:=dF.1 T;exact((f i).choose_spec (uM.1 w)).2;simp only[Rp,oB,aP,QK];refine⟨some a,B,rfl,h3,R,?_⟩;rcases JX h with h0|h0;exact .inl (by subst h0;rfl);refine .inr ?_;have s:a.spot=none:=by
  obtain⟨C,c1,_⟩:=z 0 o_;obtain⟨_,E,O⟩:=World.cells?_some c1;have g:=O 0 o_;rw[jN (by rw[E];omega),Nat.zero_mul]at g;have:(a.add 0).add 0=a:=by simp[Addr.add]
  rw[this]at g;unfold World.cell? at g;split at g;split at g;simp at g;rename_i G;simpa using G;simp at g
 obtain⟨b,o,Z⟩:=a;simp only at s;subst s;refine⟨b,o,rfl,kF.mk λj e' q=>?_⟩;rw[gE,gE]at q;rcases eD j h with l|l;rw[aBQ l]at q;simp only[iX,E_]at q;subst q;obtain⟨c1,c2⟩:=(f j).choose_spec l;obtain⟨_,E,O⟩:=World.cells?_some c1;refine⟨by rw[aP,E,J],mR.mk λi c r=>?_⟩;rw[gE]at r
 cases p:(f j).choose[i]? with
 |none=>rw[p]at r;simp at r| some u=>
  rw[p]at r;simp only[iX,E_]at r;subst r;obtain⟨k,I⟩:=Ua c2 p;have w:i<P.cellsOf e:=by rw[<-E];rcases eD i (f j).choose.length with y|y;exact y;rw[sX y]at p;simp at p
  have g:=O i w;rw[p]at g;refine⟨u,UZ I,?_,by simp[oB]⟩;have:((Addr.mk b o none).add (j*P.cellsOf e)).add i=⟨b,o+j*ks.length+i,none⟩:=by rw[J];by_cases h1:j*P.cellsOf e=0<;>by_cases h2:i=0<;>simp[Addr.add,h1,h2,sY]
  rw[this]at g;exact aAz g
 rw[sX Z_]at q;simp at q
def aHX{n:Int}(a:(Lit.int .i64 n).wf=true):-9223372036854775808<=n/\n<=(2^63-1):=by simp only[Lit.wf,zJ,decide_eq_true_eq]at a;exact a
def Y2:∀{es:List C_},(∀x∈es,kC [.int .i64] x)->∃l:B_,es.map (λx=>x.map AV.v)=l.map (λn=>[AV.v (.int .i64 n)])/\∀n∈l,-9223372036854775808<=n/\n<=2^63-1
 |[],_=>⟨[],rfl,s_⟩
 |e::es,b=>by obtain⟨l,h1,h2⟩:=Y2 (es:=es) λx c=>b x (by simp[c]);have:=b e s_;simp only[kC,Hb]at this;obtain⟨v,r,rfl,⟨n,rfl,d⟩,rfl⟩:=this;refine⟨n::l,s7,?_⟩;intro m a;rcases cS.1 a with rfl|a;exact aHX d;exact h2 m a
def Qt{k:World}(i:laidOutB P=true)(j:Below W.heap.size W k){e:Nat->Bool}:∀{ts:List TypeId}{vs:C_}{ds:List (DataW H)}{ps:List MemPlace},(∀t∈ts,P.readableRec t=true/\t<P.types.size) ->
 DataW.TrodAll enc P W 0 (λ_=>true) true ts vs ds ps->(∀x∈ps,x.block<W.heap.size)->(∀x∈ps,e x.block=true)->DataW.TrodAll enc P k 0 e true ts vs ds ps
 |[],[],[],ps,_,h,_,_=>by simpa[DataW.TrodAll]using h| t::ts,v::vs,d::ds,ps,f,h,b,g=>by
  simp only[DataW.TrodAll]at h⊢;obtain⟨p,q,h1,h2,rfl⟩:=h;obtain⟨m,l⟩:=f t s_
  exact⟨p,q,WideElems.Trod_stays i m l h1 (λx a=>j.same (b x (by simp[a]))) (λx a=>g x (by simp[a])),
   Qt i j (λt c=>f t (by simp[c])) h2 (λx a=>b x (by simp[a])) (λx a=>g x (by simp[a])),rfl⟩
 |[],_::_,_,_,_,h,_,_=>by simp[DataW.TrodAll]at h|[],[],_::_,_,_,h,_,_=>by simp[DataW.TrodAll]at h|_::_,[],_,_,_,h,_,_=>by simp[DataW.TrodAll]at h|_::_,_::_,[],_,_,h,_,_=>by simp[DataW.TrodAll]at h
def aAA{h':GH}{b:Nat->Value}{T':aK}{c:World}(a:Evo h φ [] W h' b T' c):Go.RowKit.Below W.heap.size W c :=
 ⟨a.os,a.tape,a.output,a.size,λk d=>a.frame k d λi o e=>so⟩
end
end Hud
namespace Hud
open Go
section
variable{h h1:GH}{φ φ1:Nat->Value}{m n:Nat}
mutual
def aEf:∀{x:AV}{u u1:Value},Rp h φ m x u->Rp h1 φ1 n x u1->Rp h φ n x u
 |.v _,_,_,e,_=>by simpa[Rp]using e|.ls _ _,_,_,e,_=>by simp only[Rp]at *;exact e|.ag g,_,_,e,f=>by simp only[Rp]at *;obtain⟨d,a,b⟩:=e;obtain⟨_,_,c⟩:=f;exact⟨d,a,B4 b c⟩
 |.own _,_,_,e,f=>by simp only[Rp]at *;exact⟨f.1,e.2⟩|.ptr _ _,_,_,e,f=>by simp only[Rp]at *;exact⟨f.1,e.2⟩|.elt _ _ _ _,_,_,e,f=>by simp only[Rp]at *;exact⟨f.1,e.2⟩|.vw _ _ _ _,_,_,e,f=>by simp only[Rp]at *;exact⟨f.1,e.2⟩|.mp _,_,_,e,f=>by simp only[Rp]at *;exact⟨f.1,e.2⟩|.yl _,_,_,e,f=>by simp only[Rp]at *;exact⟨f.1,e.2⟩|.rp _,_,_,e,_=>by simp only[Rp]at *;exact e|.cl _ g,_,_,e,f=>by simp only[Rp]at *;obtain⟨d,a,b⟩:=e;obtain⟨_,_,c⟩:=f;exact⟨d,a,B4 b c⟩
 |.bm _ _ g,_,_,e,f=>by simp only[Rp]at *;obtain⟨d,a,b⟩:=e;obtain⟨_,_,c⟩:=f;exact⟨d,a,B4 b c⟩
 |.tup g,_,_,e,f=>by simp only[Rp]at *;obtain⟨d,a,b⟩:=e;obtain⟨_,_,c⟩:=f;exact⟨d,a,B4 b c⟩
 |.any,_,_,_,_=>z_
def B4:∀{cs:O_}{us vs:C_},cC h φ m cs us->cC h1 φ1 n cs vs->cC h φ n cs us
 |[],us,vs,e,_=>by simpa[cC]using e
 |c::cs,us,vs,e,f=>by
  simp only[cC]at *
  obtain⟨u,d,a,b,c⟩:=e;obtain⟨_,_,_,i,g⟩:=f;exact⟨u,d,a,aEf b i,B4 c g⟩
end
def GP{w w1:World}{i D:Nat}:∀{o:AObj},uF h φ m w i o->uF h1 φ1 n w1 D o->uF h φ n w i o
 |.box O,e,f=>by
  obtain⟨g,B,E,a,b,c,d⟩:=e;obtain⟨_,_,_,_,_,_,F⟩:=f;exact⟨g,B,E,a,b,c,B4 d F⟩
 |.arr _ _,e,_=>e
 |.arf k N,e,f=>by
  refine⟨e.1,e.2.imp id ?_⟩;rintro⟨g,c,y,E,t,q,j,u,v,z,J⟩;refine⟨g,c,y,E,t,q,j,u,v,z,?_⟩;rcases f.2 with⟨_,_,M⟩|⟨_,_,_,_,_,_,_,_,_,_,G⟩
  grind[cC];exact B4 J G
 |.lp r s,e,f=>by
  obtain⟨l,t,q,j,u,v⟩:=e;obtain⟨_,_,_,_,_,I⟩:=f;exact⟨l,t,q,j,u,λp A=>aEf (v p A) (I p A)⟩
 |.mit k a b c,e,f=>by
  obtain⟨g,C,t,q,j,u⟩:=e;obtain⟨_,_,_,_,_,Q⟩:=f;refine⟨g,C,t,q,j,?_⟩;grind
 |.map R L K bs P,e,f=>by obtain⟨g,x,t,q,j,u,v,z⟩:=e;obtain⟨_,_,_,_,_,_,_,H⟩:=f;exact⟨g,x,t,q,j,u,v,B4 z H⟩
end
def aA.keep{P:Program}{G:L_}{f:FuncId}{args:O_}{T:aK}{q:Value->Prop}(B:aA P G f args T λr d=>(∃J,d=T++J)/\∃v,r=.v v/\q v):
 aA P G f args T λr d=>(∃v,r=.v v/\q v)/\d=T:=by
 have n:∀{h:GH}{φ:Nat->Value}{w w':World}{v:Value},Inv h φ w T->CS h φ T w (λr d=>(∃J,d=T++J)/\∃v,r=.v v/\q v) v w'->CS h φ T w (λr d=>(∃v,r=.v v/\q v)/\d=T) v w':=by
  rintro h φ w w' v hI ⟨r,d,F,m,⟨⟨J,rfl⟩,x,rfl,z⟩,c,g,y⟩;have l:∀i o,T[i]?=some (some o)->(T++J)[i]?=some (some o):=λi o e=>by rw[mY];exact e;grind
  refine⟨.v x,T,F,m,⟨⟨x,rfl,z⟩,rfl⟩,?_,?_,by simpa[Rp]using y⟩;exact⟨c.os,c.tape,c.output,c.size,c.frame,c.le,c.gfr,c.phi,λi o b A C=>c.org i o b (l i o A) C,cN _,c.drawn⟩;exact⟨g.gh,λi o e=>GP (g.obj i o (l i o e)) (hI.obj i o e),λi j u t b s p=>g.dis i j u t b (l i u s) (l j t p)⟩
 intro h φ w k D hI E;rcases B h φ w k D hI E with⟨a,b⟩|⟨v,w',a,b⟩
 exact .inl ⟨a,b.mono λe w' ⟨v,s,p⟩=>⟨v,s,n hI p⟩⟩;grind
def eH{P:Program}{G:L_}{f:FuncId}{b:HFun}{H:List (Nat×Option Nat×Nat)}(e:tF P f H=some b){args:O_}{T:aK}{x:Value}
 (c:aF8 P G b args T λr a=>r=.v x/\a.take T.length=T):aA P G f args T λr a=>r=.v x/\a=T:=by
 refine(aA.keep (q:=λv=>v=x) ((fT e c).mono ?_)).mono ?_;rintro r a ⟨rfl,d⟩;exact⟨⟨a.drop T.length,by have:=(LC T.length a).symm;rwa[d]at this⟩,x,rfl,rfl⟩;simp
section
variable{h:GH}{φ:Nat->Value}{n i k:Nat}{es:N_}
mutual
def aHa(a:n<=i):∀{x:AV}{u:Value},Rp h φ n x u->CB i k es x=x
 |.v _,_,_=>rfl|.ls _ _,_,_=>rfl|.rp _,_,_=>rfl|.any,_,_=>rfl|.ptr _ _,_,_=>rfl|.mp _,_,_=>rfl|.yl _,_,_=>rfl|.own j,_,e=>by simp only[Rp]at e;simp only[CB];rw[if_neg o_]|.elt j _ _ _,_,e=>by simp only[Rp]at e;simp only[CB];rw[if_neg o_]|.vw j _ _ _,_,e=>by simp only[Rp]at e;simp only[CB];rw[if_neg o_]|.ag d,_,e=>by simp only[Rp]at e;obtain⟨c,_,b⟩:=e;simp only[CB];rw[Fo a b]
 |.cl _ d,_,e=>by simp only[Rp]at e;obtain⟨c,_,b⟩:=e;simp only[CB];rw[Fo a b]
 |.bm _ _ d,_,e=>by simp only[Rp]at e;obtain⟨c,_,b⟩:=e;simp only[CB];rw[Fo a b]
 |.tup d,_,e=>by simp only[Rp]at e;obtain⟨c,_,b⟩:=e;simp only[CB];rw[Fo a b]
def Fo(a:n<=i):∀{cs:O_}{us:C_},cC h φ n cs us->IB i k es cs=cs|[],_,_=>rfl|c::cs,_,e=>by simp only[cC]at e;obtain⟨u,d,_,b,c⟩:=e;simp only[IB];rw[aHa a b,Fo a c]
end
def RI:∀{a b:O_}{us:C_},cC h φ n (a++b) us->(∃d,cC h φ n a d)/\∃f,cC h φ n b f|[],_,us,e=>⟨⟨[],by simp[cC]⟩,us,e⟩|c::a,b,us,e=>by simp only[jC,cC]at e;obtain⟨u,g,_,l,k⟩:=e;obtain⟨⟨d,j⟩,i⟩:=RI k;exact⟨⟨u::d,by simp only[cC];exact⟨u,d,rfl,l,j⟩⟩,i⟩
def aEl(d:n<=i):∀{c:N_}{us:C_},cC h φ n c.flatten us->Zk i k es c=c|[],_,_=>rfl|e::c,us,f=>by rw[zK]at f;obtain⟨⟨j,a⟩,g,b⟩:=RI f;simp only[Zk];rw[Fo d a,aEl d b]
def aIs{l:List (Nat×AV)}{f:Nat->Value}(c:n<=i)(a:∀p∈l,Rp h φ n p.2 (f p.1)):QR i k es l=l:=by
 induction l with
 |nil=>rfl|cons p l ih=>
  obtain⟨j,x⟩:=p;simp only[QR];rw[aHa c (a (j,x) EV),ih λp b=>a p (GU _ b)]
def aEm{w:World}{j:Nat}(a:n<=i):∀{o:AObj},uF h φ n w j o->Vq i k es o=some o
 |.box y,e=>by
  obtain⟨_,_,_,_,_,_,d⟩:=e;simp only[Vq];rw[Fo a d]
 |.arr _ _,_=>rfl|.mit _ _ _ _,_=>rfl| .arf q g,e=>by
  have v:Zk i k es g=g:=by
   rcases e.2 with⟨_,_,p⟩|⟨_,_,_,_,_,_,_,_,_,_,b⟩
   subst p;rfl;exact aEl a b
  have l:(g.all λx=>x.all gS)=true:=oD.2 λx m=>oD.2 λc t=>(e.1 x m).2 c t;grind[Vq]
 |.lp r s,e=>by
  obtain⟨_,_,_,_,_,u⟩:=e;simp only[Vq];rw[aIs (f:=λq=>r.tmps.getD q undef) a u]
 |.map _ _ _ _ _,e=>by obtain⟨_,_,_,_,_,_,_,d⟩:=e;simp only[Vq];rw[Fo a d]
end
def aA.keepLs {P:Program} {G:L_} {f:FuncId} {args:O_} {T:aK} {q:Nat->N_->Prop} (M:aA P G f args T λr d=>d.take T.length=T/\∃i k c,r=.own i/\T.length<=i/\d[i]?=some (some (.arr k c))/\q k c):
 aA P G f args T λr d=>(∃k c,q k c/\r=.ls k c)/\d=T:=by
 have A:∀{h:GH}{φ:Nat->Value}{w w':World}{v:Value},tU G h->Inv h φ w T->CS h φ T w (λr d=>d.take T.length=T/\∃i k c,r=.own i/\T.length<=i/\d[i]?=some (some (.arr k c))/\q k c) v w'->CS h φ T w (λr d=>(∃k c,q k c/\r=.ls k c)/\d=T) v w':=by
  rintro h φ w w' v u hI ⟨r,d,R,z,⟨W,i,k,c,rfl,B,I,K⟩,J,C,X⟩;have O:SInv P G 0 h φ T w ⟨T.length,[(0,.own i)],d⟩ ⟨#[v],[]⟩ w':=by refine⟨rfl,?_,⟨R,z,u.mono J.le,J,C,λi=>?_⟩,s_,gu⟩;intro i x y I V;simp_all;simp only[bA];split;simp_all;simp[Rp]
  have L:cR d i=some (.arr k c):=by simp[cR,I]
  have n:=O.shutI i;unfold Hud.shutI at n;simp only[L]at n;obtain⟨_,_,⟨h2,p,_,g,D,S⟩,_,_⟩:=n;have l:=S 0;have U:bA (QR i k c [(0,AV.own i)]) 0=.ls k c:=by simp[QR,bA,CB]
  rw[U]at l;replace l:Rp h2 p ((QS i k c d).set i none).length (.ls k c) v:=l;have m:∀j o,T[j]?=some (some o)->((QS i k c d).set i none)[j]?=some (some o):=λj o e=>by
   have Y:j<T.length:=(sV.1 e).1;rw[List.getElem?_set_ne o_,Ry];have t:d[j]?=some (some o):=m_;rw[t];show some (Vq i k c o)=some (some o);rw[aEm B (hI.obj j o e)]
  refine⟨.ls k c,T,h2,p,⟨⟨k,c,K,rfl⟩,rfl⟩,?_,?_,by simpa only[Rp]using l⟩;exact⟨g.os,g.tape,g.output,g.size,g.frame,g.le,g.gfr,g.phi,λi o b B N=>g.org i o b (m i o B) N,cN _,g.drawn⟩;exact⟨D.gh,λi o e=>GP (D.obj i o (m i o e)) (hI.obj i o e),λi j H F b t E=>D.dis i j H F b (m i H t) (m j F E)⟩
 intro h φ w s u hI Q;rcases M h φ w s u hI Q with⟨a,b⟩|⟨v,w',a,b⟩
 exact .inl ⟨a,b.mono λe w' ⟨v,t,E⟩=>⟨v,t,A u hI E⟩⟩;grind
def O6{J a:St->Prop}{Q:Ex->St->Prop}(h:∀s,J s->a s):∀e s,@Kv ⟨J⟩ ⟨Q⟩ e s->@Kv ⟨a⟩ ⟨Q⟩ e s:=by
 intro e s
 cases e with
 |normal=>exact h _|exit i=>exact id|ret=>exact id
def O7{P:Program}{G:L_}{st:St}{d:V_}{a:HC}{Q:Ex->St->Prop}(N:Nat)(S:Nat->St)(J:Nat->Prop)(h0:st=S 0)(e:J 0)(f:∀i,i<N->J i->@cW P G a (S i) ⟨@Kv ⟨λc=>c=S (i+1)/\J (i+1)⟩ ⟨Q⟩⟩)
 (j:J N->@cW P G a (S N) ⟨@Kv ⟨λ_=>False⟩ ⟨Q⟩⟩):@cW P G (.loop d a) st ⟨Q⟩:=by
 apply kL (λn s=>∃i,i<=N/\n=N-i/\s=S i/\J i) N ⟨0,pR _,s_,h0,e⟩;rintro n s ⟨i,k,rfl,rfl,g⟩;rcases eD i N with b|h;exact oN (O6 λs ⟨h1,h2⟩=>⟨N-(i+1),o_,i+1,o_,rfl,h1,h2⟩) (f i b g);grind
end Hud
