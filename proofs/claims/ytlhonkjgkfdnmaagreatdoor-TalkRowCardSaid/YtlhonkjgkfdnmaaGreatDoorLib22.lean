import Derived.Test.YtlhonkjgkfdnmaaGreatDoorLib12
import Derived.ProofKit
import Derived.Deep.Slices
set_option linter.all false
namespace Hud
set_option maxRecDepth 99999
open Go
def Aw:=eVf (cF kH [])
def pJ:=eVf (cF bK [])
def sP:=eVf (cF bO [])
def oU:=eVf (cF eK [])
def rS:=eVf (cF gO [])
def oV:=eVf (cF eM [])
def pW:=eVf (cF fK [])
def pK:=eVf (cF fB [])
def lS:=eVf (cF dA [])
def oF:=eVf (cF cQ [])
def rC:=eVf (cF dL [])
def rT:=eVf (cF dR [])
def oG:=eVf (cF bW [])
def tH:=eVf (cF eF [])
def tI:=eVf (cF cY [])
end Hud
namespace Hud
open Go Go.RowKit Go.WideShapes Go.ChangeShapes Go.Deep
def Hb:LK->Value->Prop|.int k,v=>∃n,v=.int k n/\(Lit.int k n).wf=true|.bool,v=>∃b,v=.bool b|.str,v=>∃s,v=.string s/\s.size<=maxLen
def kC:List LK->C_->Prop|[],a=>a=[]|k::b,a=>∃v r,a=v::r/\Hb k v/\kC b r
def UY{a b:List LK}{u v:C_}(h:kC a u)(k:kC b v):kC (a++b) (u++v):=by
 induction a generalizing u with
 |nil=>simp only[kC]at h;subst h;simpa using k|cons x a ih=>
  simp only[kC]at h;obtain⟨w,r,rfl,h1,h2⟩:=h;simp only[jC,kC];exact⟨w,r++v,rfl,h1,ih h2⟩
mutual
def OE(P:Program):Nat->TypeId->Option (List LK)|0,_=>none|n+1,t=>match P.underlying t with|some .bool=>some [.bool]|some (.int k)=>some [.int k]|some .string=>some [.str]|some (.struct a)=>Jz P n a.toList 0|_=>none
def Jz(P:Program):Nat->List Field->Nat->Option (List LK)|0,_,_=>none|_+1,[],_=>some []|n+1,f::d,c=>match OE P n f.type,Jz P n d (c+P.cellsOf f.type) with|some a,some b=>if f.offset=c/\a.length=P.cellsOf f.type then some (a++b) else none|_,_=>none
end
section
variable{H:Type}{enc:TypeId×Value->H}{P:Program}{w:World}{base:Nat}{spare:Nat->Bool}{held:Bool}
mutual
def Qr:∀{n:Nat}{t:TypeId}{ks:List LK},OE P n t=some ks->ks.length=P.cellsOf t->∀{fuel:Nat}{cs:C_}{x:DataW H×List MemPlace},DataW.trod enc P w base spare held fuel t cs=some x->kC ks cs
 |0,_,_,h,_,_,_,_,_=>by simp[OE]at h
 | n+1,t,ks,h,q,fuel,cs,x,e=>by
  simp only[OE]at h;split at h;rename_i a;cases h;obtain⟨b,d,_⟩:=DataW.trod_bool a e;subst d;simp[kC,Hb];rename_i k a;cases h;obtain⟨m,d,_,g⟩:=DataW.trod_int a e;subst d;simp[kC,Hb,g];rename_i a;cases h;obtain⟨s,d,_,g⟩:=DataW.trod_string a e;subst d;simp[kC,Hb,g];rename_i u a;obtain⟨p,m,_,_,o,c,r⟩:=DataW.trod_struct a e
  have:=Qs h (cs:=cs) (λi f j=>by
   have h1:=r i f sa;have h2:i<p.length:=by rw[c];rcases eD i u.size with l|l;exact l;rw[sX oo]at j;simp at j
   exact⟨m,_,h1.trans (jN h2)⟩) (by rw[o,<-q,pQ])
  simpa using this;simp at h
def Qs:∀{n:Nat}{p:List Field}{off:Nat}{ks:List LK},Jz P n p off=some ks->∀{cs:C_},(∀(i:Nat)(f:Field),p[i]?=some f->∃c x,DataW.trod enc P w base spare held c f.type ((cs.drop f.offset).take (P.cellsOf f.type))=some x) ->
 cs.length=off+ks.length->kC ks (cs.drop off)
 |0,_,_,_,h,_,_,_=>by simp[Jz]at h|n+1,[],off,ks,h,cs,m,l=>by
  simp only[Jz,E_]at h;subst h;simp only[kC];exact LB (by simp at l;omega)
 | n+1,f::p,off,ks,h,cs,m,l=>by
  simp only[Jz]at h;split at h;rename_i a b h1 h2;split at h;rename_i r;cases h;obtain⟨o,j⟩:=r;obtain⟨c,x,e⟩:=m 0 f rfl;have d:=Qr h1 j e;rw[dZ]at l;have k:=Qs h2 (cs:=cs) (λi g q=>m (i+1) g (by simpa using q)) (by rw[<-j];omega);rw[o]at d;have:cs.drop off=(cs.drop off).take (P.cellsOf f.type)++cs.drop (off+P.cellsOf f.type):=by rw[<-Kg,LC]
  rw[this];exact UY d k;simp at h;simp at h
end
end
def Iy(w:World):GH:=λb=>match w.heap[b]? with|some (.cells a _ _)=>some a|_=>none
def aD4(w:World)(φ:Nat->Value):Inv (Iy w) φ w [] where
 gh:=λb g e=>by unfold Iy at e;split at e;rename_i c E a h;cases e;exact⟨E,a,h⟩;simp at e
 obj:=λi o e=>kf
 dis:=λi j f d b e=>kf
def aAz{w:World}{b o:Nat}{v:Value}(h:w.cell? ⟨b,o,none⟩=some v):oY (Iy w) b o=some v:=by unfold World.cell? at h;unfold oY Iy;split at h;rename_i c E a h1;simp only at h1;rw[h1];simpa using h;simp at h
def UZ{k:LK}{v:Value}(h:Hb k v):aX (.v v)=true:=by
 cases k with
 |int k=>obtain⟨n,rfl,_⟩:=h;rfl
 |bool=>obtain⟨b,rfl⟩:=h;rfl
 |str=>obtain⟨s,rfl,_⟩:=h;rfl
def Ua{ks:List LK}{vs:C_}(h:kC ks vs):∀{i:Nat}{v:Value},vs[i]?=some v->∃k,Hb k v:=by
 induction ks generalizing vs with
 |nil=>simp only[kC]at h;subst h;simp|cons k ks ih=>
  simp only[kC]at h;obtain⟨u,r,rfl,h1,h2⟩:=h;intro i v a
  cases i with
  |zero=>simp only[sW,E_]at a;subst a;exact⟨k,h1⟩|succ i=>exact ih h2 dn
section
variable{H:Type}{enc:TypeId×Value->H}{P:Program}{W:World}{base:Nat}{spare:Nat->Bool}{held:Bool}{h:GH}{φ:Nat->Value}
def aD5 {t e:TypeId} {ks:List LK} {n:Nat} (T:P.underlying t=some (.slice e)) (F:OE P n e=some ks) (I:ks.length=P.cellsOf e) (X:0<ks.length) {A:Option Addr} {h c0:Nat} {d:DataW H} {ps:List MemPlace}
 (J:DataW.Trod enc P W base spare held t (.slice A h c0) d ps):
 ∃M:List C_,(∀x∈M,kC ks x)/\M.length<=maxLen/\Rp (Iy W) φ 0 (.ls ks.length (M.map λx=>x.map .v)) (.slice A h c0):=by
 obtain⟨R,J⟩:=J;rcases open_slice T J with⟨h1,_⟩|⟨a,E,O,m,Z,D,Pl,h1,_,h3,Q,U,_,z⟩
 obtain⟨rfl,rfl,rfl⟩:A=none/\h=0/\c0=0:=by simpa[Value.cells]using h1
 refine⟨[],s_,s_,?_⟩;simp only[Rp,oB,uP,gQ];exact⟨none,0,rfl,cN _,pR _,s_⟩;obtain⟨rfl,rfl,rfl⟩:A=some a/\h=E/\c0=O:=by simpa[Value.cells]using h1
 have V:h<=m:=by rw[U];split<;>omega
 have f:∀i,∃B:C_,i<h->(W.cells? base (a.add (i*P.cellsOf e)) (P.cellsOf e)=some B/\kC ks B):=by intro i;by_cases w:i<h;obtain⟨B,L,K⟩:=z i o_;exact⟨B,λ_=>⟨L,Qr F I K⟩⟩;exact⟨[],λy=>absurd y w⟩
 refine⟨(List.range h).map λi=>(f i).choose,?_,by simpa using uR h3 Q,?_⟩;intro x S;obtain⟨i,w,rfl⟩:=dF.1 S;exact((f i).choose_spec (uM.1 w)).2;simp only[Rp,oB,aP,QK];refine⟨some a,c0,rfl,h3,Q,?_⟩;rcases JX h with h0|h0;exact .inl (by subst h0;rfl);refine .inr ?_;have s:a.spot=none:=by
  obtain⟨B,c1,_⟩:=z 0 o_;obtain⟨_,C,N⟩:=World.cells?_some c1;have g:=N 0 o_;rw[jN (by rw[C];omega),Nat.zero_mul]at g;have:(a.add 0).add 0=a:=by simp[Addr.add]
  rw[this]at g;unfold World.cell? at g;split at g;split at g;simp at g;rename_i F;simpa using F;simp at g
 obtain⟨b,o,Y⟩:=a;simp only at s;subst s;refine⟨b,o,rfl,kF.mk λj e' q=>?_⟩;rw[gE,gE]at q;rcases eD j h with l|l;rw[aBQ l]at q;simp only[iX,E_]at q;subst q;obtain⟨c1,c2⟩:=(f j).choose_spec l;obtain⟨_,C,N⟩:=World.cells?_some c1;refine⟨by rw[aP,C,I],mR.mk λi c r=>?_⟩;rw[gE]at r
 cases p:(f j).choose[i]? with
 |none=>rw[p]at r;simp at r| some u=>
  rw[p]at r;simp only[iX,E_]at r;subst r;obtain⟨k,G⟩:=Ua c2 p;have w:i<P.cellsOf e:=by rw[<-C];rcases eD i (f j).choose.length with y|y;exact y;rw[sX y]at p;simp at p
  have g:=N i w;rw[p]at g;refine⟨u,UZ G,?_,by simp[oB]⟩;have:((Addr.mk b o none).add (j*P.cellsOf e)).add i=⟨b,o+j*ks.length+i,none⟩:=by rw[I];by_cases h1:j*P.cellsOf e=0<;>by_cases h2:i=0<;>simp[Addr.add,h1,h2,sY]
  rw[this]at g;exact aAz g
 rw[sX oo]at q;simp at q
def aHX{n:Int}(a:(Lit.int .i64 n).wf=true):-9223372036854775808<=n/\n<=(2^63-1):=by simp only[Lit.wf,zJ,decide_eq_true_eq]at a;exact a
def Y2:∀{es:List C_},(∀x∈es,kC [.int .i64] x)->∃l:B_,es.map (λx=>x.map AV.v)=l.map (λn=>[AV.v (.int .i64 n)])/\∀n∈l,-9223372036854775808<=n/\n<=2^63-1
 |[],_=>⟨[],rfl,s_⟩
 |e::es,b=>by obtain⟨l,h1,h2⟩:=Y2 (es:=es) λx c=>b x (by simp[c]);have:=b e s_;simp only[kC,Hb]at this;obtain⟨v,r,rfl,⟨n,rfl,d⟩,rfl⟩:=this;refine⟨n::l,si,?_⟩;intro m a;rcases cS.1 a with rfl|a;exact aHX d;exact h2 m a
def Qt{k:World}(i:laidOutB P=true)(j:Below W.heap.size W k){e:Nat->Bool}:∀{ts:List TypeId}{vs:C_}{ds:List (DataW H)}{ps:List MemPlace},(∀t∈ts,P.readableRec t=true/\t<P.types.size) ->
 DataW.TrodAll enc P W 0 (λ_=>true) true ts vs ds ps->(∀x∈ps,x.block<W.heap.size)->(∀x∈ps,e x.block=true)->DataW.TrodAll enc P k 0 e true ts vs ds ps
 |[],[],[],ps,_,h,_,_=>by simpa[DataW.TrodAll]using h| t::ts,v::vs,d::ds,ps,f,h,b,g=>by
  simp only[DataW.TrodAll]at h⊢;obtain⟨p,q,h1,h2,rfl⟩:=h;obtain⟨m,l⟩:=f t s_
  exact⟨p,q,WideElems.Trod_stays i m l h1 (λx a=>j.same (b x (by simp[a]))) (λx a=>g x (by simp[a])),
   Qt i j (λt c=>f t (by simp[c])) h2 (λx a=>b x (by simp[a])) (λx a=>g x (by simp[a])),rfl⟩
 |[],_::_,_,_,_,h,_,_=>by simp[DataW.TrodAll]at h|[],[],_::_,_,_,h,_,_=>by simp[DataW.TrodAll]at h|_::_,[],_,_,_,h,_,_=>by simp[DataW.TrodAll]at h|_::_,_::_,[],_,_,h,_,_=>by simp[DataW.TrodAll]at h
def aAA{h':GH}{b:Nat->Value}{T':aK}{c:World}(a:Evo h φ [] W h' b T' c):Go.RowKit.Below W.heap.size W c :=
 ⟨a.os,a.tape,a.output,a.size,λk d=>a.frame k d λi o e=>kf⟩
end
end Hud
namespace Hud
set_option maxRecDepth 99999
open Go
def aJG:=eVf (cF aIE [])
def aGf:=eVf (cF aBE [])
def aLs:=eVf (cF aBC [])
def aLP:=eVf (cF aJ3 [(4,none,3),(5,none,3)])
def aLQ:=eVf (cF aH3 [(6,none,3)])
end Hud
