import Derived.Test.YtlhonkjgkfdnmaaGreatDoorLib34
set_option linter.all false
set_option maxHeartbeats 40000000
namespace Hud
open Go
structure OpGood(o:OpM):Prop where
 at0:0<=o.At
 at1:o.At<=2147483647
 gl:o.Guards.length<=6
 need:o.Kind=9->1<=o.Need/\o.Need<=o.Guards.length
 wait:o.Kind=9->0<=o.Wait/\o.Wait<=2147483647
def aIr{o:OpM}(h:vF o=0):OpGood o:=by
 rw[Aq]at h;unfold jB at h;by_cases h0:o.Kind<1\/13<o.Kind;omega;rw[if_neg h0]at h;by_cases h1:Qk o=false;rw[if_pos h1]at h;simp at h;rw[if_neg h1]at h;by_cases h2:(fP o&&uA o)=false;rw[if_pos h2]at h;simp at h;rw[if_neg h2]at h;by_cases h3:ED o=true;rw[if_pos h3]at h;simp at h;have d:fP o=true:=by cases f:fP o;rw[f]at h2;simp at h2;rfl
 unfold fP at d;rw[zJ,zJ,zJ]at d;obtain⟨⟨⟨_,_⟩,a⟩,c⟩:=d;simp only[oI,zJ,decide_eq_true_eq]at a;have b:o.Kind=9->oI o.Need 1 o.Guards.length=true/\oI o.Wait 0 2147483647=true:=by intro e;rw[e]at c;simp only[(d_:¬(9:Int)=1),(d_:¬(9:Int)=2),(d_:¬(9:Int)=3),(d_:¬(9:Int)=5),(d_:¬(9:Int)=6),if_true,if_false,zJ]at c;exact⟨c.1.1,c.1.2⟩
 refine⟨a.1,a.2,?_,λe=>?_,λe=>?_⟩;by_cases g:o.Guards.length<=6;exact g;exfalso;apply h3;unfold ED;have:decide ((o.Guards.length:Int)>6)=true:=decide_eq_true o_;rw[this,Ed,EI];have:=(b e).1;simpa only[oI,zJ,decide_eq_true_eq]using this;have:=(b e).2;simpa only[oI,zJ,decide_eq_true_eq]using this
structure CardsG(cs:List CardM):Prop where
 len:cs.length<=12
 nd:(cs.map (·.Device)).Nodup
 mem:∀c∈cs,0<c.Member
 dev:∀c∈cs,0<=c.Device
structure RGood(D:List Id)(cs:List CardM)(r:RM):Prop where
 cards:r.Cards=cs
 inn:r.In.Nodup
 sub:∀d∈r.In,0<eI r d
 nn:r.nn
 pos:∀m∈r.L,0<m.N
 gid:∀m∈r.L,m.Is=true->m.ID∈D
 uniq:r.uniq
 mg:∀m∈r.L,m.Guards.length<=6
 need:r.need
 vnd:(r.V.map λv=>(v.Of,v.By,v.Device)).Nodup
 vat:∀v∈r.V,0<=v.At
 vof:∀v∈r.V,∃m∈r.L,m.Is=true/\m.ID=v.Of/\v.By∈m.Guards
def aG8{r:RM}{d:Int}(h:0<eI r d):d∈r.Cards.map (·.Device):=by grind[eI]
def aEk{r:RM}(a:CardsG r.Cards)(d:Int):0<=eI r d:=by unfold eI;split;rename_i c e;have:=a.mem c (Mg e);omega;omega
def Fn{r:RM}(h:r.uniq){m m':MM}(b:m∈r.L)(a:m'∈r.L)(h1:m.Is=true)(h2:m'.Is=true)(e:m.ID=m'.ID):m=m':=by obtain⟨i,d,rfl⟩:=List.mem_iff_getElem.1 b;obtain⟨j,c,rfl⟩:=List.mem_iff_getElem.1 a;have:=h i j d c h1 h2 e;subst this;rfl
section
variable{D:D_}{cs:List CardM}{r:RM}
def RGood.nodup12(h:RGood D cs r)(g:CardsG cs):r.In.length<=12/\∀d∈r.In,0<=d:=by
 have e:∀d∈r.In,d∈cs.map (·.Device):=λd a=>by have:=aG8 (h.sub d a);rwa[h.cards]at this
 have f:=List.Nodup.length_le_of_subset h.inn e;rw[aP]at f;refine⟨uR f g.len,λd a=>?_⟩;obtain⟨c,b,rfl⟩:=dF.1 (e d a);exact g.dev c b
def RGood.wf(h:RGood D cs r):r.wf:=⟨h.uniq,h.nn,λm a=>by have:=h.pos m a;omega,λm a=>by have:=h.mg m a;omega,h.need⟩
def RGood.wv(h:RGood D cs r):r.wv:=by
 refine⟨h.vnd,h.vat,λx d=>?_⟩;by_cases h0:(r.V.filter λv=>decide (v.Of=x)&&(v.Device==d))=[]
 rw[h0];simp;obtain⟨v0,j⟩:=List.exists_mem_of_ne_nil _ h0;obtain⟨i,c⟩:=gR.1 j;simp only[zJ,decide_eq_true_eq,beq_iff_eq]at c;obtain⟨m,p,hI,n,_⟩:=h.vof v0 i;have e:∀b∈(r.V.filter λv=>decide (v.Of=x)&&(v.Device==d)).map (·.By),b∈m.Guards:=by intro b s;obtain⟨v,q,rfl⟩:=dF.1 s;obtain⟨g,a⟩:=gR.1 q;simp only[zJ,decide_eq_true_eq,beq_iff_eq]at a;obtain⟨u,l,o,f,t⟩:=h.vof v g;have:=Fn h.uniq p l hI o (n.trans (c.1.trans (a.1.symm.trans f.symm)));subst this;exact t
 have k:((r.V.filter λv=>decide (v.Of=x)&&(v.Device==d)).map (·.By)).Nodup:=by have h1:((r.V.filter λv=>decide (v.Of=x)&&(v.Device==d)).map λv=>(v.Of,v.By,v.Device)).Nodup:=h.vnd.sublist (List.filter_sublist.map _);grind
 have:=List.Nodup.length_le_of_subset k e;rw[aP]at this;have:=h.mg m p;omega
def RGood.mono{D':D_}(h:RGood D cs r)(b:∀x∈D,x∈D'):RGood D' cs r:=⟨h.cards,h.inn,h.sub,h.nn,h.pos,λm a hI=>b _ (h.gid m a hI),h.uniq,h.mg,h.need,h.vnd,h.vat,h.vof⟩
def RGood.new(a:CardsG cs):RGood D cs (RM.new cs):=by
 refine⟨rfl,sy,?_,?_,?_,?_,?_,?_,?_,?_,?_,?_⟩
 all_goals simp[RM.new,RM.nn,RM.uniq,RM.need]
def RGood.sub'(h:RGood D cs r){b:RM}(t:b.Cards=r.Cards)(o:b.In.Nodup)(w:∀d∈b.In,0<eI r d)(q:b.L.Sublist r.L)(p:b.V.Sublist r.V)(y:∀v∈b.V,0<=pZ b v.Of):RGood D cs b:=by
 have c:=q.subset;refine⟨t.trans h.cards,o,λd x=>by rw[KU t];exact w d x,?_,λm a=>h.pos m (c a),λm a=>h.gid m (c a),?_,λm a=>h.mg m (c a),λm a=>h.need m (c a),h.vnd.sublist (p.map _),λv f=>h.vat v (p.subset f),λv f=>?_⟩;rw[KR];exact(KR.1 h.nn).sublist (q.map _);intro i j g s h1 h2 e;have u:=Fn h.uniq (c (eQ g)) (c (eQ s)) h1 h2 e;have l:b.nn:=by rw[KR];exact(KR.1 h.nn).sublist (q.map _)
 exact l i j g s (by rw[u]);obtain⟨m,n,h1,h2,h3⟩:=h.vof v (p.subset f);obtain⟨i,_,g,k⟩:=Hm (y v f);rw[zJ,decide_eq_true_eq]at k;have:=Fn h.uniq n (c (eQ g)) h1 k.1 (h2.trans k.2.symm);grind
def RGood.goes(h:RGood D cs r)(d:Int):RGood D cs (lN r d):=by by_cases f:d∈r.In;rw[Fm f];have b:(r.In.filter λx=>x !=d).Nodup:=h.inn.filter _;have a:∀x∈r.In.filter (λx=>x !=d),0<eI r x:=λx c=>h.sub x (gR.1 c).1;split;exact⟨h.cards,b,a,h.nn,h.pos,h.gid,h.uniq,h.mg,h.need,h.vnd,h.vat,h.vof⟩;refine h.sub' rfl b a List.filter_sublist List.filter_sublist λv e=>?_;have:=of_decide_eq_true (gR.1 e).2;exact this;grind[lN]
def RGood.foldGoes(ds:B_):∀{r:RM},RGood D cs r->RGood D cs (ds.foldl lN r):=by
 induction ds with
 |nil=>exact id|cons d ds ih=>exact λh=>ih (h.goes d)
def RGood.comes (h:RGood D cs r) (d role:Int):RGood D cs (mU r d role):=by
 cases b:lZ r d;grind[mU];obtain⟨_,_,h0⟩:=C3 b;have k:=D6 h.inn d role;have g:=KS h.nn d role;have e:mU r d role={r with In:=r.In++[d],L:=if jL r (eI r d)<0 then r.L++[⟨eI r d,role,false,⟨0,0,0⟩,[],0,0,false,0⟩] else r.L}:=by rw[mU,b];rfl
 have p:∀x∈r.In++[d],0<eI r x:=λx l=>by rcases cG.1 l with l|l;exact h.sub x l;simp_all
 rw[e]at k g⊢;by_cases f:jL r (eI r d)<0;rw[if_pos f]at k g⊢;have c:∀m∈r.L++[(⟨eI r d,role,false,⟨0,0,0⟩,[],0,0,false,0⟩:MM)],m∈r.L\/m=⟨eI r d,role,false,⟨0,0,0⟩,[],0,0,false,0⟩:=λm f=>t_;refine⟨h.cards,k,p,g,λm f=>?_,λm f hI=>?_,λi j s q h1 h2 e=>?_,λm f=>?_,λm f hI=>?_,h.vnd,h.vat,λv t=>?_⟩;rcases c m f with f|rfl;exact h.pos m f;exact h0;rcases c m f with f|rfl;exact h.gid m f hI;simp at hI;have o:=c _ (eQ s);have n:=c _ (eQ q);rcases o with o|o;rcases n with n|n;have u:=Fn h.uniq o n h1 h2 e;exact g i j s q (congrArg MM.N u);simp_all;simp_all;rcases c m f with f|rfl;exact h.mg m f;simp;rcases c m f with f|rfl;exact h.need m f hI;simp at hI;obtain⟨m,f,a⟩:=h.vof v t;grind;rw[if_neg f]at k g⊢;exact⟨h.cards,k,p,g,h.pos,h.gid,h.uniq,h.mg,h.need,h.vnd,h.vat,h.vof⟩
def RGood.setM(h:RGood D cs r){k:Nat}(q:k<r.L.length){m':MM}(x:m'.N=r.L[k].N)(w:m'.Is=r.L[k].Is)(u:m'.ID=r.L[k].ID)(t:m'.Guards=r.L[k].Guards)(s:m'.Need=r.L[k].Need):RGood D cs {r with L:=r.L.set k m'}:=by
 have d:∀m∈r.L.set k m',∃f∈r.L,m.N=f.N/\m.Is=f.Is/\m.ID=f.ID/\m.Guards=f.Guards/\m.Need=f.Need:=λm g=>f_;have o:∀i(l:i<(r.L.set k m').length),(r.L.set k m')[i].N=(r.L[i]'sf).N/\(r.L.set k m')[i].Is=(r.L[i]'sf).Is/\(r.L.set k m')[i].ID=(r.L[i]'sf).ID:=λi l=>f_;refine⟨h.cards,h.inn,h.sub,λi j l n e=>?_,λm g=>?_,λm g hI=>?_,λi j l n h1 h2 e=>?_,λm g=>?_,λm g hI=>?_,h.vnd,h.vat,λv p=>?_⟩;apply h.nn i j sf (by simpa using n);grind;obtain⟨f,h0,a,_⟩:=d m g;rw[a];exact h.pos f h0;obtain⟨f,h0,_,a,b,_⟩:=d m g;rw[b];exact h.gid f h0 (a ▸ hI);refine h.uniq i j sf (by simpa using n) ?_ ?_ ?_;grind;grind;grind;obtain⟨f,h0,_,_,_,a,_⟩:=d m g;rw[a];exact h.mg f h0;obtain⟨f,h0,_,a,_,_,b⟩:=d m g;rw[b];exact h.need f h0 (a ▸ hI);obtain⟨m,g,a,b,c⟩:=h.vof v p;obtain⟨i,l,rfl⟩:=List.mem_iff_getElem.1 g;grind
def RGood.guarded(h:RGood D cs r){o:OpM}(F:OpGood o)(G:o.Kind=9){x:Id}(A:x∉D):RGood (x::D) cs (BN r o x):=by
 unfold BN;by_cases h0:jL r (eI r o.By)<0;simp only[if_pos h0];exact h.mono λy M=>GU _ M;obtain⟨k,e,O,_⟩:=Ox (o_:0<=jL r (eI r o.By));simp only[if_neg h0];simp only[e,nI,nH O];have P:=F.need G;obtain⟨l,I⟩:∃l,l=r.L.set k ⟨r.L[k].N,r.L[k].Role,true,x,o.Guards,o.Need,o.Wait,false,0⟩:=⟨_,rfl⟩
 rw[<-I];have u:l.length=r.L.length:=t_;have f:∀i(d:i<l.length)(s:i<r.L.length),(i=k/\l[i]=⟨r.L[k].N,r.L[k].Role,true,x,o.Guards,o.Need,o.Wait,false,0⟩)\/(i≠k/\l[i]=r.L[i]):=λi d s=>f_;have H:∀i(d:i<l.length)(s:i<r.L.length),l[i].N=r.L[i].N:=λi d s=>f_;have g:∀{i},i<l.length->i<r.L.length:=λh=>by rw[<-u];exact h
 clear I;refine⟨h.cards,h.inn,h.sub,λi j d t e=>?_,λm q=>?_,λm q hI=>?_,λi j d t h1 h2 e=>?_,λm q=>?_,λm q hI=>?_,h.vnd.sublist (List.filter_sublist.map _),λv E=>h.vat v (gR.1 E).1,λv E=>?_⟩;apply h.nn i j (g d) (g t);grind;obtain⟨i,d,rfl⟩:=List.mem_iff_getElem.1 q;rw[H i d (g d)];exact h.pos _ (eQ (g d));obtain⟨i,d,rfl⟩:=List.mem_iff_getElem.1 q;rcases f i d (g d) with⟨_,n⟩|⟨_,n⟩
 simp_all;rw[n]at hI⊢;exact GU _ (h.gid _ (eQ (g d)) hI);replace h1:l[i].Is=true:=h1;replace h2:l[j].Is=true:=h2;replace e:l[i].ID=l[j].ID:=e;rcases f i d (g d) with⟨K,z⟩|⟨K,z⟩<;>rcases f j t (g t) with⟨J,w⟩|⟨J,w⟩
 rw[K,J];rw[z,w]at e;rw[w]at h2;exact absurd (h.gid _ (eQ (g t)) h2) (by rw[<-e];exact A);rw[z,w]at e;rw[z]at h1;exact absurd (h.gid _ (eQ (g d)) h1) (by rw[e];exact A);rw[z]at h1 e;rw[w]at h2 e;exact h.uniq i j (g d) (g t) h1 h2 e;obtain⟨i,d,rfl⟩:=List.mem_iff_getElem.1 q;rcases f i d (g d) with⟨_,n⟩|⟨_,n⟩
 rw[n];exact F.gl;rw[n];exact h.mg _ (eQ (g d));obtain⟨i,d,rfl⟩:=List.mem_iff_getElem.1 q;rcases f i d (g d) with⟨_,n⟩|⟨_,n⟩
 rw[n];have:=F.gl;show 1<=o.Need/\o.Need<=1000;omega;rw[n]at hI⊢;exact h.need _ (eQ (g d)) hI;obtain⟨C,B⟩:=gR.1 E;obtain⟨m,q,a,b,c⟩:=h.vof v C;obtain⟨i,_,d,p⟩:=Hm (of_decide_eq_true B);rw[zJ,decide_eq_true_eq]at p;replace d:i<l.length:=d;replace p:l[i].Is=true/\l[i].ID=v.Of:=p;refine⟨l[i],eQ d,p.1,p.2,?_⟩;rcases f i d (g d) with⟨_,n⟩|⟨_,n⟩
 rw[n]at p;exact absurd (h.gid m q a) (by rw[b,<-p.2];exact A);rw[n]at p⊢;have:=Fn h.uniq q (eQ (g d)) a p.1 (b.trans p.2.symm);simp_all
def RGood.vouches (h:RGood D cs r) {o:OpM} (m:OpGood o):RGood D cs (iQ r o):=by
 by_cases h0:(kD r o).2≠0;grind[iQ];have n:iQ r o={r with V:=r.V.filter (λv=>!mQ o v)++[qA o r.V]}:=by rw[iQ,if_neg h0];rfl
 rw[n];have f:(qA o r.V).Of=o.Of/\(qA o r.V).By=o.By/\(qA o r.V).Device=o.Device:=⟨rfl,rfl,rfl⟩
 refine⟨h.cards,h.inn,h.sub,h.nn,h.pos,h.gid,h.uniq,h.mg,h.need,?_,λv c=>?_,λv c=>?_⟩;rw[bZ];refine vQ.2 ⟨h.vnd.sublist (List.filter_sublist.map _),s_,λa q b p e=>?_⟩;grind[List.mem_singleton,Prod.mk.injEq,mQ];rcases cG.1 c with c|c;exact h.vat v (gR.1 c).1;rw[cA]at c;subst c;have:∀(l:List VM)(a:Int),0<=a->(∀v∈l,0<=v.At)->0<=l.foldl (λa v=>min a v.At) a:=by
  intro l
  induction l with
  |nil=>exact λa h _=>h|cons v l ih=>exact λa h g=>ih _ (by have:=g v s_;show 0<=min a v.At;omega) λw k=>g w (by simp[k])
 exact this _ _ m.at0 λv c=>h.vat v (gR.1 c).1;rcases cG.1 c with c|c;exact h.vof v (gR.1 c).1;rw[cA]at c;subst c;rcases Hr r o.Of with⟨d,_⟩|⟨i,j,d,q2,_⟩
 grind[kD];rw[Vt,zJ,decide_eq_true_eq]at q2;refine⟨_,eQ j,q2.1,q2.2,?_⟩;rw[lO j d]at h0;grind
def RGood.do'(h:RGood D cs r)(i:CardsG cs){o:OpM}(c:OpGood o){x:Id}(f:x∉D):RGood (x::D) cs (BS r o x):=by have a:=h.mono (D':=x::D) λy d=>GU _ d;unfold BS;split;split;exact a;exact⟨(a.comes o.By 3).cards,(a.comes o.By 3).inn,(a.comes o.By 3).sub,(a.comes o.By 3).nn,(a.comes o.By 3).pos,(a.comes o.By 3).gid,(a.comes o.By 3).uniq,(a.comes o.By 3).mg,(a.comes o.By 3).need,(a.comes o.By 3).vnd,(a.comes o.By 3).vat,(a.comes o.By 3).vof⟩;split;exact a.comes _ _;split;exact a.foldGoes _;split;split;exact a;rename_i h0;obtain⟨k,e,b,_⟩:=Ox (o_:0<=jL r o.Member);rw[e,nI,nH b];exact a.setM b rfl rfl rfl rfl rfl;split;rename_i g;exact h.guarded c kj f;split;exact a.vouches c;split;by_cases h0:jL r (eI r o.By)<0;simp only[if_pos h0];exact a;obtain⟨k,e,b,_⟩:=Ox (o_:0<=jL r (eI r o.By));simp only[if_neg h0];simp only[e,nI,nH b];split;exact a.setM b rfl rfl rfl rfl rfl;exact a;split;by_cases h0:pZ r o.Of<0;simp only[if_pos h0];exact a;simp only[if_neg h0];split;exact(a.comes _ _).goes _;exact a;exact a
end
def Hv(f:Nat):AV:=.v (.func (.func f) #[] #[])
def lP:O_:=[.v .nilFunc,.v .nilFunc,Hv wS,Hv wT,.v .nilFunc,Hv wU,Hv wV,.v .nilFunc,Hv wW,Hv wX,Hv mB,Hv wY,Hv mB,Hv wZ]
def AK(G:L_):Prop:=G NY=some lP
def aKt{r:RM}{o:OpM}(h:(kD r o).2=0):Lm r o.Of=(r.L.getD (kD r o).1.toNat default).N:=by
 rcases Hr r o.Of with⟨a,_⟩|⟨i,b,a,_,c⟩
 grind[kD];rw[lO b a]at h⊢;grind
def aIv{r:RM}{o:OpM}(b:o.Kind=11):C1 r o=a7P r o:=by unfold C1 a7P gP;by_cases a:(kD r o).2=0;have c:=aKt a;simp_all;simp_all
def aIw{r:RM}{o:OpM}(b:o.Kind=13):C1 r o=a8P r o:=by unfold C1 a8P gP;by_cases a:(kD r o).2=0;have c:=aKt a;grind;simp_all
section
variable{G:L_}{T:aK}{s:RP}{r:RM}{D:D_}{cs:List CardM}
def O8(z:AK G)(h:RollAt T s r)(l:RGood D cs r)(S:CardsG cs)(o:OpM)(x:Id)(K:o.Guards.length<=1000):aA PQ G tM [.ptr s.root 0,.ag o.A,.ag x.A] T λy P=>y=iv (mT r o)/\P=T:=by
 apply eH Hn;have t:=λX:aK=>aF (X:=X) h.root;have b:G 1=some lP:=z;have N:G NY=some lP:=z;have g:=λX d=>kE (G:=G) (h.app (X:=X)) d;simp only[go_sem,aD,eB,jC,dM];cases C:(o.Kind==1);rotate_left;have f:mT r o=if(eI r o.By==0)=true then 17 else if 0<r.In.length\/0<r.Gone.length then 5 else 0:=by grind[mT]
 rw[f];simp only[go_sem,aD];apply cI (g _ _);cases u:(eI r o.By==0);obtain⟨Q,bw,cw,E,M,H,I,F⟩:=h.was;have B:=λX:aK=>aF (X:=X) E;unfold tK at B;simp only[go_sem,u,t,B,aP];refine aL (λk=>?_) (λk=>?_);have k:=of_decide_eq_true k;simp only[go_sem,aH];rw[if_pos];grind;have k:=of_decide_eq_false k;simp only[go_sem,aH];simp_all;simp only[go_sem,u,aH];simp only[go_sem];obtain⟨bs,U,hI,_⟩:=h.inn;have q:=λX:aK=>aF (X:=X) hI;unfold tK at q;have i:=iW o.By r.In 0;rcases K4 r.In o.By with⟨j,e,R,m⟩|⟨e,m⟩
 rotate_left;rw[e]at i;simp only[xD]at i;simp only[go_sem,t,q,i,aD,aH];grind[mT];rw[e]at i;simp only[iX,mG]at i;have O:(r.In.map λ_=>AV.v (.bool true))[j]?=some (.v (.bool true)):=t_;simp only[go_sem,t,q,i,O,aD];have J:o.Kind≠1:=by simpa using C
 have p:o.Kind<0\/14<=o.Kind\/o.Kind=0\/o.Kind=4\/o.Kind=7\/o.Kind=2\/o.Kind=3\/o.Kind=5\/o.Kind=6\/o.Kind=8\/o.Kind=9\/o.Kind=10\/o.Kind=11\/o.Kind=12\/o.Kind=13:=o_;rcases p with c|c|c|c|c|c|c|c|c|c|c|c|c|c|c;have f:mT r o=0:=by grind[mT]
 rw[f];simp only[go_sem,decide_eq_true c,undef,aH];have f:mT r o=0:=by grind[mT]
 rw[f];have L:decide (o.Kind<0)=false:=decide_eq_false o_;have n:decide (o.Kind>=14)=true:=decide_eq_true c;simp only[go_sem,aD,L,ge_iff_le,n,undef,aH];have f:mT r o=0:=by grind[mT]
 rw[f];have w:lP[0]?=some (.v .nilFunc):=rfl;simp only[go_sem,aD,c,b,lP,ge_iff_le,aH];have f:mT r o=0:=by grind[mT]
 rw[f];have w:lP[4]?=some (.v .nilFunc):=rfl;simp only[go_sem,aD,c,b,lP,ge_iff_le,aH];have f:mT r o=0:=by grind[mT]
 rw[f];have w:lP[7]?=some (.v .nilFunc):=rfl;simp only[go_sem,aD,c,b,lP,ge_iff_le,aH];have f:mT r o=a1P r o (eI r o.By):=by grind[mT,a1P]
 have a:=λX:aK=>aIj (G:=G) (h.app (X:=X)) o (eI r o.By);rw[f];simp only[go_sem,aD,c,b,lP,Hv,ge_iff_le];apply cI (g _ _);simp only[go_sem,aD,c,b,lP,Hv];apply cI (a _);simp only[go_sem,aH];have f:mT r o=JI r o (eI r o.By) (sD r (eI r o.By)==3):=by grind[mT]
 have a:=λX:aK=>aIk (G:=G) (h.app (X:=X)) o (eI r o.By);rw[f];simp only[go_sem,aD,c,b,lP,Hv,ge_iff_le];apply cI (g _ _);simp only[go_sem,aD,c,b,lP,Hv];apply cI (a _);simp only[go_sem,aH];have f:mT r o=a3P r o (eI r o.By):=by grind[mT,a3P]
 have a:=λX:aK=>aIl (G:=G) (h.app (X:=X)) o (eI r o.By);rw[f];simp only[go_sem,aD,c,b,lP,Hv,ge_iff_le];apply cI (g _ _);simp only[go_sem,aD,c,b,lP,Hv];apply cI (a _);simp only[go_sem,aH];have f:mT r o=a4P r (eI r o.By):=by grind[mT,a4P]
 have a:=λX:aK=>aIm (G:=G) (h.app (X:=X)) o (eI r o.By);rw[f];simp only[go_sem,aD,c,b,lP,Hv,ge_iff_le];apply cI (g _ _);simp only[go_sem,aD,c,b,lP,Hv];apply cI (a _);simp only[go_sem,aH];have f:mT r o=a5P r o (eI r o.By):=by grind[mT,a5P]
 have a:=λX:aK=>aIn (G:=G) (h.app (X:=X)) o (eI r o.By);rw[f];simp only[go_sem,aD,c,b,lP,Hv,ge_iff_le];apply cI (g _ _);simp only[go_sem,aD,c,b,lP,Hv];apply cI (a _);simp only[go_sem,aH];have f:mT r o=a6P r o:=by grind[mT,a6P]
 have a:=λX:aK=>aIt (G:=G) (h.app (X:=X)) o (eI r o.By) K;rw[f];simp only[go_sem,aD,c,b,lP,Hv,ge_iff_le];apply cI (g _ _);simp only[go_sem,aD,c,b,lP,Hv];apply cI (a _);simp only[go_sem,aH];have f:mT r o=aBa r o (eI r o.By):=by grind[mT,aBa]
 have a:=λX:aK=>Oy (G:=G) (h.app (X:=X)) o (eI r o.By);rw[f];simp only[go_sem,aD,c,b,lP,Hv,ge_iff_le];apply cI (g _ _);simp only[go_sem,aD,c,b,lP,Hv];apply cI (a _);simp only[go_sem,aH];have f:mT r o=a7P r o:=by unfold mT;simp only[c,decide_eq_true m];exact aIv c
 have a:=λX:aK=>aIo (G:=G) (h.app (X:=X)) l.wf o (eI r o.By);rw[f];simp only[go_sem,aD,c,b,lP,Hv,ge_iff_le];apply cI (g _ _);simp only[go_sem,aD,c,b,lP,Hv];apply cI (a _);simp only[go_sem,aH];have f:mT r o=aBa r o (eI r o.By):=by grind[mT,aBa]
 have a:=λX:aK=>Oy (G:=G) (h.app (X:=X)) o (eI r o.By);rw[f];simp only[go_sem,aD,c,b,lP,Hv,ge_iff_le];apply cI (g _ _);simp only[go_sem,aD,c,b,lP,Hv];apply cI (a _);simp only[go_sem,aH];have f:mT r o=a8P r o:=by unfold mT;simp only[c,decide_eq_true m];exact aIw c
 have a:=λX:aK=>aIu (G:=G) (h.app (X:=X)) l.wf l.wv o (eI r o.By);rw[f];simp only[go_sem,aD,c,b,lP,Hv,ge_iff_le];apply cI (g _ _);simp only[go_sem,aD,c,b,lP,Hv];apply cI (a _);simp only[go_sem,aH]
end
end Hud
