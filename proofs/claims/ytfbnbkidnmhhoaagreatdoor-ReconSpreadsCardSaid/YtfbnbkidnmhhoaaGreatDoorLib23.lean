import Derived.Test.YtfbnbkidnmhhoaaGreatDoorLib22
set_option linter.all false
set_option maxHeartbeats 40000000
namespace Hud
open Go
def aT3(k:Nat)(h:k<=1000):bV .sub (.int .u64 2305843009213693950) (.int .u64 (k:Int))=some (.int .u64 ((2305843009213693950-k:Nat):Int)):=aRk 2305843009213693950 k o_ s_
def SV(l:List Fq)(n:Nat):List Fq:=(List.range n).map λk=>vl l (zk k)
def aT4(l:List Fq)(n:Nat):(SV l n).length=n:=by simp[SV]
def aWy(l:List Fq)(n:Nat):SV l (n+1)=SV l n++[vl l (zk n)]:=by simp[SV,QH]
def aVv(l:List Fq)(n k:Nat)(h:k<n):(fl (SV l n))[k]?=some [.v (fu (vl l (zk k)))]:=by simp[fl,SV,h]
def aWz(l:List Fq)(t:Fq)(j:Nat)(h:j<l.length):vl (l.take (j+1)) t=vl (l.take j) t*(t-l[j]):=by rw[lq8 h,vl,Hy];rfl
section
variable{G:L_}
def aTK(k:Nat)(h:k<=1000):aA PQ G aMf [iv k] [] λr T=>r=.v (fu (zk k))/\T=[]:=by refine aC aPw ?_;simp only[go_sem,bS k o_,↓aT3 k h,<-aRT h]
def aWA(l:List Fq)(n:Nat)(g:l.length<=1000000)(f:n<=1000):aA PQ G aKm [.ls 1 (fl l),iv n] [] λr T=>r=.ag [iv l.length,.ls 1 (fl (SV l n))]/\T=[]:=by
 have a:aA PQ G aKm [.ls 1 (fl l),iv n] [] λr T=>r=.ag [iv l.length,.own 0]/\T=[some (.arr 1 (fl (SV l n)))]:=by
  apply aC aQo;simp only[go_sem,aP];refine aQ n (λi=>⟨0,[(0,.ls 1 (fl l)),(4,.ptr 0 0),(5,.ptr 1 0),(13,iv n),(14,iv i)],[some (.box [iv 0,.v (.slice none 0 0)]),some (.box [iv l.length,.own 2]),some (.arr 1 (fl (SV l i)))]⟩) (λ_=>True) ?_ trivial ?_ ?_;simp only[go_sem,SV];intro i c _;have e:(i+1)*8<=140737488355328:=o_;have d:i+1<=maxLen:=g_;simp only[go_sem,aT c,aP];refine aQ l.length (λj=>⟨0,[(0,.ls 1 (fl l)),(4,.ptr 0 0),(5,.ptr 1 0),(6,iv i),(7,.v (fu (vl (l.take j) (zk i)))),(13,iv n),(14,iv i),(17,.ls 1 (fl l)),(18,iv l.length),(19,iv j)],[some (.box [iv 0,.v (.slice none 0 0)]),some (.box [iv l.length,.own 2]),some (.arr 1 (fl (SV l i)))]⟩) (λ_=>True) ?_ trivial ?_ ?_;simp only[go_sem];rfl;intro j b _;simp only[go_sem,aT b,aI0 l j b];apply cX (aTK i o_);simp only[go_sem];apply cX (aSd (zk i) l[j]);simp only[go_sem];apply cX (Ud (vl (l.take j) (zk i)) (zk i-l[j]));simp only[go_sem,fQ j o_,aWz l (zk i) j b];intro _;simp only[go_sem,aS (bP _),dE,aT4,e,d,fQ i o_,aWy];intro _;simp only[go_sem,aS (bP _)]
 apply a.fin [0];rintro r h ⟨rfl,rfl⟩;simp only[go_sem]
def aZD{a b:Fq}(h:((a.val:Int)!=(b.val:Int))=true):a≠b:=λe=>by rw[e]at h;simp at h
def aZE{a b:Fq}(h:((a.val:Int)!=(b.val:Int))=false):a=b:=Fin.ext A_
def aLP(l:List Fq)(k:Nat)(h:k<l.length):(fl l)[k]?=some [.v (fu (l.getD k 0))]:=by simp[fl,h,rH]
def aYq (x y A B:List Fq) (N M:Int) (n:Nat) (o:x.length<=1000000) (m:y.length<=1000000) (c:n<=1000) (hA:A.length=n) (p:B.length=n):aA PQ G aOz [.ls 1 (fl x),.ls 1 (fl y),.ag [iv N,.ls 1 (fl A)],.ag [iv M,.ls 1 (fl B)]] [] λr T=>
 (∃t:Bool,r=.v (.bool t)/\(t=true↔∀k,k<n->A.getD k 0*vl y (zk k)=B.getD k 0*vl x (zk k)))/\T=[]:=by
 apply aC aQa;simp only[go_sem,aP,hA];apply cX (aWA x n o c);simp only[go_sem,aP,hA];apply cX (aWA y n m c);simp only[go_sem,aP,hA];refine aQ n (λi=>⟨0,[(6,.ptr 0 0),(7,.ptr 1 0),(9,.ls 1 (fl (SV x n))),(10,.ls 1 (fl (SV y n))),(26,iv n),(27,iv i)],[some (.box [iv N,.ls 1 (fl A)]),some (.box [iv M,.ls 1 (fl B)])]⟩) (λi=>∀k,k<i->A.getD k 0*vl y (zk k)=B.getD k 0*vl x (zk k)) ?_ (λk d=>absurd d (Nat.not_lt_zero _)) ?_ ?_;simp only[go_sem];intro i a b;have l:=aLP A i o_;have j:=aLP B i o_;have g:=aVv x n i a;have f:=aVv y n i a;simp only[go_sem,aT a,l,j,g,f];apply cX (Ud (A.getD i 0) (vl y (zk i)));simp only[go_sem,l,j,g,f];apply cX (Ud (B.getD i 0) (vl x (zk i)));simp only[go_sem];refine aL (λh=>?_) (λh=>?_);simp only[go_sem];exact⟨false,rfl,by simp only[jJ,false_iff];exact λh2=>aZD h (h2 i a)⟩;simp only[go_sem,fQ i o_];refine λk d=>?_;rcases eD k i with e|e;exact b k e;obtain rfl:k=i:=o_;exact aZE h;intro b;simp only[go_sem,aS (bP _)];exact⟨true,rfl,by simp only[true_iff];exact b⟩
end
end Hud
namespace Hud
def ent(rows:List (List Fq))(i c:Nat):Fq:=(rows.getD i []).getD c 0
def Sat(n:Nat)(x a:List Fq):Prop:=aIE (a.take n) x=a.getD n 0
def Sol(n:Nat)(rows:List (List Fq))(x:List Fq):Prop:=∀i,i<rows.length->Sat n x (rows.getD i [])
def aVx(a:Fq):a-a=0:=m_
def aYr(a:Fq):a-0=a:=m_
def aXb(a:Fq):a-a*1=0:=m_
def aTL(v:Fq):∀(r x:List Fq),aIE (r.map (· * v)) x=aIE r x*v|[],x=>by simp only[uP,aIE,aOO]|a::r,[]=>by simp only[fG,aIE,aOO]|a::r,b::x=>by simp only[fG,aIE,aTL v r x];generalize aIE r x=y;grind
def aEV(t:Fq)(r s:List Fq):List Fq:=List.zipWith (λa b=>a-t*b) r s
def aSu(t:Fq):∀(r s x:List Fq),r.length=s.length->aIE (aEV t r s) x=aIE r x-t*aIE s x
 |[],[],x,_=>by simp only[aEV,List.zipWith_nil_left,aIE,aLM,aVx]|a::r,b::s,[],_=>by simp only[aEV,List.zipWith_cons_cons,aIE,aLM,aVx]|a::r,b::s,c::x,h=>by
  have:=aSu t r s x n_;simp only[aEV]at this⊢;simp only[List.zipWith_cons_cons,aIE,this];generalize aIE r x=y;generalize aIE s x=z;grind
 |[],_::_,_,h=>by simp at h|_::_,[],_,h=>by simp at h
def aQS(t:Fq)(r s:List Fq)(h:r.length=s.length)(c:Nat):(aEV t r s).getD c 0=r.getD c 0-t*s.getD c 0:=by simp only[aEV,rH,List.getElem?_zipWith];rcases eD c r.length with a|a;rw[jN a,jN o_];rfl;rw[sX a,sX o_];simp only[Option.getD_none,aLM,aVx]
def aP5(t:Fq)(r s:List Fq)(h:r.length=s.length):(aEV t r s).length=r.length:=by simp[aEV,h]
def aTM(v:Fq)(r:List Fq)(c:Nat):(r.map (· * v)).getD c 0=r.getD c 0*v:=by
 simp only[rH,gE]
 cases r[c]? with
 |none=>simp only[xD,Option.getD_none,aOO]|some a=>rfl
def aUr{n:Nat}{x r:List Fq}{v:Fq}(a:v≠0):Sat n x (r.map (· * v))↔Sat n x r:=by unfold Sat;rw[<-QN,aTL,aTM];constructor;intro h;exact aPj a (by rw[f_mcom v,f_mcom v];exact h);intro h;rw[h]
where f_mcom (a b:Fq):a*b=b*a:=m_
def aSv{n:Nat}{x r s:List Fq}{t:Fq}(h:r.length=s.length)(a:Sat n x s):Sat n x (aEV t r s)↔Sat n x r:=by
 unfold Sat at *
 have e:(aEV t r s).take n=aEV t (r.take n) (s.take n):=by simp only[aEV,List.take_zipWith]
 rw[e,aSu t _ _ _ (by simp[h]),aQS t r s h,a];generalize aIE (r.take n) x=y;generalize r.getD n 0=z;generalize t*s.getD n 0=w;constructor<;>intro h<;>grind
def aJM{α:Type}(l:List α)(i j:Nat)(x d:α)(h:i<l.length):(l.set i x).getD j d=if i=j then x else l.getD j d:=by simp only[rH,Hx,h,if_true];by_cases e:i=j<;>simp[e]
structure GE(n c:Nat)(rows:List (List Fq))(pv:List Nat):Prop where
 len:∀i,i<rows.length->(rows.getD i []).length=n+1
 rk:pv.length<=rows.length
 lt:∀j,j<pv.length->pv.getD j 0<c
 cn:c<=n
 one:∀j,j<pv.length->∀i,i<rows.length->ent rows i (pv.getD j 0)=if i=j then 1 else 0
 zero:∀i,pv.length<=i->i<rows.length->∀d,d<c->ent rows i d=0
def aWB{n:Nat}{rows:List (List Fq)}(h:∀i,i<rows.length->(rows.getD i []).length=n+1):GE n 0 rows []:=
 ⟨h,pR _,λj a=>absurd a (Nat.not_lt_zero _),pR _,λj a=>absurd a (Nat.not_lt_zero _),λ_ _ _ d b=>absurd b (Nat.not_lt_zero _)⟩
def aWC{n c:Nat}{rows:List (List Fq)}{a:O3}(h:GE n c rows a)(g:c<n)(h0:∀i,a.length<=i->i<rows.length->ent rows i c=0):GE n (c+1) rows a :=
 ⟨h.len,h.rk,λj f=>Nat.lt_succ_of_lt (h.lt j f),g,h.one,λi e h2 d k=>by
  rcases eD d c with b|b;exact h.zero i e h2 d b;obtain rfl:d=c:=o_
  exact h0 i e h2⟩
def S0(rows:List (List Fq))(r k:Nat):List (List Fq):=(rows.set r (rows.getD k [])).set k (rows.getD r [])
def aJb(rows:List (List Fq))(r k:Nat):(S0 rows r k).length=rows.length:=by simp[S0]
def aLv(rows:List (List Fq)){r k:Nat}(b:r<rows.length)(c:k<rows.length)(i:Nat):(S0 rows r k).getD i []=rows.getD (if i=k then r else if i=r then k else i) []:=by rw[S0,aJM _ _ _ _ _ oW,aJM _ _ _ _ _ b];by_cases a:k=i;simp[a];by_cases h2:r=i;simp[a,h2,Ne.symm a];simp[a,h2,Ne.symm a,Ne.symm h2]
def aVy {n:Nat} {rows:List (List Fq)} {r k:Nat} (a:r<rows.length) (b:k<rows.length) {x:List Fq}:Sol n (S0 rows r k) x↔Sol n rows x:=by
 constructor;intro h i c;have:=h (if i=k then r else if i=r then k else i) (by rw[aJb];split;exact a;split;exact b;exact c);rw[aLv rows a b]at this;have e:(if(if i=k then r else if i=r then k else i)=k then r else if(if i=k then r else if i=r then k else i)=r then k else(if i=k then r else if i=r then k else i))=i:=by by_cases d:i=k;by_cases h2:r=k<;>simp[d,h2];by_cases h2:i=r;simp[h2];simp[d,h2]
 rwa[e]at this;intro h i c;rw[aLv rows a b];rw[aJb]at c;exact h _ (by split;exact a;split;exact b;exact c)
def aH5(rows:List (List Fq))(k:Nat)(v:Fq):List (List Fq):=rows.set k ((rows.getD k []).map (· * v))
def aUs{n:Nat}{rows:List (List Fq)}{k:Nat}(b:k<rows.length){v:Fq}(a:v≠0){x:List Fq}:Sol n (aH5 rows k v) x↔Sol n rows x:=by unfold Sol aH5;rw[cL];refine forall_congr' λi=>forall_congr' λc=>?_;rw[aJM _ _ _ _ _ b];split;rename_i e;subst e;exact aUr a;rfl
def W2(rows:List (List Fq))(k c:Nat):Nat->List (List Fq)|0=>rows|i+1=>if i=k then W2 rows k c i else(W2 rows k c i).set i (aEV (ent (W2 rows k c i) i c) ((W2 rows k c i).getD i []) ((W2 rows k c i).getD k []))
def aP6(rows:List (List Fq))(k c:Nat):∀i,(W2 rows k c i).length=rows.length|0=>rfl|i+1=>by rw[W2];split<;>simp[aP6 rows k c i]
def aPF (rows:List (List Fq)) {k c n:Nat} (e:k<rows.length) (d:∀i,i<rows.length->(rows.getD i []).length=n+1):∀i,i<=rows.length->∀j,(W2 rows k c i).getD j []=if j<i/\j≠k then aEV (ent rows j c) (rows.getD j []) (rows.getD k []) else rows.getD j []
 |0,_,j=>by simp[W2]
 | i+1,h,j=>by
  have ih:=aPF rows (c:=c) e d i (by omega);rw[W2];by_cases b:i=k;rw[if_pos b,ih];by_cases h2:j<i/\j≠k;rw[if_pos h2,if_pos ⟨by omega,h2.2⟩];rw[if_neg h2,if_neg (by omega)];rw[if_neg b,aJM _ _ _ _ _ (by rw[aP6];omega)];have g:(W2 rows k c i).getD i []=rows.getD i []:=by rw[ih,if_neg (by omega)]
  have f:(W2 rows k c i).getD k []=rows.getD k []:=by rw[ih,if_neg (by omega)]
  by_cases h2:i=j;subst h2;rw[if_pos rfl,if_pos ⟨by omega,b⟩,ent,g,f,ent];rw[if_neg h2,ih];by_cases a:j<i/\j≠k;rw[if_pos a,if_pos ⟨by omega,a.2⟩];rw[if_neg a,if_neg (by omega)]
def aVz{n:Nat}{rows:List (List Fq)}{k c:Nat}(f:k<rows.length)(d:∀i,i<rows.length->(rows.getD i []).length=n+1){x:List Fq}:Sol n (W2 rows k c rows.length) x↔Sol n rows x:=by have g:=aPF rows (c:=c) f d rows.length (cN _);unfold Sol;rw[aP6];constructor;intro h i b;have a:=h k f;rw[g,if_neg o_]at a;by_cases e:i=k;subst e;exact a;have:=h i b;rw[g,if_pos ⟨b,e⟩]at this;exact(aSv (by rw[d i b,d k f]) a).1 this;intro h i b;rw[g];split;exact(aSv (by rw[d i b,d k f]) (h k f)).2 (h i b);exact h i b
def aUt{a:Fq}(h:a≠0):inv a≠0:=λe=>by have:=aNs h;rw[e,aLM]at this;exact aNv this.symm
def aP7(rows:List (List Fq))(r k c:Nat):List (List Fq):=W2 (aH5 (S0 rows r k) k (inv (ent (S0 rows r k) k c))) k c rows.length
def aWD {n c r:Nat} {rows:List (List Fq)} {b:O3} (h:GE n c rows b) (N:c<n) (O:b.length<=r) (g:r<rows.length) (y:ent rows r c≠0):
 GE n (c+1) (aP7 rows r b.length c) (b++[c])/\(aP7 rows r b.length c).length=rows.length/\∀x,Sol n (aP7 rows r b.length c) x↔Sol n rows x:=by
 have p:b.length<rows.length:=o_;generalize q:b.length=k at *
 have C:∀i,i<rows.length->((S0 rows r k).getD i []).length=n+1:=λi f=>by rw[aLv rows g p];exact h.len _ (by split;exact g;split;exact p;exact f)
 have L:ent (S0 rows r k) k c=ent rows r c:=by rw[ent,aLv rows g p,if_pos rfl];rfl
 have o:(aH5 (S0 rows r k) k (inv (ent (S0 rows r k) k c))).length=rows.length:=by rw[aH5,cL,aJb]
 have t:∀i,(aH5 (S0 rows r k) k (inv (ent (S0 rows r k) k c))).getD i []=if k=i then(rows.getD r []).map (· * inv (ent rows r c)) else(S0 rows r k).getD i []:=λi=>by rw[aH5,aJM _ _ _ _ _ (by rw[aJb];exact p),L,aLv rows g p k,if_pos rfl]
 have m:∀i,i<rows.length->((aH5 (S0 rows r k) k (inv (ent (S0 rows r k) k c))).getD i []).length=n+1:=λi f=>by rw[t];split;rw[aP,h.len r g];exact C i f
 have l:(aP7 rows r k c).length=rows.length:=by rw[aP7,aP6,o]
 have s:∀i,(aP7 rows r k c).getD i []=if i<rows.length/\i≠k then aEV (ent (aH5 (S0 rows r k) k (inv (ent (S0 rows r k) k c))) i c) ((aH5 (S0 rows r k) k (inv (ent (S0 rows r k) k c))).getD i []) ((aH5 (S0 rows r k) k (inv (ent (S0 rows r k) k c))).getD k []) else(aH5 (S0 rows r k) k (inv (ent (S0 rows r k) k c))).getD i []:=λi=>by have:=aPF (aH5 (S0 rows r k) k (inv (ent (S0 rows r k) k c))) (c:=c) (n:=n) (by rw[o];exact p) (by rw[o];exact m) rows.length (by rw[o];exact cN _) i;exact this
 have w:∀x,Sol n (aP7 rows r k c) x↔Sol n rows x:=λx=>by have M:=aVz (n:=n) (rows:=aH5 (S0 rows r k) k (inv (ent (S0 rows r k) k c))) (c:=c) (k:=k) (by rw[o];exact p) (by rw[o];exact m) (x:=x);rw[o]at M;rw[aP7,M,aUs (by rw[aJb];exact p) (by rw[L];exact aUt y),aVy g p]
 generalize P:aH5 (S0 rows r k) k (inv (ent (S0 rows r k) k c))=S at *
 have J:∀d,ent S k d=ent rows r d*inv (ent rows r c):=λd=>by rw[ent,t,if_pos rfl,aTM];rfl
 have I:∀i,i≠k->∀d,ent S i d=ent rows (if i=r then k else i) d:=λi f d=>by rw[ent,t,if_neg (Ne.symm f),aLv rows g p,if_neg f];rfl
 have G:∀i,i<rows.length->i≠k->∀d,ent (aP7 rows r k c) i d=ent S i d-ent S i c*ent S k d:=λi f a d=>by rw[ent,s,if_pos ⟨f,a⟩,aQS _ _ _ (by rw[m i f,m k p])];rfl
 have B:∀d,ent (aP7 rows r k c) k d=ent S k d:=λd=>by rw[ent,s,if_neg k_];rfl
 have v:ent S k c=1:=by rw[J,aNs y]
 have F:∀d,d<c->ent S k d=0:=λd H=>by rw[J,h.zero r o_ g d H,aOO]
 refine⟨⟨?_,?_,?_,N,?_,?_⟩,l,w⟩;intro i f;rw[l]at f;rw[s];split;rw[aP5 _ _ _ (by rw[m i f,m k p]),m i f];exact m i f;rw[l,dZ,q];simp;omega;intro j A;rw[dZ,q]at A;rcases eD j k with u|u;have:(b++[c]).getD j 0=b.getD j 0:=by simp[rH,List.getElem?_append,(o_:j<b.length)]
 rw[this];have:=h.lt j o_;omega;have:(b++[c]).getD j 0=c:=by
  have:j=b.length:=by simp at A;omega
  simp[rH,this]
 omega;intro j A i f;rw[l]at f;rw[dZ,q]at A;rcases eD j k with u|u;have e:(b++[c]).getD j 0=b.getD j 0:=by simp[rH,List.getElem?_append,(o_:j<b.length)]
 rw[e];have z:=h.lt j o_;by_cases a:i=k;subst a;rw[B,F _ z,if_neg o_];rw[G i f a,F _ z,aLM,I i a];have:=h.one j o_ (if i=r then k else i) so;rw[this];by_cases K:i=r;subst K;rw[if_pos rfl,if_neg o_,if_neg o_,aVx];rw[if_neg K,aYr];have D:j=b.length:=by simp at A;omega
 have e:(b++[c]).getD j 0=c:=by simp[rH,D]
 rw[e];by_cases a:i=k;subst a;rw[B,v,if_pos o_];rw[G i f a,v,if_neg o_,aXb];intro i u h2 d H;rw[dZ,q]at u;rw[l]at h2;have a:i≠k:=by simp at u;omega
 rw[G i h2 a];rcases eD d c with E|E;rw[F d E,aLM,I i a,h.zero _ (by split<;>simp at u<;>omega) so d E,aVx];obtain rfl:d=c:=o_;rw[v,aXb]
def aOP(n:Nat)(rows:List (List Fq))(a:O3):Nat->List Fq|0=>List.replicate n 0|j+1=>(aOP n rows a j).set (a.getD j 0) (ent rows j n)
def aOL(n:Nat)(rows:List (List Fq))(a:O3):∀j,(aOP n rows a j).length=n|0=>by simp[aOP]|j+1=>by rw[aOP,cL,aOL n rows a j]
def aWE(r:List Fq):∀n,aIE r (List.replicate n 0)=0:=by
 induction r with
 |nil=>intro n;cases n<;>simp[aIE]
 |cons a r ih=>
  intro n
  cases n with
  |zero=>simp[aIE]|succ n=>simp only[TW,aIE,ih,aLM,aOD]
def aTN(v:Fq):∀(r x:List Fq)(c:Nat),c<x.length->r.length=x.length->aIE r (x.set c v)=aIE r x+r.getD c 0*(v-x.getD c 0)
 |a::r,b::x,0,_,_=>by
  simp only[List.set_cons_zero,aIE,List.getD_cons_zero];generalize aIE r x=y;grind
 |a::r,b::x,c+1,h,d=>by
  simp only[yG,aIE,List.getD_cons_succ,aTN v r x c n_ d8];generalize aIE r x=y;generalize r.getD c 0*(v-x.getD c 0)=z;grind
 |[],_::_,_,_,h=>by simp at h|_,[],_,h,_=>by simp at h
def aSw:∀(r x:List Fq),(∀d,d<r.length->r.getD d 0=0)->aIE r x=0|[],x,_=>by simp[aIE]|a::r,[],_=>by simp[aIE]|a::r,b::x,h=>by have c:=h 0 k_;simp only[List.getD_cons_zero]at c;simp only[aIE,c,aOO,aOW];exact aSw r x λd e=>by have:=h (d+1) E_;simpa using this
def aVA{n c:Nat}{rows:List (List Fq)}{a:O3}(h:GE n c rows a){i j:Nat}(g:i<a.length)(f:j<a.length)(e:a.getD i 0=a.getD j 0):i=j:=by have d:=h.one i g i (by have:=h.rk;omega);have h2:=h.one j f i (by have:=h.rk;omega);rw[if_pos rfl,e,h2]at d;by_cases b:i=j;exact b;rw[if_neg b]at d;exact absurd d.symm aNv
def aTO{n:Nat}{rows:List (List Fq)}{a:O3}(h:GE n n rows a):∀j,j<=a.length->∀i,j<=i->i<a.length->(aOP n rows a j).getD (a.getD i 0) 0=0
 |0,_,i,_,b=>by
  have:=h.lt i b;generalize a.getD i 0=q at this⊢;simp[aOP,rH,this]
 |j+1,d,i,c,b=>by rw[aOP,aJM _ _ _ _ _ (by rw[aOL];exact h.lt j o_),if_neg (λe=>by have:=aVA h (i:=j) (j:=i) o_ b e;omega)];exact aTO h j o_ i o_ b
def aTP{n:Nat}{rows:List (List Fq)}{b:O3}(h:GE n n rows b){i:Nat}(c:i<rows.length):∀j,j<=b.length->aIE ((rows.getD i []).take n) (aOP n rows b j)=if i<j then ent rows i n else 0
 |0,_=>by rw[aOP,aWE,if_neg (by omega)]
 | j+1,k=>by
  have g:=h.len i c;have a:=h.lt j (by omega);rw[aOP,aTN _ _ _ _ (by rw[aOL];exact a) (by rw[aOL,eC];omega),aTP h c j (by omega),aTO h j (by omega) j (cN _) (by omega)];have e:∀q,q<n->((rows.getD i []).take n).getD q 0=ent rows i q:=λq f=>by rw[ent];simp only[rH,BT,f,if_true]
  rw[e _ a,h.one j (by omega) i c];by_cases d:i<j;rw[if_pos d,if_neg (by omega),if_pos (by omega),aOO,aOD];by_cases h2:i=j;subst h2;rw[if_neg (by omega),if_pos rfl,if_pos (by omega),aYr,aOW];exact Fin.one_mul _;rw[if_neg d,if_neg h2,if_neg (by omega),aOO,aOD]
def aXC{n:Nat}{rows:List (List Fq)}{a:O3}(h:GE n n rows a)(h0:∀i,a.length<=i->i<rows.length->ent rows i n=0):Sol n rows (aOP n rows a a.length):=by intro i b;unfold Sat;rw[aTP h b a.length (cN _)];by_cases c:i<a.length;rw[if_pos c];rfl;rw[if_neg c];exact(h0 i o_ b).symm
def aWF{n:Nat}{rows:List (List Fq)}{a:O3}(h:GE n n rows a){i:Nat}(f:a.length<=i)(h2:i<rows.length)(e:ent rows i n≠0)(x:List Fq):¬Sol n rows x:=by intro b;have:=b i h2;unfold Sat at this;rw[aSw _ _ λd c=>?_]at this;exact e this.symm;rw[eC]at c;have:=h.zero i f h2 d o_;rw[ent]at this;simp only[rH,BT]at this⊢;rw[if_pos o_];exact this
end Hud
namespace Hud
open Go
variable{G:L_}
def aXc(z:Fq)(n:Nat):z^n*z=z^(n+1):=m_
def aXD(a b:Fq):0-a*b=(0-a)*b:=m_
def eq1(b z:Fq)(i:Nat):List Fq:=(List.range i).map λj=>b*z^j
def eqA(a b z:Fq)(c i:Nat):List Fq:=eq1 b z c++(List.range i).map λj=>(0-a)*z^j
def eqR(a b z:Fq)(d c:Nat):List Fq:=eqL a b z d c++[eqX a b z d c]
def aWH(b z:Fq)(i:Nat):(eq1 b z i).length=i:=by simp[eq1]
def aTQ(a b z:Fq)(c i:Nat):(eqA a b z c i).length=c+i:=by simp[eqA,eq1]
def aWI(a b z:Fq)(c i:Nat):(eqR a b z c i).length=c+i+1:=by simp[eqR,eqL];omega
def aVB(b z:Fq)(i:Nat):eq1 b z (i+1)=eq1 b z i++[b*z^i]:=by simp[eq1,QH]
def aVC(a b z:Fq)(c i:Nat):eqA a b z c (i+1)=eqA a b z c i++[(0-a)*z^i]:=by simp[eqA,QH]
def aYs(a b z:Fq)(c:Nat):eqA a b z c 0=eq1 b z c:=by simp[eqA]
def aYt(a b z:Fq)(d c:Nat):eqA a b z d c=eqL a b z d c:=rfl
def aT5(a b:Fq)(k c d:Nat)(h:k<=1000)(j:c<=1000)(h2:d<=1000):aA PQ G aMd [.v (fu a),.v (fu b),iv k,iv c,iv d] [] λr T=>r=.own 0/\T=[some (.arr 1 (fl (eqR a b (zk k) c d)))]:=by
 apply aC aOS;simp only[go_sem];apply cX (aTK k h);simp only[go_sem];refine aQ c (λi=>⟨0,[(0,.v (fu a)),(1,.v (fu b)),(4,iv d),(11,.own 0),(12,.v (fu (zk k))),(13,.v (fu ((zk k)^i))),(17,iv c),(18,iv i)],[some (.arr 1 (fl (eq1 b (zk k) i)))]⟩) (λ_=>True) ?_ trivial ?_ ?_;simp only[go_sem,eq1,OH];rfl;intro i g _;have f:(i+1)*8<=140737488355328:=o_;have e:i+1<=maxLen:=g_;simp only[go_sem,aT g];apply cX (Ud b ((zk k)^i));simp only[go_sem,aWH,f,e];apply cX (Ud ((zk k)^i) (zk k));simp only[go_sem,fQ i o_,aXc,aVB];intro _;simp only[go_sem,aS (bP _)];apply cX (Ud b ((zk k)^c));simp only[go_sem];apply cX (aUT (b*(zk k)^c));simp only[go_sem];refine aQ d (λi=>⟨0,[(0,.v (fu a)),(11,.own 0),(12,.v (fu (zk k))),(13,.v (fu ((zk k)^i))),(14,.v (fu (0-b*(zk k)^c))),(34,iv d),(35,iv i)],[some (.arr 1 (fl (eqA a b (zk k) c i)))]⟩) (λ_=>True) ?_ trivial ?_ ?_;simp only[go_sem,aYs,OH];rfl;intro i g _;have f:(c+i+1)*8<=140737488355328:=o_;have e:c+i+1<=maxLen:=g_;simp only[go_sem,aT g];apply cX (Ud a ((zk k)^i));simp only[go_sem];apply cX (aUT (a*(zk k)^i));simp only[go_sem,aTQ,f,e];apply cX (Ud ((zk k)^i) (zk k));simp only[go_sem,fQ i o_,aXc,aVC,aXD];intro _;have f:(c+d+1)*8<=140737488355328:=o_;have e:c+d+1<=maxLen:=g_;simp only[go_sem,aS (bP _)];apply cX (Ud a ((zk k)^d));simp only[go_sem];apply cX (aJY (0-b*(zk k)^c) (a*(zk k)^d));simp only[go_sem,aTQ,f,e,eqR,eqX,<-aYt]
def aUu(t:Fq)(r s:List Fq)(h:r.length=s.length)(i:Nat)(a:i<r.length):((aEV t r s).take i++r.drop i).set i (r.getD i 0-t*s.getD i 0)=(aEV t r s).take (i+1)++r.drop (i+1):=by
 have b:=aP5 t r s h;rw[aBL _ _ Y_,lq8 o_,eC,Kj o_,YN,Kc a,List.set_cons_zero,lq2];have:(aEV t r s)[i]'o_=r.getD i 0-t*s.getD i 0:=by rw[<-aQS t r s h i];simp[rH,b,a]
 rw[this];rfl
def aVD(t:Fq)(r s:List Fq)(h:r.length=s.length)(i:Nat)(a:i<r.length):(fl ((aEV t r s).take i++r.drop i))[i]?=some [.v (fu (r.getD i 0))]:=by have b:=aP5 t r s h;simp only[fl,gE,Mc (Y_:((aEV t r s).take i).length<=i),eC,Kj (o_:i<=(aEV t r s).length),YN,Hw,mG,jN a,iX,rH,Mi]
def aUv(t:Fq)(r s:List Fq)(h:r.length=s.length)(i:Nat)(b:i<=r.length):((aEV t r s).take i++r.drop i).length=r.length:=by have a:=aP5 t r s h;simp only[dZ,eC,vY];omega
def aXE(r s:List Fq)(t:Fq)(h:r.length=s.length)(k:r.length<=1000000):aA PQ G aE3 [.own 0,.own 1,.v (fu t)] [some (.arr 1 (fl r)),some (.arr 1 (fl s))] λx T=>x=.tup []/\T=[some (.arr 1 (fl (aEV t r s))),some (.arr 1 (fl s))]:=by
 apply aC aPh;simp only[go_sem,aP];refine aQ r.length (λi=>⟨2,[(0,.own 0),(1,.own 1),(2,.v (fu t)),(8,iv r.length),(9,iv i)],[some (.arr 1 (fl ((aEV t r s).take i++r.drop i))),some (.arr 1 (fl s))]⟩) (λ_=>True) ?_ trivial ?_ ?_;simp only[go_sem];intro i a _;have e:=aVD t r s h i a;have d:=aLP s i o_;have c:(fl ((aEV t r s).take i++r.drop i)).length=r.length:=by simp only[fl,aP];exact aUv t r s h i o_
 have j:=aUu t r s h i a;have g:=aOZ ((aEV t r s).take i++r.drop i) i (r.getD i 0-t*s.getD i 0);generalize l:fl ((aEV t r s).take i++r.drop i)=E at *
 generalize f:fl s=S at *
 have b:S.length=s.length:=by rw[<-f];simp
 simp only[go_sem,aP,aT a,c,a,e,d,b,(o_:i<s.length)];apply cX (Ud t (s.getD i 0));simp only[go_sem,aP,aT a,c,a,e,d,b,(o_:i<s.length)];apply cX (aSd (r.getD i 0) (t*s.getD i 0));simp only[go_sem,aP,aT a,c,a,e,d,b,fQ i o_,g,j];intro _;have:(aEV t r s).take r.length++r.drop r.length=aEV t r s:=by rw[List.drop_length,jO,sG (by rw[aP5 t r s h];exact cN _)]
 simp only[go_sem,aS (bP _),this]
def aQT:∀{xs L:O3},(∀x∈xs,x∈L)->IC L xs=L|[],L,_=>rfl|x::xs,L,h=>by rw[IC,if_pos (by simpa using h x (by simp))];exact aQT λy a=>h y db
def aSx:∀(xs a L:O3),IC L (xs++a)=IC (IC L xs) a|[],_,_=>rfl|x::xs,a,L=>by rw[jC,IC,IC];split<;>exact aSx xs a _
def aQU:∀{xs L:O3},xs.Nodup->(∀x∈xs,x∉L)->IC L xs=L++xs|[],L,_,_=>by simp[IC]| x::xs,L,c,h=>by have b:=BU.1 c;rw[IC,if_neg (by simpa using h x k_),aQU b.2 λy a d=>?_];simp;rcases cG.1 d with h2|h2;exact h y db h2;rw[aE5.1 h2]at a;exact b.1 a
def aPr{T:aK}{L:O3}(h:∀x∈aC3 T L,x∈L):∀R:aK,Ee T R L=L|[]=>rfl|_::R=>by rw[Ee,aQT h];exact aPr h R
def aSy{T:aK}{ids L:O3}(h0:IC [] ids=L)(h:∀x∈aC3 T L,x∈L):Bc T ids=L:=by rw[Bc,h0,aPr h]
def aSz{ia:Nat}:∀{xs L:O3},(∀x∈xs,x∈L\/x=ia)->ia∉L->ia∈xs->IC L xs=L++[ia]
 |[],_,_,_,h=>by simp at h
 | x::xs,L,h,c,f=>by
  rw[IC];by_cases e:x=ia;subst e;rw[if_neg (by simpa using c)];exact aQT λy b=>by rcases h y (by simp[b]) with a|a<;>simp[a]
  have d:x∈L:=(h x (by simp)).resolve_right e;rw[if_pos (by simpa using d)];refine aSz (λy b=>h y (by simp[b])) c ?_;rcases cS.1 f with a|a;exact absurd a.symm e;exact a
def aQV{T:aK}{x:Nat}:∀{L:O3},x∈aC3 T L->∃i∈L,x∈aJi (cR T i)|[],h=>by simp[aC3]at h|i::L,h=>by rw[aC3]at h;rcases cG.1 h with a|a;exact⟨i,k_,a⟩;obtain⟨j,b,h2⟩:=aQV a;exact⟨j,dS,h2⟩
def aE4{n i:Nat}(h:i<n)(a:O3):TO (List.range n++a) i=some i:=by unfold TO;rw[List.idxOf?,Ad];refine⟨f_,by simp[List.getElem_append,h],λj b=>?_⟩;simp[List.getElem_append,(o_:j<n)];omega
def aJK{n ia:Nat}(h:n<=ia):TO (List.range n++[ia]) ia=some n:=by unfold TO;rw[List.idxOf?,Ad];refine⟨k_,by simp[List.getElem_append],λj a=>?_⟩;simp[List.getElem_append,(o_:j<n)];omega
def aOM:∀s:List (Nat×AV),aH8 [] s=s|[]=>rfl|(i,x)::r=>by simp[aH8,aOM r]
structure RT(T:aK)(π:List Nat)(rows:List (List Fq)):Prop where
 p0:T[0]?=some (some (.arf 1 (π.map λi=>[.own i])))
 len:π.length=rows.length
 nd:π.Nodup
 ne:∀i,i<rows.length->π.getD i 0≠0
 row:∀i,i<rows.length->T[π.getD i 0]?=some (some (.arr 1 (fl (rows.getD i []))))
 cl:∀i o,T[i]?=some (some o)->i=0\/∃es,o=.arr 1 es
def RT.pos{T:aK}{π:O3}{rows:List (List Fq)}(h:RT T π rows):0<T.length:=by have:=h.p0;rcases JX T.length with a|a;rw[sX o_]at this;simp at this;exact a
def RT.lt{T:aK}{π:O3}{rows:List (List Fq)}(h:RT T π rows){i:Nat}(b:i<rows.length):π.getD i 0<T.length:=by have:=h.row i b;rcases eD (π.getD i 0) T.length with a|a;exact a;rw[sX a]at this;simp at this
def RT.inj{T:aK}{π:O3}{rows:List (List Fq)}(h:RT T π rows){i j:Nat}(c:i<rows.length)(b:j<rows.length)(e:π.getD i 0=π.getD j 0):i=j:=by have a:=h.len;have:=(C9 (xs:=π) (h₀:=o_) (h₁:=o_) h.nd (i:=i) (j:=j)).1 (by simpa[rH,(o_:i<π.length),(o_:j<π.length)]using e);exact this
def RT.setRow{T:aK}{π:O3}{rows:List (List Fq)}(h:RT T π rows){i:Nat}(b:i<rows.length)(r:List Fq):RT (T.set (π.getD i 0) (some (.arr 1 (fl r)))) π (rows.set i r) where
 p0:=by rw[List.getElem?_set_ne (h.ne i b)];exact h.p0
 len:=by rw[cL];exact h.len
 nd:=h.nd
 ne:=λj a=>h.ne j oe
 row:=λj a=>by rw[cL]at a;rw[aJM _ _ _ _ _ b];by_cases e:i=j;subst e;rw[if_pos rfl,List.getElem?_set_self (h.lt b)];rw[if_neg e,List.getElem?_set_ne (λc=>e (h.inj b a c))];exact h.row j a
 cl:=λj o a=>by rw[Hx]at a;split at a;split at a;injection a with a;injection a with a;exact .inr ⟨_,a.symm⟩;simp at a;exact h.cl j o a
def RT.swap{T:aK}{π:O3}{rows:List (List Fq)}(h:RT T π rows){r k:Nat}(d:r<rows.length)(f:k<rows.length):RT (T.set 0 (some (.arf 1 ((iO π r k).map λi=>[.own i])))) (iO π r k) (S0 rows r k) where
 p0:=by rw[List.getElem?_set_self h.pos]
 len:=by rw[GD,aJb];exact h.len
 nd:=by have g:=h.len;exact(gW (a:=0) (b:=π.length) (pR _) o_ (pR _) o_ (cN _)).2.2.nodup_iff.2 h.nd
 ne:=λj c=>by have g:=h.len;rw[aJb]at c;rw[rU π r k o_ o_];split;exact h.ne r d;split;exact h.ne k f;exact h.ne j c
 row:=λj c=>by have g:=h.len;rw[aJb]at c;rw[aLv rows d f,rU π r k o_ o_];split;rw[List.getElem?_set_ne (Ne.symm (h.ne r d))];exact h.row r d;split;rw[List.getElem?_set_ne (Ne.symm (h.ne k f))];exact h.row k f;rw[List.getElem?_set_ne (Ne.symm (h.ne j c))];exact h.row j c
 cl:=λj o c=>by rw[Hx]at c;split at c;rename_i e;exact .inl e.symm;exact h.cl j o c
def RT.ids {T:aK} {π:O3} {rows:List (List Fq)} (h:RT T π rows) {i x:Nat} (b:x∈aJi (cR T i)):x<T.length:=by
 unfold cR at b;split at b;rename_i o a;rcases h.cl i o a with rfl|⟨f,rfl⟩
 rw[h.p0]at a;cases a;simp only[aJi]at b;have:∀l:O3,x∈aHi (l.map λi=>[AV.own i])->x∈l:=by
  intro l
  induction l with
  |nil=>intro h;simp[aHi]at h|cons y l ih=>intro h;simp only[fG,aHi,iZ,MM,jO,List.singleton_append,cS]at h;rcases h with h|h<;>simp[h,ih]
 have d:=this π b;obtain⟨j,c,e⟩:=CU d;have:=h.lt (i:=j) (by rw[<-h.len];exact c);rw[rH,jN c]at this;simp only[Mi]at this;omega;simp[aJi]at b;simp[aJi]at b
def RT.rn {T:aK} {π:O3} {rows:List (List Fq)} (h:RT T π rows) (a:O3) {i:Nat} (k:i<T.length):some ((cR T i).bind (YQ (List.range T.length++a)))=T[i]?:=by
 unfold cR
 cases e:T[i]? with
 |none=>rw[List.getElem?_eq_none_iff]at e;omega| some o=>
  cases o with
  |none=>rfl| some o=>
   rcases h.cl i o e with rfl|⟨m,rfl⟩
   rw[h.p0]at e;cases e;have c:∀l:O3,(∀x∈l,x<T.length)->XQ (List.range T.length++a) (l.map λi=>[AV.own i])=l.map λi=>[AV.own i]:=by
    intro l
    induction l with
    |nil=>intro _;rfl|cons y l ih=>intro f;simp only[fG,XQ,xF,Bd,aE4 (f y k_),ih λx d=>f x (by simp[d])]
   have b:∀x∈π,x<T.length:=λx d=>by obtain⟨j,g,e⟩:=CU d;have:=h.lt (i:=j) (by rw[<-h.len];exact g);rw[rH,jN g]at this;simp only[Mi]at this;omega
   simp only[H6,YQ,c π b];rw[if_pos];simp[gS];rfl
def aPs(d:O3)(st:St):St:=DB d st
def aTR(d:O3)[c:KC St][q:QC]:Ex->St->Prop|.normal,s=>c.k (aPs d s)|.exit i,s=>q.q (.exit i) s|.ret,s=>q.q .ret s
def aZo(d:O3)(J:St->Prop)(Q:Ex->St->Prop)(s:St):@aTR d ⟨J⟩ ⟨Q⟩ .normal s=J (aPs d s):=fI rfl rfl
def aZp(d:O3)(J:St->Prop)(Q:Ex->St->Prop)(i:Nat)(s:St):@aTR d ⟨J⟩ ⟨Q⟩ (.exit i) s=Q (.exit i) s:=fI rfl rfl
def aZq(d:O3)(J:St->Prop)(Q:Ex->St->Prop)(s:St):@aTR d ⟨J⟩ ⟨Q⟩ .ret s=Q .ret s:=fI rfl rfl
attribute [go_sem] aZo aZp aZq
def aPR{P:Program}{G:L_}{st:St}{d:O3}{a:HC}{Q:Ex->St->Prop}(I:Nat->St->Prop)(n:Nat)(h0:I n (aPs d st))(g:∀n s,I n s->@cW P G a s ⟨@aTR d ⟨λc=>∃m,m<n/\I m c⟩ ⟨Q⟩⟩):@cW P G (.loop d a) st ⟨Q⟩:=by
 refine cO I n h0 λn s f=>oN (λe s b=>?_) (g n s f)
 cases e with
 |normal=>exact b|exit i=>exact b|ret=>exact b
def aPt{R T:aK}{π:O3}{rows:List (List Fq)}{ia:Nat}{A:N_}{s d:List (Nat×AV)}(h:RT R π rows)(l:∀i,i<R.length->T[i]?=R[i]?)(hA:T[ia]?=some (some (.arr 1 A)))(k:R.length<=ia)
 (h2:∀x∈PS (gP s),x=0\/x=ia) (n:ia∈PS (gP s)) (m:Td (List.range R.length++[ia]) (gP s)=d):aPs [] ⟨R.length,s,T⟩=⟨R.length,d,R++[some (.arr 1 A)]⟩:=by
 have j:∀i,i<R.length->cR T i=cR R i:=λi a=>by unfold cR;rw[l i a]
 have f:cR T ia=some (.arr 1 A):=by unfold cR;rw[hA]
 have g:=h.pos;have b:Bc T (List.range R.length++PS (gP s))=List.range R.length++[ia]:=by refine aSy ?_ λx c=>?_;rw[aSx,aQU aBT k_,dM,aSz (λx c=>?_) f_ n];rcases h2 x c with e|e;left;simp;omega;exact .inr e;obtain⟨i,a,c⟩:=aQV c;rcases cG.1 a with a|a;rw[j i (uM.1 a)]at c;have:=h.ids c;simp[this];rw[aE5.1 a,f]at c;simp[aJi]at c
 unfold aPs DB;simp only[aOM,b,m];congr 1;unfold GX;rw[bZ];congr 1;apply EW;intro i;rw[gE];rcases eD i R.length with a|a;rw[aBQ a,iX,j i a];exact h.rn [ia] a;rw[sX oe,sX a];rfl;simp only[fG,uP,f,H6,YQ]
def aPf{R T:aK}{π:O3}{rows:List (List Fq)}{b ia:Nat}{A:N_}{s a:List (Nat×AV)}(h:RT R π rows)(d:R.length=b)(e:∀i,i<R.length->T[i]?=R[i]?)(hA:T[ia]?=some (some (.arr 1 A)))(c:b<=ia)
 (h2:∀x∈PS (gP s),x=0\/x=ia) (g:ia∈PS (gP s)) (f:Td (List.range b++[ia]) (gP s)=a):aPs [] ⟨b,s,T⟩=⟨b,a,R++[some (.arr 1 A)]⟩:=by
 subst d;exact aPt h e hA c h2 g f
def aOQ(v:Fq)(r:List Fq)(i:Nat):List Fq:=(r.map (· * v)).take i++r.drop i
def aWJ(v:Fq)(r:List Fq)(i:Nat)(a:i<=r.length):(aOQ v r i).length=r.length:=by simp only[aOQ,dZ,eC,aP,vY];omega
def aYu(v:Fq)(r:List Fq):aOQ v r 0=r:=by simp[aOQ]
def aWK(v:Fq)(r:List Fq):aOQ v r r.length=r.map (· * v):=by rw[aOQ,List.drop_length,jO,sG k_]
def aWL(v:Fq)(r:List Fq)(i:Nat)(a:i<r.length):(fl (aOQ v r i))[i]?=some [.v (fu (r.getD i 0))]:=by simp only[fl,aOQ,gE,Mc (Y_:((r.map (· * v)).take i).length<=i),eC,aP,Kj (o_:i<=r.length),YN,Hw,mG,jN a,iX,rH,Mi]
def aWM(v:Fq)(r:List Fq)(i:Nat)(c:i<r.length):(fl (aOQ v r i)).set i [.v (fu (r.getD i 0*v))]=fl (aOQ v r (i+1)):=by
 rw[aOZ];congr 1;unfold aOQ;have b:(r.map (· * v))[i]?=some (r.getD i 0*v):=by simp[rH,c]
 have d:(r.map (· * v)).length=r.length:=k_;generalize r.map (· * v)=M at b d;have a:M[i]'o_=r.getD i 0*v:=by rw[jN o_]at b;exact Option.some.inj b
 rw[aBL _ _ Y_,lq8 o_,eC,Kj o_,YN,Kc c,List.set_cons_zero,lq2,a];rfl
def aWN{a b:Nat}(h:a≠b)(v:Value):xF [a,b] [.own a,.own b,.v v]=[.own 0,.own 1,.v v]:=by simp[xF,Bd,TO,List.idxOf?_cons,h]
def aRd(L:List (List Fq))(k:Nat)(h:k<L.length):L.set k (L.getD k [])=L:=by rw[rH,jN h,Mi,List.set_getElem_self]
abbrev il(l:List Nat):List (List AV):=l.map λc=>[.v (.int .i64 ((c:Nat):Int))]
abbrev sv(a n c:Nat)(R:aK)(b:List Nat):St:=⟨a,[(0,.own 0),(1,.v (.int .i64 (n:Int))),(6,.cl aE3 []),(7,.own a),(21,.v (.int .i64 (n:Int))),(22,.v (.int .i64 (c:Int)))],R++[some (.arr 1 (il b))]⟩
def aUw(n:Nat)(rows:List (List Fq))(r:AV)(T:aK):Prop:=(∃(a:List Fq)(i:Nat),a.length=n/\Sol n rows a/\r=.tup [.own i,.v (.bool true)]/\T[i]?=some (some (.arr 1 (fl a))))\/∃i:Nat,(∀x,¬Sol n rows x)/\r=.tup [.own i,.v (.bool false)]/\T[i]?=some (some (.arr 1 []))
def aWO (n:Nat) (rows0:List (List Fq)) (π0:O3) (R0:aK) (hR0:RT R0 π0 rows0) (hl0:∀i,i<rows0.length->(rows0.getD i []).length=n+1) (hn:n<=1000) (hm:rows0.length<=1000):aA PQ G aMe [.own 0,.v (.int .i64 (n:Int))] R0 (aUw n rows0):=by
 refine fT aPv ?_;have m1:(n:Int)*8<=140737488355328:=by omega
 have m2:(n:Int)<=(maxLen:Int):=by unfold maxLen;omega
 simp only[go_sem,m1,m2];refine aPR (λm s=>∃(c:Nat)(R:aK)(π:O3)(rows:List (List Fq))(pv:O3),m=n-c/\RT R π rows/\R.length=R0.length/\rows.length=rows0.length/\GE n c rows pv/\(∀x,Sol n rows x↔Sol n rows0 x)/\s=sv R0.length n c R pv) n ⟨0,R0,π0,rows0,[],rfl,hR0,rfl,rfl,aWB hl0,λ_=>Iff.rfl,?_⟩ ?_;exact aPt hR0 (λi hi=>mY hi) (by rw[List.getElem?_concat_length];rfl) (cN _) (by simp[gP,LG,PS,MM,iZ]) (by simp[gP,LG,PS,MM,iZ]) (by simp[gP,LG,Td,Bd,xF,aE4 hR0.pos,aJK (cN _)]);rintro m s ⟨c,R,π,rows,pv,rfl,hR,hRl,hrl,hG,hS,rfl⟩;rw[<-hRl];have hpos:=hR.pos;have q0:(R++[some (.arr 1 (il pv))])[0]?=some (some (.arf 1 (π.map λi=>[.own i]))):=by rw[mY hpos];exact hR.p0
 have qa:(R++[some (.arr 1 (il pv))])[R.length]?=some (some (.arr 1 (il pv))):=List.getElem?_concat_length;have hπl:=hR.len;have hrk:=hG.rk;by_cases hcn:c<n;simp only[go_sem,aT hcn,qa,aP];refine aPR (λm s=>∃r:Nat,m=rows.length-r/\pv.length<=r/\r<=rows.length/\(∀i,pv.length<=i->i<r->ent rows i c=0)/\s=⟨R.length,[(0,.own 0),(1,.v (.int .i64 (n:Int))),(6,.cl aE3 []),(7,.own R.length),(8,.v (.int .i64 (c:Int))),(9,.v (.int .i64 (r:Int))),(21,.v (.int .i64 (n:Int))),(22,.v (.int .i64 (c:Int)))],R++[some (.arr 1 (il pv))]⟩) (rows.length-pv.length) ⟨pv.length,rfl,cN _,hrk,λi h1 h2=>absurd h2 (by omega),?_⟩ ?_;exact aPt hR (λi hi=>mY hi) qa (cN _) (by simp[gP,LG,PS,MM,iZ]) (by simp[gP,LG,PS,MM,iZ]) (by simp[gP,LG,Td,Bd,xF,aE4 hpos,aJK (cN _)]);rintro m s ⟨r,rfl,hr1,hr2,hz,rfl⟩;by_cases hrr:r<rows.length;have e1:(π.map λi=>[AV.own i])[r]?=some [.own (π.getD r 0)]:=by simp[rH,show r<π.length by omega]
 have e2:(R++[some (.arr 1 (il pv))])[π.getD r 0]?=some (some (.arr 1 (fl (rows.getD r [])))):=by rw[mY (hR.lt hrr)];exact hR.row r hrr
 have hlr:=hG.len r hrr;have e3:=aLP (rows.getD r []) c (by omega);have e4:(fl (rows.getD r [])).length=n+1:=by rw[fl,aP];exact hlr
 have e5:c<n+1:=by omega
 simp only[go_sem,q0,aP,hπl,aT hrr,hrr,e1,e2,e3,e4,e5];refine aL (λh=>?_) (λh=>?_);have h0:ent rows r c=0:=Fin.ext (by have:=eq_of_beq h;show((rows.getD r []).getD c 0).val=0;omega);simp only[go_sem,fQ r (by omega)];refine⟨rows.length-(r+1),by omega,r+1,rfl,by omega,by omega,λi h1 h2=>?_,?_⟩;rcases eD i r with h3|h3;exact hz i h1 h3;obtain rfl:i=r:=by omega
 exact h0;exact aPt hR (λi hi=>mY hi) qa (cN _) (by simp[gP,LG,PS,MM,iZ]) (by simp[gP,LG,PS,MM,iZ]) (by simp[gP,LG,Td,Bd,xF,aE4 hpos,aJK (cN _)]);have hne:ent rows r c≠0:=λe=>by have e:(rows.getD r []).getD c 0=0:=e;rw[e]at h;simp at h
 have hk:pv.length<rows.length:=by omega
 have e6:(π.map λi=>[AV.own i])[pv.length]?=some [.own (π.getD pv.length 0)]:=by simp[rH,show pv.length<π.length by omega]
 have q0s:∀o,((R++[some (AObj.arr 1 (il pv))]).set 0 o)[0]?=some o:=λo=>List.getElem?_set_self (by simp);have e7:((π.map λi=>[AV.own i]).set r [AV.own (π.getD pv.length 0)]).set pv.length [AV.own (π.getD r 0)]=(iO π r pv.length).map λi=>[AV.own i]:=by simp only[iO,Ba]
 have hR1:=hR.swap hrr hk;have e8:(R++[some (AObj.arr 1 (il pv))]).set 0 (some (.arf 1 ((iO π r pv.length).map λi=>[AV.own i])))=R.set 0 (some (.arf 1 ((iO π r pv.length).map λi=>[AV.own i])))++[some (AObj.arr 1 (il pv))]:=List.set_append_left _ _ hpos;have hR1l:(R.set 0 (some (.arf 1 ((iO π r pv.length).map λi=>[AV.own i])))).length=R.length:=cL;generalize hRR:R.set 0 (some (.arf 1 ((iO π r pv.length).map λi=>[AV.own i])))=R1 at hR1 e8 hR1l;generalize hπ1:iO π r pv.length=π1 at hR1 e7 e8;have hk1:pv.length<(S0 rows r pv.length).length:=by rw[aJb];exact hk
 have hπ1l:=hR1.len;rw[aJb]at hπ1l;have p0:(R1++[some (AObj.arr 1 (il pv))])[0]?=some (some (.arf 1 (π1.map λi=>[.own i]))):=by rw[mY hR1.pos];exact hR1.p0
 have e9:(π1.map λi=>[AV.own i])[pv.length]?=some [.own (π1.getD pv.length 0)]:=by simp[rH,show pv.length<π1.length by omega]
 have e10:(R1++[some (AObj.arr 1 (il pv))])[π1.getD pv.length 0]?=some (some (.arr 1 (fl ((S0 rows r pv.length).getD pv.length [])))):=by rw[mY (hR1.lt hk1)];exact hR1.row _ hk1
 have e11:(S0 rows r pv.length).getD pv.length []=rows.getD r []:=by rw[aLv rows hrr hk,if_pos rfl]
 rw[e11]at e10;obtain⟨y,e12⟩:∃y,((π.map λi=>[AV.own i]).set r [AV.own (π.getD pv.length 0)])[pv.length]?=some [y]:=by rw[Hx];split;exact⟨AV.own (π.getD pv.length 0),by rw[if_pos (by simp;omega)]⟩;exact⟨_,e6⟩
 simp only[go_sem,qa,q0,aP,hπl,hrr,hk,e1,e6,e12,q0s,List.set_set,e7,e8,p0,hπ1l,e9,e10,e3,e4,e5];refine cX (aTp ((rows.getD r []).getD c 0)) ?_;simp only[go_sem,aP,p0,hπ1l,hk,e9,e10,e4];have hrl1:(rows.getD r []).length=n+1:=hlr;refine aPR (λm s=>∃(i:Nat)(R2:aK),m=n+1-i/\i<=n+1/\RT R2 π1 ((S0 rows r pv.length).set pv.length (aOQ (inv ((rows.getD r []).getD c 0)) (rows.getD r []) i))/\R2.length=R.length/\s=⟨R.length,[(0,.own 0),(1,.v (.int .i64 (n:Int))),(6,.cl aE3 []),(7,.own R.length),(8,.v (.int .i64 (c:Int))),(10,.v (.int .i64 (pv.length:Int))),(11,.v (fu (inv ((rows.getD r []).getD c 0)))),(21,.v (.int .i64 (n:Int))),(22,.v (.int .i64 (c:Int))),(69,.v (.int .i64 ((n+1:Nat):Int))),(70,.v (.int .i64 (i:Int)))],R2++[some (.arr 1 (il pv))]⟩) (n+1) ⟨0,R1,by omega,by omega,?_,hR1l,?_⟩ ?_;rw[aYu];have:(S0 rows r pv.length).set pv.length (rows.getD r [])=S0 rows r pv.length:=by unfold S0;rw[List.set_set]
 rw[this];exact hR1;exact aPf hR1 hR1l (λi hi=>mY hi) (by rw[<-hR1l];exact List.getElem?_concat_length) (cN _) (by simp[gP,LG,PS,MM,iZ]) (by simp[gP,LG,PS,MM,iZ]) (by simp[gP,LG,Td,Bd,xF,aE4 hpos,aJK (cN _)]);rintro m s ⟨i,R2,rfl,hi,hR2,hR2l,rfl⟩;have hk2:pv.length<((S0 rows r pv.length).set pv.length (aOQ (inv ((rows.getD r []).getD c 0)) (rows.getD r []) i)).length:=by rw[cL];exact hk1
 have f0:(R2++[some (AObj.arr 1 (il pv))])[0]?=some (some (.arf 1 (π1.map λi=>[.own i]))):=by rw[mY hR2.pos];exact hR2.p0
 have f1:(R2++[some (AObj.arr 1 (il pv))])[π1.getD pv.length 0]?=some (some (.arr 1 (fl (aOQ (inv ((rows.getD r []).getD c 0)) (rows.getD r []) i)))):=by rw[mY (hR2.lt hk2),hR2.row _ hk2,aJM _ _ _ _ _ hk1,if_pos rfl]
 have f2:(fl (aOQ (inv ((rows.getD r []).getD c 0)) (rows.getD r []) i)).length=n+1:=by rw[fl,aP,aWJ _ _ _ (by omega)];exact hlr
 by_cases hin:i<n+1;have f3:=aWL (inv ((rows.getD r []).getD c 0)) (rows.getD r []) i (by omega);have f4:=aWM (inv ((rows.getD r []).getD c 0)) (rows.getD r []) i (by omega);simp only[go_sem,aT hin,hin,aP,f0,hπ1l,hk,e9,f1,f2,f3];refine cX (Ud ((rows.getD r []).getD i 0) (inv ((rows.getD r []).getD c 0))) ?_;have f5:∀o,(R2++[some (AObj.arr 1 (il pv))]).set (π1.getD pv.length 0) o=R2.set (π1.getD pv.length 0) o++[some (AObj.arr 1 (il pv))]:=λo=>List.set_append_left _ _ (hR2.lt hk2);simp only[go_sem,aT hin,hin,aP,f0,hπ1l,hk,e9,f1,f2,f3,f4,f5,fQ i (by omega)];have hR3:=hR2.setRow hk2 (aOQ (inv ((rows.getD r []).getD c 0)) (rows.getD r []) (i+1));rw[List.set_set]at hR3;have hl3:(R2.set (π1.getD pv.length 0) (some (.arr 1 (fl (aOQ (inv ((rows.getD r []).getD c 0)) (rows.getD r []) (i+1)))))).length=R.length:=by rw[cL];exact hR2l
 refine⟨n+1-(i+1),by omega,i+1,_,rfl,by omega,hR3,hl3,?_⟩;exact aPf hR3 hl3 (λi hi=>mY hi) (by rw[<-hl3];exact List.getElem?_concat_length) (cN _) (by simp[gP,LG,PS,MM,iZ]) (by simp[gP,LG,PS,MM,iZ]) (by simp[gP,LG,Td,Bd,xF,aE4 hpos,aJK (cN _)]);obtain rfl:i=n+1:=by omega
 simp only[go_sem,aS hin,aP,f0,hπ1l];have g0:(S0 rows r pv.length).set pv.length (aOQ (inv ((rows.getD r []).getD c 0)) (rows.getD r []) (n+1))=aH5 (S0 rows r pv.length) pv.length (inv (ent (S0 rows r pv.length) pv.length c)):=by rw[aH5,ent,e11,<-hlr,aWK]
 rw[g0]at hR2;have hrow2l:(aH5 (S0 rows r pv.length) pv.length (inv (ent (S0 rows r pv.length) pv.length c))).length=rows.length:=by rw[aH5,cL,aJb]
 have hrow2:∀j,j<rows.length->((aH5 (S0 rows r pv.length) pv.length (inv (ent (S0 rows r pv.length) pv.length c))).getD j []).length=n+1:=λj hj=>by rw[aH5,aJM _ _ _ _ _ hk1];split;rw[aP,e11];exact hlr;rw[aLv rows hrr hk];exact hG.len _ (by split;exact hrr;split;exact hk;exact hj)
 have hstep:W2 (aH5 (S0 rows r pv.length) pv.length (inv (ent (S0 rows r pv.length) pv.length c))) pv.length c rows.length=aP7 rows r pv.length c:=rfl;generalize aH5 (S0 rows r pv.length) pv.length (inv (ent (S0 rows r pv.length) pv.length c))=rows2 at hR2 hrow2l hrow2 hstep;refine aPR (λm s=>∃(i:Nat)(R3:aK),m=rows.length-i/\i<=rows.length/\RT R3 π1 (W2 rows2 pv.length c i)/\R3.length=R.length/\s=⟨R.length,[(0,.own 0),(1,.v (.int .i64 (n:Int))),(6,.cl aE3 []),(7,.own R.length),(8,.v (.int .i64 (c:Int))),(10,.v (.int .i64 (pv.length:Int))),(21,.v (.int .i64 (n:Int))),(22,.v (.int .i64 (c:Int))),(90,.v (.int .i64 (rows.length:Int))),(91,.v (.int .i64 (i:Int)))],R3++[some (.arr 1 (il pv))]⟩) rows.length ⟨0,R2,by omega,by omega,hR2,hR2l,?_⟩ ?_;exact aPf hR2 hR2l (λi hi=>mY hi) (by rw[<-hR2l];exact List.getElem?_concat_length) (cN _) (by simp[gP,LG,PS,MM,iZ]) (by simp[gP,LG,PS,MM,iZ]) (by simp[gP,LG,Td,Bd,xF,aE4 hpos,aJK (cN _)]);clear hR2 hR2l f0 f1 f2;rintro m s ⟨i,R3,rfl,hi,hR3,hR3l,rfl⟩;have hel:=aP6 rows2 pv.length c i;have f0:(R3++[some (AObj.arr 1 (il pv))])[0]?=some (some (.arf 1 (π1.map λi=>[.own i]))):=by rw[mY hR3.pos];exact hR3.p0
 by_cases him:i<rows.length;by_cases hik:i=pv.length;have g1:((i:Int)!=(pv.length:Int))=false:=by simp[hik]
 simp only[go_sem,aT him,g1,fQ i (by omega)];refine⟨rows.length-(i+1),by omega,i+1,R3,rfl,by omega,?_,hR3l,?_⟩;rw[W2,if_pos hik];exact hR3;exact aPf hR3 hR3l (λi hi=>mY hi) (by rw[<-hR3l];exact List.getElem?_concat_length) (cN _) (by simp[gP,LG,PS,MM,iZ]) (by simp[gP,LG,PS,MM,iZ]) (by simp[gP,LG,Td,Bd,xF,aE4 hpos,aJK (cN _)]);have g1:((i:Int)!=(pv.length:Int))=true:=by simp;omega
 have hi3:i<(W2 rows2 pv.length c i).length:=by omega
 have hk3:pv.length<(W2 rows2 pv.length c i).length:=by omega
 have hget:=aPF rows2 (c:=c) (n:=n) (k:=pv.length) (by omega) (by rw[hrow2l];exact hrow2) i (by omega);have li:((W2 rows2 pv.length c i).getD i []).length=n+1:=by rw[hget,if_neg (by omega)];exact hrow2 i him
 have lk:((W2 rows2 pv.length c i).getD pv.length []).length=n+1:=by rw[hget,if_neg (by omega)];exact hrow2 _ hk
 have a1:(π1.map λi=>[AV.own i])[i]?=some [.own (π1.getD i 0)]:=by simp[rH,show i<π1.length by omega]
 have a2:(R3++[some (AObj.arr 1 (il pv))])[π1.getD i 0]?=some (some (.arr 1 (fl ((W2 rows2 pv.length c i).getD i [])))):=by rw[mY (hR3.lt hi3)];exact hR3.row _ hi3
 have a3:(R3++[some (AObj.arr 1 (il pv))])[π1.getD pv.length 0]?=some (some (.arr 1 (fl ((W2 rows2 pv.length c i).getD pv.length [])))):=by rw[mY (hR3.lt hk3)];exact hR3.row _ hk3
 have a4:=aLP ((W2 rows2 pv.length c i).getD i []) c (by omega);have a5:(fl ((W2 rows2 pv.length c i).getD i [])).length=n+1:=by rw[fl,aP];exact li
 have hne2:π1.getD i 0≠π1.getD pv.length 0:=λe=>hik (hR3.inj hi3 hk3 e);simp only[go_sem,aT him,him,g1,aP,f0,hπ1l,hk,e9,a1,a2,a4,a5,e5];refine aG [π1.getD i 0,π1.getD pv.length 0] (aB _) (by simpa using hne2) (λx hx=>?_) (args2:=[.own 0,.own 1,.v (fu (((W2 rows2 pv.length c i).getD i []).getD c 0))]) ?_ (T2:=[some (.arr 1 (fl ((W2 rows2 pv.length c i).getD i []))),some (.arr 1 (fl ((W2 rows2 pv.length c i).getD pv.length [])))]) ?_ (aXE _ _ (((W2 rows2 pv.length c i).getD i []).getD c 0) (by rw[li,lk]) (by omega)) ?_;rw[dZ];rcases cS.1 hx with rfl|hx;exact Nat.lt_add_right _ (hR3.lt hi3);rw[aE5.1 hx];exact Nat.lt_add_right _ (hR3.lt hk3);exact aWN hne2 _;simp only[GX,fG,uP,cR,a2,a3,YQ,H6];rintro x T' ⟨rfl,rfl⟩;have f6:∀o,(R3++[some (AObj.arr 1 (il pv))]).set (π1.getD i 0) o=R3.set (π1.getD i 0) o++[some (AObj.arr 1 (il pv))]:=λo=>List.set_append_left _ _ (hR3.lt hi3);have f7:∀o o',(R3.set (π1.getD i 0) o++[some (AObj.arr 1 (il pv))]).set (π1.getD pv.length 0) o'=(R3.set (π1.getD i 0) o).set (π1.getD pv.length 0) o'++[some (AObj.arr 1 (il pv))]:=λo o'=>List.set_append_left _ _ (by rw[cL];exact hR3.lt hk3);simp only[go_sem,f6,f7,fQ i (by omega)];have hR4:=(hR3.setRow hi3 (aEV (((W2 rows2 pv.length c i).getD i []).getD c 0) ((W2 rows2 pv.length c i).getD i []) ((W2 rows2 pv.length c i).getD pv.length []))).setRow (i:=pv.length) (by rw[cL];exact hk3) ((W2 rows2 pv.length c i).getD pv.length []);have hsame:((W2 rows2 pv.length c i).set i (aEV (((W2 rows2 pv.length c i).getD i []).getD c 0) ((W2 rows2 pv.length c i).getD i []) ((W2 rows2 pv.length c i).getD pv.length []))).set pv.length ((W2 rows2 pv.length c i).getD pv.length [])=W2 rows2 pv.length c (i+1):=by have e20:=aRd ((W2 rows2 pv.length c i).set i (aEV (((W2 rows2 pv.length c i).getD i []).getD c 0) ((W2 rows2 pv.length c i).getD i []) ((W2 rows2 pv.length c i).getD pv.length []))) pv.length (by rw[cL];exact hk3);rw[aJM _ _ _ _ _ hi3,if_neg hik]at e20;rw[e20,W2,if_neg hik];rfl
 rw[hsame]at hR4;have hl4:((R3.set (π1.getD i 0) (some (.arr 1 (fl (aEV (((W2 rows2 pv.length c i).getD i []).getD c 0) ((W2 rows2 pv.length c i).getD i []) ((W2 rows2 pv.length c i).getD pv.length [])))))).set (π1.getD pv.length 0) (some (.arr 1 (fl ((W2 rows2 pv.length c i).getD pv.length []))))).length=R.length:=by rw[cL,cL];exact hR3l
 refine⟨rows.length-(i+1),by omega,i+1,_,rfl,by omega,hR4,hl4,?_⟩;exact aPf hR4 hl4 (λi hi=>mY hi) (by rw[<-hl4];exact List.getElem?_concat_length) (cN _) (by simp[gP,LG,PS,MM,iZ]) (by simp[gP,LG,PS,MM,iZ]) (by simp[gP,LG,Td,Bd,xF,aE4 hpos,aJK (cN _)]);obtain rfl:i=rows.length:=by omega
 have b1:(R3++[some (AObj.arr 1 (il pv))]++[some (AObj.arr 1 [[AV.v (.int .i64 (c:Int))]])])[R.length+1]?=some (some (AObj.arr 1 [[AV.v (.int .i64 (c:Int))]])):=by
  have:(R3++[some (AObj.arr 1 (il pv))]).length=R.length+1:=by rw[dZ,hR3l];rfl
  rw[<-this];exact List.getElem?_concat_length
 have b2:(R3++[some (AObj.arr 1 (il pv))]++[some (AObj.arr 1 [[AV.v (.int .i64 (c:Int))]])])[R.length]?=some (some (AObj.arr 1 (il pv))):=by rw[mY (by rw[dZ,hR3l];simp),<-hR3l];exact List.getElem?_concat_length
 have b3:(pv.length+1)*8<=140737488355328:=by omega
 have b4:pv.length+1<=maxLen:=by unfold maxLen;omega
 simp only[go_sem,aS him,hR3l,b1,b2,aP,b3,b4,fQ c (by omega)];obtain⟨s1,s2,s3⟩:=aWD hG hcn hr1 hrr hne;rw[hstep]at hR3;refine⟨n-(c+1),by omega,c+1,R3,π1,_,pv++[c],rfl,hR3,hR3l,by rw[s2];exact hrl,s1,λx=>(s3 x).trans (hS x),?_⟩;have b5:il (pv++[c])=il pv++[[.v (.int .i64 (c:Int))]]:=by simp[il]
 refine(aPf (ia:=R.length+1+1) (A:=il (pv++[c])) hR3 hR3l (λi hi=>?_) ?_ (by omega) (by simp[gP,LG,PS,MM,iZ]) (by simp[gP,LG,PS,MM,iZ]) (by simp[gP,LG,Td,Bd,xF,aE4 hpos,aJK (show R.length<=R.length+1+1 by omega)]));rw[mY (by rw[cL,dZ,dZ];omega),List.getElem?_set_ne (by omega),mY (by rw[dZ];omega),mY hi];have:(((R3++[some (AObj.arr 1 (il pv))]++[some (AObj.arr 1 [[AV.v (.int .i64 (c:Int))]])]).set R.length none)).length=R.length+1+1:=by rw[cL,dZ,dZ,hR3l];rfl
 rw[<-this,b5];exact List.getElem?_concat_length;simp only[go_sem,q0,aP,hπl,aS hrr,fQ c (by omega)];obtain rfl:r=rows.length:=by omega
 refine⟨n-(c+1),by omega,c+1,R,π,rows,pv,rfl,hR,rfl,hrl,aWC hG hcn hz,hS,?_⟩;exact aPt hR (λi hi=>mY hi) qa (cN _) (by simp[gP,LG,PS,MM,iZ]) (by simp[gP,LG,PS,MM,iZ]) (by simp[gP,LG,Td,Bd,xF,aE4 hpos,aJK (cN _)]);obtain rfl:c=n:=by have:=hG.cn;omega
 have c1:pv.length+(rows.length-pv.length)<=rows.length:=by omega
 simp only[go_sem,aS hcn,qa,q0,aP,hπl,hrk];refine aPR (λm s=>∃i:Nat,m=rows.length-pv.length-i/\i<=rows.length-pv.length/\(∀j,pv.length<=j->j<pv.length+i->ent rows j c=0)/\s=⟨R.length,[(0,.own 0),(1,.v (.int .i64 (c:Int))),(7,.own R.length),(123,.vw 0 1 pv.length (rows.length-pv.length)),(124,.v (.int .i64 ((rows.length-pv.length:Nat):Int))),(125,.v (.int .i64 (i:Int)))],R++[some (.arr 1 (il pv))]⟩) (rows.length-pv.length) ⟨0,by omega,by omega,λj h1 h2=>absurd h2 (by omega),?_⟩ ?_;exact aPt hR (λi hi=>mY hi) qa (cN _) (by simp[gP,LG,PS,MM,iZ]) (by simp[gP,LG,PS,MM,iZ]) (by simp[gP,LG,Td,Bd,xF,aE4 hpos,aJK (cN _)]);rintro m s ⟨i,rfl,hi,hz,rfl⟩;by_cases him:i<rows.length-pv.length;have hk:pv.length+i<rows.length:=by omega
 have e1:(π.map λi=>[AV.own i])[pv.length+i]?=some [.own (π.getD (pv.length+i) 0)]:=by simp[rH,show pv.length+i<π.length by omega]
 have e2:(R++[some (.arr 1 (il pv))])[π.getD (pv.length+i) 0]?=some (some (.arr 1 (fl (rows.getD (pv.length+i) [])))):=by rw[mY (hR.lt hk)];exact hR.row _ hk
 have hlr:=hG.len _ hk;have e3:=aLP (rows.getD (pv.length+i) []) c (by omega);have e4:(fl (rows.getD (pv.length+i) [])).length=c+1:=by rw[fl,aP];exact hlr
 simp only[go_sem,aT him,him,q0,aP,e1,e2,e3,e4,Nat.lt_add_one];refine aL (λh=>?_) (λh=>?_);simp only[go_sem];refine .inr ⟨R.length+1,λx hx=>?_,rfl,?_⟩;refine aWF hG (i:=pv.length+i) (by omega) hk (λe=>?_) x ((hS x).2 hx);have e:(rows.getD (pv.length+i) []).getD c 0=0:=e;rw[e]at h;simp at h;have:(R++[some (AObj.arr 1 (il pv))]).length=R.length+1:=by rw[dZ];rfl
 rw[<-this];exact List.getElem?_concat_length;simp only[go_sem,fQ i (by omega)];refine⟨rows.length-pv.length-(i+1),by omega,i+1,rfl,by omega,λj h1 h2=>?_,?_⟩;rcases eD j (pv.length+i) with h3|h3;exact hz j h1 h3;obtain rfl:j=pv.length+i:=by omega
 refine Fin.ext ?_;show((rows.getD (pv.length+i) []).getD c 0).val=0;have h:((((rows.getD (pv.length+i) []).getD c 0).val:Int)!=0)=false:=h;simp only[bne_eq_false_iff_eq]at h;omega;exact aPt hR (λi hi=>mY hi) qa (cN _) (by simp[gP,LG,PS,MM,iZ]) (by simp[gP,LG,PS,MM,iZ]) (by simp[gP,LG,Td,Bd,xF,aE4 hpos,aJK (cN _)]);obtain rfl:i=rows.length-pv.length:=by omega
 have h0:∀j,pv.length<=j->j<rows.length->ent rows j c=0:=λj h1 h2=>hz j h1 (by omega);have z0:List.replicate c [AV.v (.int .u64 0)]=fl (aOP c rows pv 0):=by rw[aPO];rfl
 have ll:(R++[some (AObj.arr 1 (il pv))]).length=R.length+1:=by rw[dZ];rfl
 have d0:∀X,(R++[some (AObj.arr 1 (il pv))]++X)[0]?=some (some (.arf 1 (π.map λi=>[.own i]))):=λX=>by rw[mY (by omega)];exact q0
 have da:∀X,(R++[some (AObj.arr 1 (il pv))]++X)[R.length]?=some (some (.arr 1 (il pv))):=λX=>by rw[mY (by omega)];exact qa
 have do_:∀o,(R++[some (AObj.arr 1 (il pv))]++[o])[R.length+1]?=some o:=λo=>by rw[<-ll];exact List.getElem?_concat_length
 simp only[go_sem,aS him,qa,aP,m1,m2,Int.le_refl,z0,da];refine kL (λm s=>∃i:Nat,m=pv.length-i/\i<=pv.length/\s=⟨R.length,[(139,.v (.int .i64 (i:Int))),(138,.v (.int .i64 (pv.length:Int))),(137,.own R.length),(16,.own (R.length+1)),(0,.own 0),(1,.v (.int .i64 (c:Int)))],R++[some (.arr 1 (il pv))]++[some (.arr 1 (fl (aOP c rows pv i)))]⟩) pv.length ⟨0,by omega,by omega,?_⟩ ?_;simp only[go_sem];rintro m s ⟨i,rfl,hi,rfl⟩;by_cases him:i<pv.length;have hk:i<rows.length:=by omega
 have e0:(il pv)[i]?=some [.v (.int .i64 ((pv.getD i 0:Nat):Int))]:=by simp[il,rH,him]
 have e1:(π.map λi=>[AV.own i])[i]?=some [.own (π.getD i 0)]:=by simp[rH,show i<π.length by omega]
 have e2:∀X,(R++[some (AObj.arr 1 (il pv))]++X)[π.getD i 0]?=some (some (.arr 1 (fl (rows.getD i [])))):=λX=>by have:=hR.lt hk;rw[mY (by omega),mY this];exact hR.row _ hk
 have hlr:=hG.len _ hk;have e3:=aLP (rows.getD i []) c (by omega);have e4:(fl (rows.getD i [])).length=c+1:=by rw[fl,aP];exact hlr
 have hlt:=hG.lt i him;have e5:(fl (aOP c rows pv i)).length=c:=by rw[fl,aP,aOL]
 have e6:(fl (aOP c rows pv i))[pv.getD i 0]?=some [.v (fu ((aOP c rows pv i).getD (pv.getD i 0) 0))]:=aLP _ _ (by rw[aOL];exact hlt);have e7:(fl (aOP c rows pv i)).set (pv.getD i 0) [.v (fu ((rows.getD i []).getD c 0))]=fl (aOP c rows pv (i+1)):=by rw[aOZ];rfl
 have e8:∀a o,(R++[some (AObj.arr 1 (il pv))]++[a]).set (R.length+1) o=R++[some (AObj.arr 1 (il pv))]++[o]:=λa o=>by rw[<-ll,aBL _ _ (cN _),YN];rfl
 simp only[go_sem,aT him,him,aP,d0,da,do_,hπl,hk,e0,e1,e2,e3,e4,e5,e6,e7,e8,hlt,Nat.lt_add_one,fQ i (by omega)];exact⟨pv.length-(i+1),by omega,i+1,rfl,by omega,rfl⟩;obtain rfl:i=pv.length:=by omega
 simp only[go_sem,aS him];exact .inl ⟨_,R.length+1,aOL _ _ _ _,(hS _).1 (aXC hG h0),rfl,do_ _⟩
def aPS:∀{M L:List Fq},M.Nodup->(∀y∈M,y∈L)->M.length<=L.length|[],_,_,_=>pR _|y::M,L,c,h=>by obtain⟨d,h2⟩:=BU.1 c;have b:=h y k_;have:=aPS (L:=L.erase y) h2 λz a=>(List.mem_erase_of_ne (λe:z=y=>d (by rw[<-e];exact a))).2 (h z db);rw[List.length_erase_of_mem b]at this;have:=List.length_pos_of_mem b;simp;omega
def aVE(n:Nat)(rows:List (List Fq))(r:AV)(_:aK):Prop:=(∃a:List Fq,a.length=n/\Sol n rows a/\r=.tup [.ls 1 (fl a),.v (.bool true)])\/((∀x,¬Sol n rows x)/\r=.tup [.ls 1 [],.v (.bool false)])
def aA.finAt{P:Program}{f:FuncId}{args:O0}{T:aK}{p q:AV->aK->Prop}(x:aA P G f args T p)(u:∀r c,p r c->∃I,aJQ T.length I q r c):aA P G f args T q:=by
 intro h k w g s hI hA;have i:∀{v d},CS h k T w p v d->CS h k T w q v d:=λ⟨r,c,y,j,n,m,A,z⟩=>by obtain⟨I,l⟩:=u r c n;exact CS.fin P s I (p:=λo t=>o=r/\t=c) (λo t ⟨a,b⟩=>by rw[a,b];exact l) ⟨r,c,y,j,⟨rfl,rfl⟩,m,A,z⟩
 rcases x h k w g s hI hA with⟨a,b⟩|⟨v,d,a,b⟩
 exact .inl ⟨a,b.mono λe d ⟨v,n,m⟩=>⟨v,n,i m⟩⟩;exact .inr ⟨v,d,a,i b⟩
def aVF(n:Nat)(a:List (List Fq))(π0:O3)(R0:aK)(g:RT R0 π0 a)(f:∀i,i<a.length->(a.getD i []).length=n+1)(k:n<=1000)(l:a.length<=1000):aA PQ G aMe [.own 0,iv n] R0 (aVE n a):=by
 have d:∀(i:Nat)(b:Bool)(es:N_)(c:aK),c[i]?=some (some (.arr 1 es))->bA (DB [] (Ef ⟨R0.length,[(0,.tup [.own i,.v (.bool b)])],c⟩ [i])).s 0=.tup [.ls 1 es,.v (.bool b)]:=λi b es c m=>by
  have o:cR c i=some (.arr 1 es):=by unfold cR;rw[m]
  simp only[Ef,shutI,o,QR,CB,IB,if_true];rfl
 refine(aWO n a π0 R0 g f k l).finAt ?_;rintro r c (⟨e,i,j,h2,rfl,h⟩|⟨i,j,rfl,h⟩);exact⟨[i],.inl ⟨e,j,h2,d i true _ c h⟩⟩;exact⟨[i],.inr ⟨j,d i false _ c h⟩⟩
def aTS(l:List Fq)(b:l.length<=1000000):aA PQ G fU [.ls 1 (fl l)] [] λr T=>r=.own 0/\T=[some (.arr 1 (fl l))]:=by
 apply aC vG
 cases l with
 |nil=>simp only[go_sem,(s_:0<=maxLen)]|cons x a=>
  have d:(a.length+1)*8<=140737488355328:=by simp at b;omega
  have c:a.length+1<=maxLen:=by simp at b;unfold maxLen;omega
  simp only[go_sem,aP,d,c]
def aRe(z:Fq):Bool:=decide ((z.val:Int)<1)||decide ((z.val:Int)>1152921504606846976)
def aSA(z:Fq):aRe z=false↔InE z:=by unfold aRe InE;simp only[YE,decide_eq_false_iff_not];omega
def aRX(z:Fq):aA PQ G aCE [.v (fu z)] [] λr T=>r=.v (.bool (aRe z))/\T=[]:=by refine aC aOC ?_;by_cases h:(z.val:Int)<1;simp only[go_sem,decide_eq_true h,aRe];simp only[go_sem,decide_eq_false h,aRe]
def aSB(l:List Fq)(d:l.length<=1000000):aA PQ G iC [.ls 1 (fl l),.cl aCE []] [] λr T=>(∃n:Int,r=iv n/\decide (n>=0)=l.any aRe)/\T=[]:=by
 apply aC sO;simp only[go_sem,aP];refine aQ l.length (λi=>⟨0,[(0,.ls 1 (fl l)),(1,.cl aCE []),(7,iv l.length),(8,iv i)],[]⟩) (λi=>∀x∈l.take i,aRe x=false) ?_ k_ ?_ ?_;simp only[go_sem];intro i c b;simp only[go_sem,aT c,aI0 l i c];apply cX (aRX l[i]);simp only[go_sem];refine aL (λh=>?_) (λh=>?_)<;>simp only[go_sem,fQ i o_];refine⟨(i:Int),rfl,?_⟩;have:l.any aRe=true:=CX.2 ⟨l[i],eQ c,h⟩;rw[this];simp;refine λx a=>?_;rw[lq8 c]at a;rcases cG.1 a with a|a;exact b x a;rw[aE5.1 a];exact h;intro b;rw[dE]at b;simp only[go_sem,aS (bP _)];refine⟨-1,rfl,?_⟩;have:l.any aRe=false:=List.any_eq_false.2 λx a=>by simp[b x a]
 rw[this];rfl
def aQW(l:List Fq)(b:l.length<=1000000):aA PQ G fS [.ls 1 (fl l),.cl aCE []] [] λr T=>r=.v (.bool (l.any aRe))/\T=[]:=by refine aC qJ ?_;simp only[go_sem];apply Jo (aSB l b);rintro r c ⟨⟨n,rfl,a⟩,rfl⟩;simp only[go_sem,a]
def aVG(d:Nat)(p:List Fq)(r:AV):Prop:=(∃L:List Fq,SS L/\L.length=d/\(∀z,z∈L↔ev p z=0)/\(∀z∈L,InE z)/\r=.tup [.ls 1 (fl L),.v (.bool true)])\/((∀M:List Fq,M.Nodup->M.length=d->(∀z∈M,ev p z=0)->(∀z∈M,InE z)->False)/\r=.tup [.ls 1 [],.v (.bool false)])
def aPu (d:Nat) (p:List Fq) (j:mon d p) (H:d<=900):aA PQ G aHf [.ls 1 (fl p)] [] λr T=>aVG d p r/\T=[]:=by
 have o:=gL j;have m:aA PQ G aHf [.ls 1 (fl p)] [] λr T=>(aVG d p r/\T=[])\/((∀M:List Fq,M.Nodup->M.length=d->(∀z∈M,ev p z=0)->(∀z∈M,InE z)->False)/\r=.tup [.own 0,.v (.bool false)]/\T=[some (.arr 1 [])]):=by
  apply aC aOT;simp only[go_sem];apply Jn (aB _) a_ (aWs d p j H);rintro r N ⟨l,⟨t,s,q⟩,rfl,rfl⟩;obtain⟨L,rfl⟩:=aRS l t;have C:SS L:=aVq s;have f:∀z,z∈L↔ev p z=0:=λz=>by
   rw[<-q]
   exact⟨λh=>dF.2 ⟨z,h,rfl⟩,λh=>by
    obtain⟨y,a,e⟩:=dF.1 h
    rw[<-Fin.ext e];exact a⟩
  have I:L.length<=d:=aMv j (aHG C) λz c=>(f z).1 c;have D:IntKind.i64.wrap (((d+1:Nat):Int)-1)=(d:Int):=aNu o_;rw[<-aX9];simp only[go_sem,aP,o,D];by_cases i:L.length=d;have k:((L.length:Int)!=(d:Int))=false:=by simp[i]
  simp only[go_sem,k];apply aU (aB _) a_ (aQW L o_) a_;simp only[go_sem];refine aL (λh=>?_) (λh=>?_)<;>simp only[go_sem];refine .inr ?_;obtain⟨z,c,B⟩:=CX.1 h;intro M w u b g;have A:M ⊆ L:=λy a=>(f y).2 (b y a);have n:z∈M:=by
   refine QB λE=>?_;have:=aMv (R:=z::M) j (BU.2 ⟨E,w⟩) λy a=>by rcases cS.1 a with rfl|a;exact(f y).1 c;exact b y a
   simp at this;omega
  have:=(aSA z).2 (g z n);rw[this]at B;exact absurd B k_;refine .inl (.inl ⟨L,C,i,f,λz c=>(aSA z).1 ?_,rfl⟩);have:=List.any_eq_false.1 h z c;simpa using this;have k:((L.length:Int)!=(d:Int))=true:=f_;simp only[go_sem,k];refine .inr ?_;intro M w u b g;have F:M.length<=L.length:=aPS w λy a=>(f y).2 (b y a);omega
 apply m.finAt;rintro r N (⟨h,rfl⟩|⟨h,rfl,rfl⟩);refine⟨[],?_⟩;rcases h with⟨L,x,h2,K,J,rfl⟩|⟨x,rfl⟩
 simp only[go_sem];exact .inl ⟨L,x,h2,K,J,rfl⟩;simp only[go_sem];exact .inr ⟨x,rfl⟩;refine⟨[0],?_⟩;simp only[go_sem];exact .inr ⟨h,rfl⟩
def CTr(rows:List (List Fq)):AObj:=if rows=[] then .arr 1 [] else .arf 1 ((List.range rows.length).map λj=>[.own (3+j)])
def CT(a b:O0)(rows:List (List Fq)):aK:=some (.box a)::some (.box b)::some (CTr rows)::rows.map λr=>some (.arr 1 (fl r))
def aUx{T:aK}{ids S L:O3}(a:T≠[])(h0:IC [] ids=S)(b:IC S (aC3 T S)=L)(h:∀x∈aC3 T L,x∈L):Bc T ids=L:=by
 rw[Bc,h0]
 cases T with
 |nil=>exact absurd rfl a|cons o R=>rw[Ee,b,aPr h]
def aQX(f:Nat->Nat):∀l:O3,aHi (l.map λi=>[AV.own (f i)])=l.map f|[]=>rfl|i::l=>by simp only[fG,aHi,iZ,MM,aQX f l,jO,List.singleton_append]
def aNG{L:O3}(b:L.Nodup){i j:Nat}(h:L[j]?=some i):TO L i=some j:=by
 obtain⟨c,e⟩:=aQ6.1 h;unfold TO;rw[List.idxOf?,Ad];refine⟨c,by simp[e],λk d=>?_⟩;have:L[k]'o_≠i:=λa=>by rw[<-e]at a;have:=(C9 b).1 a;omega
 simpa using this
def aRY{L:O3}(f g:Nat->Nat):∀l:O3,(∀i∈l,TO L (f i)=some (g i))->XQ L (l.map λi=>[AV.own (f i)])=l.map λi=>[AV.own (g i)]|[],_=>rfl|i::l,h=>by simp only[fG,XQ,xF,Bd,h i k_];rw[aRY f g l λj a=>h j db]
def aTT(f:Nat->Nat)(l:O3):((l.map λi=>[AV.own (f i)]).all (·.all gS))=true:=by simp[gS]
def aXF{a b:O0}{rows:List (List Fq)}{g:List Fq}{T:aK}{s l:List (Nat×AV)}(r:iZ a=[])(q:iZ b=[])
 (p:T[0]?=some (some (.box a))) (D:T[1]?=some (some (.box b))) (tr:∀i,i<rows.length->T[3+i]?=some (some (.arr 1 (fl (rows.getD i []))))) (B:T[3+rows.length]?=some (some (.arr 1 (fl g))))
 (C:T[rows.length+5]?=some (some (.arf 1 ((List.range (rows.length+1)).map λj=>[.own (3+j)]))))
 (h2:PS (gP s)=[0,1,rows.length+5]) (H:∀L,TO L 0=some 0->TO L 1=some 1->TO L (rows.length+5)=some 2->Td L (gP s)=l):aPs [] ⟨0,s,T⟩=⟨0,l,CT a b (rows++[g])⟩:=by
 have w:cR T 0=some (.box a):=by unfold cR;rw[p]
 have v:cR T 1=some (.box b):=by unfold cR;rw[D]
 have u:cR T (rows.length+5)=some (.arf 1 ((List.range (rows.length+1)).map λj=>[.own (3+j)])):=by unfold cR;rw[C]
 have A:∀i,i<rows.length+1->cR T (3+i)=some (.arr 1 (fl ((rows++[g]).getD i []))):=λi o=>by
  unfold cR;rcases eD i rows.length with h|h;rw[tr i h];simp[rH,mY h];obtain rfl:i=rows.length:=o_;rw[B];simp[rH]
 have t:Bc T [0,1,rows.length+5]=0::1::(rows.length+5)::(List.range (rows.length+1)).map (3+·):=by
  have n:aC3 T [0,1,rows.length+5]=(List.range (rows.length+1)).map (3+·):=by simp only[aC3,w,v,u,aJi,r,q,dM,jO];exact aQX (3+·) _
  refine aUx (S:=[0,1,rows.length+5]) (by intro e;rw[e]at p;simp at p) (by simp[IC]) ?_ λx d=>?_;rw[n,aQU];rfl;refine List.Pairwise.map _ (λx y h e=>h o_) aBT;intro x d;obtain⟨j,m,rfl⟩:=dF.1 d;have:=uM.1 m;simp;omega;obtain⟨i,o,d⟩:=aQV d;simp only[cS]at o;rcases o with rfl|rfl|rfl|o;rw[w]at d;simp only[aJi,r]at d;simp at d;rw[v]at d;simp only[aJi,q]at d;simp at d;rw[u]at d;simp only[aJi]at d;rw[aQX (3+·)]at d;simp only[cS];exact .inr (.inr (.inr d));obtain⟨j,m,rfl⟩:=dF.1 o;rw[A j (uM.1 m)]at d;simp[aJi]at d
 have k:(0::1::(rows.length+5)::(List.range (rows.length+1)).map (3+·)).Nodup:=by rw[<-t];exact Tj _ _
 generalize f:0::1::(rows.length+5)::(List.range (rows.length+1)).map (3+·)=L at t k;have i0:TO L 0=some 0:=aNG k (by rw[<-f];rfl);have G:TO L 1=some 1:=aNG k (by rw[<-f];rfl);have F:TO L (rows.length+5)=some 2:=aNG k (by rw[<-f];rfl)
 have E:∀j,j∈List.range (rows.length+1)->TO L (3+j)=some (3+j):=λj m=>aNG k (by
  have:=uM.1 m;rw[<-f,(o_:3+j=j+1+1+1)];simp only[oX,gE,aBQ this,iX]
  congr 1;omega)
 unfold aPs DB;simp only[aOM,Mk,dM,h2,t,H L i0 G F];congr 1;have z:∀{c:O0},iZ c=[]->xF L c=c:=λh=>yM h;rw[<-f,GX];simp only[fG,w,v,u,H6];rw[f];simp only[YQ,z r,z q,aRY (3+·) (3+·) _ E,aTT (3+·),if_true];unfold CT CTr;rw[if_neg k_,dZ,GT];congr 3;apply EW;intro i;simp only[gE];rcases eD i (rows.length+1) with h|h;rw[aBQ h,jN (f_:i<(rows++[g]).length)];simp only[iX,A i h,H6,YQ];rw[rH,jN (f_:i<(rows++[g]).length)];rfl;rw[sX n_,sX f_];rfl
def aT6{a b:O0}{rows:List (List Fq)}{i:Nat}(c:i<rows.length):(CT a b rows)[3+i]?=some (some (.arr 1 (fl (rows.getD i [])))):=by rw[(o_:3+i=i+1+1+1)];simp only[CT,oX,gE,jN c,iX,rH,Mi]
def aVH(a b:O0)(rows:List (List Fq)):(CT a b rows).length=rows.length+3:=by simp[CT]
def aWP{a b:O0}{rows:List (List Fq)}(k:rows≠[]):RT (GX (2::(List.range rows.length).map (3+·)) (CT a b rows)) (List.range' 1 rows.length) rows where
 p0:=by
  have f:(2::(List.range rows.length).map (3+·)).Nodup:=BU.2 ⟨f_,List.Pairwise.map _ (λx y h e=>h o_) aBT⟩
  have g:∀j,j∈List.range rows.length->TO (2::(List.range rows.length).map (3+·)) (3+j)=some (1+j):=λj l=>aNG f (by
   have:=uM.1 l;rw[(o_:1+j=j+1)]
   simp only[oX,gE,aBQ this,iX])
  have e:(List.range' 1 rows.length).map (λi=>[AV.own i])=(List.range rows.length).map λj=>[AV.own (1+j)]:=by rw[List.range'_eq_map_range,rI];rfl
  simp only[GX,fG,sW,cR,CT,CTr,if_neg k,oX,H6,YQ,aRY (3+·) (1+·) _ g,aTT (1+·),if_true,e]
 len:=k_
 nd:=List.nodup_range'
 ne:=λi d=>by simp[rH,d]
 row:=λi d=>by
  have e:(List.range' 1 rows.length).getD i 0=i+1:=by simp[rH,d];omega
  rw[e];simp only[GX,fG,oX,gE,aBQ d,iX,cR,aT6 d,H6,YQ]
 cl:=λi o c=>by
  cases i with
  |zero=>exact .inl rfl|succ i=>
   simp only[GX,fG,oX,gE]at c;rcases eD i rows.length with h|h;simp only[aBQ h,iX,cR,aT6 h,H6,YQ,O7]at c;exact .inr ⟨_,c.symm⟩;rw[sX n_]at c;simp at c
def aQY{M:O3}{n:Nat}:∀(L:O3)(T a:aK)(j:Nat),j<T.length->j∉L->(IF M n T L a)[j]?=T[j]?
 |_,T,[],j,_,_=>by cases ‹O3›<;>rfl
 |[],T,o::a,j,h,_=>by simp only[IF];rw[mY h]|i::L,T,o::a,j,h,b=>by simp only[cS,not_or]at b;simp only[IF];rw[aQY L _ a j (by rw[cL];exact h) b.2,List.getElem?_set_ne (Ne.symm b.1)]
def aWQ{a b:O0}{T:aK}{s c:List (Nat×AV)}(f:iZ a=[])(e:iZ b=[])(j:T[0]?=some (some (.box a)))(i:T[1]?=some (some (.box b)))(h2:PS (gP s)=[0,1])(l:Td [0,1] (gP s)=c):aPs [] ⟨0,s,T⟩=⟨0,c,[some (.box a),some (.box b)]⟩:=by
 have h:cR T 0=some (.box a):=by unfold cR;rw[j]
 have g:cR T 1=some (.box b):=by unfold cR;rw[i]
 have k:Bc T [0,1]=[0,1]:=by refine aSy (by simp[IC]) λx d=>?_;simp only[aC3,h,g,aJi,f,e]at d;simp at d
 unfold aPs DB;simp only[aOM,Mk,dM,h2,k,l,GX,fG,uP,h,g,H6,YQ,yM f,yM e]
def aWR{a b:O0}{rows:List (List Fq)}{d:List Fq}{T:aK}{s c:List (Nat×AV)}{m:Nat}(k:rows.length=m)(n:iZ a=[])(l:iZ b=[])
 (h:T[0]?=some (some (.box a))) (g:T[1]?=some (some (.box b))) (tr:∀i,i<m->T[3+i]?=some (some (.arr 1 (fl (rows.getD i []))))) (e:T[3+m]?=some (some (.arr 1 (fl d))))
 (f:T[m+5]?=some (some (.arf 1 ((List.range (m+1)).map λj=>[.own (3+j)]))))
 (h2:PS (gP s)=[0,1,m+5]) (o:∀L,TO L 0=some 0->TO L 1=some 1->TO L (m+5)=some 2->Td L (gP s)=c):aPs [] ⟨0,s,T⟩=⟨0,c,CT a b (rows++[d])⟩:=by
 subst k;exact aXF n l h g tr e f h2 o
def aZF(C:aK)(m:Nat)(c:C.length=m+3)(x y z:Option AObj):(∀j,j<m+3->j≠2->((C++[x]++[y]).set 2 none++[z])[j]?=C[j]?)/\((C++[x]++[y]).set 2 none++[z])[3+m]?=some x/\((C++[x]++[y]).set 2 none++[z])[m+5]?=some z:=by
 have b:(C++[x]).length=m+4:=by rw[dZ,c];rfl
 have a:((C++[x]++[y]).set 2 none).length=m+5:=by rw[cL,dZ,b];rfl
 refine⟨λj d h2=>?_,?_,?_⟩;rw[mY o_,List.getElem?_set_ne (Ne.symm h2),mY o_,mY o_];rw[mY o_,List.getElem?_set_ne o_,mY o_,(o_:3+m=C.length)];exact List.getElem?_concat_length;rw[<-a];exact List.getElem?_concat_length
def aVI(rows:List (List Fq)):∃b,CTr rows=jE b 1 ((List.range rows.length).map λj=>[.own (3+j)]):=by
 unfold CTr;by_cases h:rows=[]
 subst h;exact⟨true,rfl⟩;rw[if_neg h];exact⟨false,rfl⟩
def aT7:HC:=.block 0 (.loop [] (.seq (.reg [⟨some 61,.bin .lss (.tmp 60) (.tmp 59),none⟩]) (.seq (.cond (.tmp 61) (.seq (.kill [61]) .skip) (.seq (.kill [60,59,10,61]) (.exit 0))) (.seq (.block 1 (.seq (.seq (.reg [⟨some 62,.mov (.tmp 60),none⟩,⟨some 12,.mov (.tmp 62),none⟩]) (.kill [62])) (.seq (.seq (.regd (.q ⟨some 63,.mov (.tmp 11),none⟩ (.q ⟨some 64,.fad (.tmp 2) 1,none⟩ (.q ⟨some 65,.ld none (.tmp 64),none⟩ (.q ⟨some 66,.mov (.tmp 12),none⟩ (.q ⟨some 67,.iad (.tmp 65) (.tmp 66) 1,none⟩ (.q ⟨some 68,.ld none (.tmp 67),none⟩ (.q ⟨some 69,.fad (.tmp 3) 1,none⟩ (.q ⟨some 70,.ld none (.tmp 69),none⟩ (.q ⟨some 71,.mov (.tmp 12),none⟩ (.q ⟨some 72,.iad (.tmp 70) (.tmp 71) 1,none⟩ (.q ⟨some 73,.ld none (.tmp 72),none⟩ (.q ⟨some 74,.mov (.tmp 12),none⟩ (.q ⟨some 75,.mov (.tmp 9),none⟩ (.q ⟨some 76,.mov (.tmp 10),none⟩ (.alt ⟨some 77,.call (.func aMd) [.tmp 68,.tmp 73,.tmp 74,.tmp 75,.tmp 76],none⟩ [⟨some 63,.mov (.tmp 11),none⟩] (.alt ⟨some 78,.bsl 1 [.slice none 0 0] [(0,(1,.tmp 77))] 1,none⟩ [⟨some 63,.mov (.tmp 11),none⟩] (.alt ⟨some 79,.app (.tmp 63) (.tmp 78) 1 24,none⟩ [] (.alt ⟨some 11,.mov (.tmp 79),none⟩ [] (.done false) .no) .no) .no) .no)))))))))))))))) (.kill [12,79,78,77,76,75,74,73,72,71,70,69,68,67,66,65,64,63])) (.own 11 none 1)))) (.seq (.reg [⟨some 80,.bin .add (.tmp 60) (.const (.int .i64 1)),none⟩,⟨some 60,.mov (.tmp 80),none⟩]) (.kill [80]))))))
def aXG:HC:=.seq (.seq (.reg [⟨some 101,.mov (.tmp 15),none⟩,⟨some 102,.mov (.tmp 16),none⟩,⟨some 103,.call (.func aNQ) [.tmp 101,.tmp 102],none⟩,⟨some 17,.mov (.tmp 103),none⟩]) (.kill [103,102,101])) (.seq (.seq (.seq (.reg [⟨some 105,.mov (.tmp 15),none⟩,⟨some 106,.mov (.tmp 17),none⟩,⟨some 107,.call (.func aEQ) [.tmp 105,.tmp 106],none⟩,⟨some 104,.mov (.tmp 107),none⟩,⟨some 108,.ext (.tmp 104) 0,none⟩,⟨some 109,.ext (.tmp 104) 1,none⟩,⟨some 15,.mov (.tmp 108),none⟩]) (.kill [109,108,104,107,106,105])) (.shut 15)) (.seq (.seq (.seq (.reg [⟨some 111,.mov (.tmp 16),none⟩,⟨some 112,.mov (.tmp 17),none⟩,⟨some 113,.call (.func aEQ) [.tmp 111,.tmp 112],none⟩,⟨some 110,.mov (.tmp 113),none⟩,⟨some 114,.ext (.tmp 110) 0,none⟩,⟨some 115,.ext (.tmp 110) 1,none⟩,⟨some 16,.mov (.tmp 114),none⟩]) (.kill [17,115,114,110,113,112,111])) (.shut 16)) (.seq (.seq (.reg [⟨some 117,.mov (.tmp 15),none⟩,⟨some 118,.call (.func aHf) [.tmp 117],none⟩,⟨some 116,.mov (.tmp 118),none⟩,⟨some 119,.ext (.tmp 116) 0,none⟩,⟨some 120,.ext (.tmp 116) 1,none⟩,⟨some 18,.mov (.tmp 119),none⟩,⟨some 19,.mov (.tmp 120),none⟩]) (.kill [15,120,119,116,118,117])) (.seq (.seq (.reg [⟨some 122,.mov (.tmp 16),none⟩,⟨some 123,.call (.func aHf) [.tmp 122],none⟩,⟨some 121,.mov (.tmp 123),none⟩,⟨some 124,.ext (.tmp 121) 0,none⟩,⟨some 125,.ext (.tmp 121) 1,none⟩,⟨some 20,.mov (.tmp 124),none⟩,⟨some 21,.mov (.tmp 125),none⟩]) (.kill [16,125,124,121,123,122])) (.seq (.seq (.seq (.reg [⟨some 126,.mov (.tmp 19),none⟩,⟨some 127,.un .not (.tmp 126),none⟩,⟨some 128,.mov (.tmp 127),none⟩,⟨some 129,.mov (.tmp 21),some (128,false)⟩,⟨some 130,.un .not (.tmp 129),some (128,false)⟩,⟨some 131,.pick (.tmp 128) (.const (.bool true)) (.tmp 130),none⟩,⟨some 132,.mov (.tmp 131),none⟩,⟨some 133,.mov (.tmp 18),some (132,false)⟩,⟨some 134,.mov (.tmp 20),some (132,false)⟩,⟨some 135,.ld (some 2) (.tmp 2),some (132,false)⟩,⟨some 136,.ld (some 2) (.tmp 3),some (132,false)⟩,⟨some 137,.call (.func aOz) [.tmp 133,.tmp 134,.tmp 135,.tmp 136],some (132,false)⟩,⟨some 138,.un .not (.tmp 137),some (132,false)⟩,⟨some 139,.pick (.tmp 132) (.const (.bool true)) (.tmp 138),none⟩]) (.kill [19,21,2,3,138,137,136,135,134,133,132,131,130,129,128,127,126])) (.cond (.tmp 139) (.seq (.kill [18,20,139]) (.seq (.seq (.seq (.reg [⟨some 4,.mov (.const (.slice none 0 0)),none⟩,⟨some 5,.mov (.const (.slice none 0 0)),none⟩,⟨some 6,.mov (.const (.int .i64 32)),none⟩]) (.own 4 none 1)) (.own 5 none 1)) .ret)) (.seq (.kill [139]) .skip))) (.seq (.seq (.seq (.seq (.reg [⟨some 140,.mov (.tmp 18),none⟩,⟨some 141,.mov (.tmp 20),none⟩,⟨some 4,.mov (.tmp 140),none⟩,⟨some 5,.mov (.tmp 141),none⟩,⟨some 6,.mov (.const (.int .i64 0)),none⟩]) (.kill [18,20,141,140])) (.own 4 none 1)) (.own 5 none 1)) .ret))))))
def aRZ:HC:=.seq (.seq (.seq (.reg [⟨some 82,.mov (.tmp 11),none⟩,⟨some 83,.mov (.tmp 8),none⟩,⟨some 84,.call (.func aMe) [.tmp 82,.tmp 83],none⟩,⟨some 81,.mov (.tmp 84),none⟩,⟨some 85,.ext (.tmp 81) 0,none⟩,⟨some 86,.ext (.tmp 81) 1,none⟩,⟨some 13,.mov (.tmp 85),none⟩,⟨some 14,.mov (.tmp 86),none⟩]) (.kill [11,8,86,85,81,84,83,82])) (.shut 13)) (.seq (.seq (.seq (.reg [⟨some 87,.mov (.tmp 14),none⟩,⟨some 88,.un .not (.tmp 87),none⟩]) (.kill [14,87])) (.cond (.tmp 88) (.seq (.kill [13,9,2,3,88]) (.seq (.seq (.seq (.reg [⟨some 4,.mov (.const (.slice none 0 0)),none⟩,⟨some 5,.mov (.const (.slice none 0 0)),none⟩,⟨some 6,.mov (.const (.int .i64 32)),none⟩]) (.own 4 none 1)) (.own 5 none 1)) .ret)) (.seq (.kill [88]) .skip))) (.seq (.seq (.seq (.seq (.regd (.q ⟨some 89,.mov (.tmp 13),none⟩ (.q ⟨some 90,.mov (.tmp 9),none⟩ (.q ⟨some 91,.slc (.tmp 89) none (some (.tmp 90)) 1,none⟩ (.q ⟨some 95,.mov (.tmp 13),none⟩ (.q ⟨some 96,.mov (.tmp 9),none⟩ (.q ⟨some 97,.slc (.tmp 95) (some (.tmp 96)) none 1,none⟩ (.alt ⟨some 92,.call (.func fU) [.tmp 91],none⟩ [⟨some 97,.slc (.tmp 95) (some (.tmp 96)) none 1,none⟩,⟨some 96,.mov (.tmp 9),none⟩,⟨some 95,.mov (.tmp 13),none⟩] (.alt ⟨some 93,.bsl 1 [.int .u64 0] [(0,(1,.const (.int .u64 1)))] 1,none⟩ [⟨some 97,.slc (.tmp 95) (some (.tmp 96)) none 1,none⟩,⟨some 96,.mov (.tmp 9),none⟩,⟨some 95,.mov (.tmp 13),none⟩] (.alt ⟨some 94,.app (.tmp 92) (.tmp 93) 1 8,none⟩ [⟨some 97,.slc (.tmp 95) (some (.tmp 96)) none 1,none⟩,⟨some 96,.mov (.tmp 9),none⟩,⟨some 95,.mov (.tmp 13),none⟩] (.alt ⟨some 98,.call (.func fU) [.tmp 97],none⟩ [] (.alt ⟨some 99,.bsl 1 [.int .u64 0] [(0,(1,.const (.int .u64 1)))] 1,none⟩ [] (.alt ⟨some 100,.app (.tmp 98) (.tmp 99) 1 8,none⟩ [] (.q ⟨some 15,.mov (.tmp 94),none⟩ (.q ⟨some 16,.mov (.tmp 100),none⟩ (.done true))) .no) .no) (.alt ⟨some 99,.bsl 1 [.int .u64 0] [(0,(1,.const (.int .u64 1)))] 1,none⟩ [⟨some 97,.slc (.tmp 95) (some (.tmp 96)) none 1,none⟩,⟨some 96,.mov (.tmp 9),none⟩,⟨some 95,.mov (.tmp 13),none⟩] (.alt ⟨some 98,.call (.func fU) [.tmp 97],none⟩ [] (.alt ⟨some 100,.app (.tmp 98) (.tmp 99) 1 8,none⟩ [] (.q ⟨some 15,.mov (.tmp 94),none⟩ (.q ⟨some 16,.mov (.tmp 100),none⟩ (.done true))) .no) .no) .no)) (.alt ⟨some 99,.bsl 1 [.int .u64 0] [(0,(1,.const (.int .u64 1)))] 1,none⟩ [⟨some 97,.slc (.tmp 95) (some (.tmp 96)) none 1,none⟩,⟨some 96,.mov (.tmp 9),none⟩,⟨some 95,.mov (.tmp 13),none⟩] (.alt ⟨some 94,.app (.tmp 92) (.tmp 93) 1 8,none⟩ [⟨some 97,.slc (.tmp 95) (some (.tmp 96)) none 1,none⟩,⟨some 96,.mov (.tmp 9),none⟩,⟨some 95,.mov (.tmp 13),none⟩] (.alt ⟨some 98,.call (.func fU) [.tmp 97],none⟩ [] (.alt ⟨some 100,.app (.tmp 98) (.tmp 99) 1 8,none⟩ [] (.q ⟨some 15,.mov (.tmp 94),none⟩ (.q ⟨some 16,.mov (.tmp 100),none⟩ (.done true))) .no) .no) .no) .no)) (.alt ⟨some 99,.bsl 1 [.int .u64 0] [(0,(1,.const (.int .u64 1)))] 1,none⟩ [⟨some 97,.slc (.tmp 95) (some (.tmp 96)) none 1,none⟩,⟨some 96,.mov (.tmp 9),none⟩,⟨some 95,.mov (.tmp 13),none⟩] (.alt ⟨some 93,.bsl 1 [.int .u64 0] [(0,(1,.const (.int .u64 1)))] 1,none⟩ [⟨some 97,.slc (.tmp 95) (some (.tmp 96)) none 1,none⟩,⟨some 96,.mov (.tmp 9),none⟩,⟨some 95,.mov (.tmp 13),none⟩] (.alt ⟨some 94,.app (.tmp 92) (.tmp 93) 1 8,none⟩ [⟨some 97,.slc (.tmp 95) (some (.tmp 96)) none 1,none⟩,⟨some 96,.mov (.tmp 9),none⟩,⟨some 95,.mov (.tmp 13),none⟩] (.alt ⟨some 98,.call (.func fU) [.tmp 97],none⟩ [] (.alt ⟨some 100,.app (.tmp 98) (.tmp 99) 1 8,none⟩ [] (.q ⟨some 15,.mov (.tmp 94),none⟩ (.q ⟨some 16,.mov (.tmp 100),none⟩ (.done true))) .no) .no) .no) .no) .no)) (.alt ⟨some 93,.bsl 1 [.int .u64 0] [(0,(1,.const (.int .u64 1)))] 1,none⟩ [⟨some 97,.slc (.tmp 95) (some (.tmp 96)) none 1,none⟩,⟨some 96,.mov (.tmp 9),none⟩,⟨some 95,.mov (.tmp 13),none⟩,⟨some 91,.slc (.tmp 89) none (some (.tmp 90)) 1,none⟩,⟨some 90,.mov (.tmp 9),none⟩,⟨some 89,.mov (.tmp 13),none⟩] (.alt ⟨some 92,.call (.func fU) [.tmp 91],none⟩ [⟨some 97,.slc (.tmp 95) (some (.tmp 96)) none 1,none⟩,⟨some 96,.mov (.tmp 9),none⟩,⟨some 95,.mov (.tmp 13),none⟩] (.alt ⟨some 94,.app (.tmp 92) (.tmp 93) 1 8,none⟩ [⟨some 97,.slc (.tmp 95) (some (.tmp 96)) none 1,none⟩,⟨some 96,.mov (.tmp 9),none⟩,⟨some 95,.mov (.tmp 13),none⟩] (.alt ⟨some 98,.call (.func fU) [.tmp 97],none⟩ [] (.alt ⟨some 99,.bsl 1 [.int .u64 0] [(0,(1,.const (.int .u64 1)))] 1,none⟩ [] (.alt ⟨some 100,.app (.tmp 98) (.tmp 99) 1 8,none⟩ [] (.q ⟨some 15,.mov (.tmp 94),none⟩ (.q ⟨some 16,.mov (.tmp 100),none⟩ (.done true))) .no) .no) (.alt ⟨some 99,.bsl 1 [.int .u64 0] [(0,(1,.const (.int .u64 1)))] 1,none⟩ [⟨some 97,.slc (.tmp 95) (some (.tmp 96)) none 1,none⟩,⟨some 96,.mov (.tmp 9),none⟩,⟨some 95,.mov (.tmp 13),none⟩] (.alt ⟨some 98,.call (.func fU) [.tmp 97],none⟩ [] (.alt ⟨some 100,.app (.tmp 98) (.tmp 99) 1 8,none⟩ [] (.q ⟨some 15,.mov (.tmp 94),none⟩ (.q ⟨some 16,.mov (.tmp 100),none⟩ (.done true))) .no) .no) .no)) (.alt ⟨some 99,.bsl 1 [.int .u64 0] [(0,(1,.const (.int .u64 1)))] 1,none⟩ [⟨some 97,.slc (.tmp 95) (some (.tmp 96)) none 1,none⟩,⟨some 96,.mov (.tmp 9),none⟩,⟨some 95,.mov (.tmp 13),none⟩] (.alt ⟨some 94,.app (.tmp 92) (.tmp 93) 1 8,none⟩ [⟨some 97,.slc (.tmp 95) (some (.tmp 96)) none 1,none⟩,⟨some 96,.mov (.tmp 9),none⟩,⟨some 95,.mov (.tmp 13),none⟩] (.alt ⟨some 98,.call (.func fU) [.tmp 97],none⟩ [] (.alt ⟨some 100,.app (.tmp 98) (.tmp 99) 1 8,none⟩ [] (.q ⟨some 15,.mov (.tmp 94),none⟩ (.q ⟨some 16,.mov (.tmp 100),none⟩ (.done true))) .no) .no) .no) .no)) (.alt ⟨some 99,.bsl 1 [.int .u64 0] [(0,(1,.const (.int .u64 1)))] 1,none⟩ [⟨some 97,.slc (.tmp 95) (some (.tmp 96)) none 1,none⟩,⟨some 96,.mov (.tmp 9),none⟩,⟨some 95,.mov (.tmp 13),none⟩,⟨some 91,.slc (.tmp 89) none (some (.tmp 90)) 1,none⟩,⟨some 90,.mov (.tmp 9),none⟩,⟨some 89,.mov (.tmp 13),none⟩] (.alt ⟨some 92,.call (.func fU) [.tmp 91],none⟩ [⟨some 97,.slc (.tmp 95) (some (.tmp 96)) none 1,none⟩,⟨some 96,.mov (.tmp 9),none⟩,⟨some 95,.mov (.tmp 13),none⟩] (.alt ⟨some 94,.app (.tmp 92) (.tmp 93) 1 8,none⟩ [⟨some 97,.slc (.tmp 95) (some (.tmp 96)) none 1,none⟩,⟨some 96,.mov (.tmp 9),none⟩,⟨some 95,.mov (.tmp 13),none⟩] (.alt ⟨some 98,.call (.func fU) [.tmp 97],none⟩ [] (.alt ⟨some 100,.app (.tmp 98) (.tmp 99) 1 8,none⟩ [] (.q ⟨some 15,.mov (.tmp 94),none⟩ (.q ⟨some 16,.mov (.tmp 100),none⟩ (.done true))) .no) .no) .no) .no) .no)) (.alt ⟨some 99,.bsl 1 [.int .u64 0] [(0,(1,.const (.int .u64 1)))] 1,none⟩ [⟨some 97,.slc (.tmp 95) (some (.tmp 96)) none 1,none⟩,⟨some 96,.mov (.tmp 9),none⟩,⟨some 95,.mov (.tmp 13),none⟩,⟨some 91,.slc (.tmp 89) none (some (.tmp 90)) 1,none⟩,⟨some 90,.mov (.tmp 9),none⟩,⟨some 89,.mov (.tmp 13),none⟩] (.alt ⟨some 92,.call (.func fU) [.tmp 91],none⟩ [⟨some 97,.slc (.tmp 95) (some (.tmp 96)) none 1,none⟩,⟨some 96,.mov (.tmp 9),none⟩,⟨some 95,.mov (.tmp 13),none⟩] (.alt ⟨some 93,.bsl 1 [.int .u64 0] [(0,(1,.const (.int .u64 1)))] 1,none⟩ [⟨some 97,.slc (.tmp 95) (some (.tmp 96)) none 1,none⟩,⟨some 96,.mov (.tmp 9),none⟩,⟨some 95,.mov (.tmp 13),none⟩] (.alt ⟨some 94,.app (.tmp 92) (.tmp 93) 1 8,none⟩ [⟨some 97,.slc (.tmp 95) (some (.tmp 96)) none 1,none⟩,⟨some 96,.mov (.tmp 9),none⟩,⟨some 95,.mov (.tmp 13),none⟩] (.alt ⟨some 98,.call (.func fU) [.tmp 97],none⟩ [] (.alt ⟨some 100,.app (.tmp 98) (.tmp 99) 1 8,none⟩ [] (.q ⟨some 15,.mov (.tmp 94),none⟩ (.q ⟨some 16,.mov (.tmp 100),none⟩ (.done true))) .no) .no) .no) .no) (.alt ⟨some 93,.bsl 1 [.int .u64 0] [(0,(1,.const (.int .u64 1)))] 1,none⟩ [⟨some 97,.slc (.tmp 95) (some (.tmp 96)) none 1,none⟩,⟨some 96,.mov (.tmp 9),none⟩,⟨some 95,.mov (.tmp 13),none⟩,⟨some 91,.slc (.tmp 89) none (some (.tmp 90)) 1,none⟩,⟨some 90,.mov (.tmp 9),none⟩,⟨some 89,.mov (.tmp 13),none⟩] (.alt ⟨some 92,.call (.func fU) [.tmp 91],none⟩ [⟨some 97,.slc (.tmp 95) (some (.tmp 96)) none 1,none⟩,⟨some 96,.mov (.tmp 9),none⟩,⟨some 95,.mov (.tmp 13),none⟩] (.alt ⟨some 94,.app (.tmp 92) (.tmp 93) 1 8,none⟩ [⟨some 97,.slc (.tmp 95) (some (.tmp 96)) none 1,none⟩,⟨some 96,.mov (.tmp 9),none⟩,⟨some 95,.mov (.tmp 13),none⟩] (.alt ⟨some 98,.call (.func fU) [.tmp 97],none⟩ [] (.alt ⟨some 100,.app (.tmp 98) (.tmp 99) 1 8,none⟩ [] (.q ⟨some 15,.mov (.tmp 94),none⟩ (.q ⟨some 16,.mov (.tmp 100),none⟩ (.done true))) .no) .no) .no) .no) .no)) .no)))))))))) (.kill [13,9,100,99,98,97,96,95,94,93,92,91,90,89])) (.shut 15)) (.shut 16)) aXG))
def aVJ:HFun:=⟨142,[(4,none),(5,none),(6,none)],
 .seq (.seq (.reg [⟨some 2,.box (.tmp 0),none⟩,⟨some 3,.box (.tmp 1),none⟩,⟨some 4,.mov (.const (.slice none 0 0)),none⟩,⟨some 5,.mov (.const (.slice none 0 0)),none⟩,⟨some 6,.mov (.const (.int .i64 0)),none⟩]) (.kill [0,1,6,5,4])) (.seq (.seq (.seq (.reg [⟨some 22,.fad (.tmp 2) 1,none⟩,⟨some 23,.ld none (.tmp 22),none⟩,⟨some 24,.lenL (.tmp 23),none⟩,⟨some 25,.fad (.tmp 3) 1,none⟩,⟨some 26,.ld none (.tmp 25),none⟩,⟨some 27,.lenL (.tmp 26),none⟩,⟨some 28,.bin .neq (.tmp 24) (.tmp 27),none⟩]) (.kill [27,26,25,24,23,22])) (.cond (.tmp 28) (.seq (.kill [2,3,28]) (.seq (.seq (.seq (.reg [⟨some 4,.mov (.const (.slice none 0 0)),none⟩,⟨some 5,.mov (.const (.slice none 0 0)),none⟩,⟨some 6,.mov (.const (.int .i64 1)),none⟩]) (.own 4 none 1)) (.own 5 none 1)) .ret)) (.seq (.kill [28]) .skip))) (.seq (.seq (.reg [⟨some 29,.fad (.tmp 2) 0,none⟩,⟨some 30,.ld none (.tmp 29),none⟩,⟨some 31,.fad (.tmp 3) 0,none⟩,⟨some 32,.ld none (.tmp 31),none⟩,⟨some 33,.bin .sub (.tmp 30) (.tmp 32),none⟩,⟨some 7,.mov (.tmp 33),none⟩]) (.kill [33,32,31,30,29])) (.seq (.seq (.reg [⟨some 34,.fad (.tmp 2) 1,none⟩,⟨some 35,.ld none (.tmp 34),none⟩,⟨some 36,.lenL (.tmp 35),none⟩,⟨some 37,.bin .sub (.tmp 36) (.const (.int .i64 2)),none⟩,⟨some 8,.mov (.tmp 37),none⟩]) (.kill [37,36,35,34])) (.seq (.seq (.seq (.reg [⟨some 38,.mov (.tmp 8),none⟩,⟨some 39,.mov (.tmp 7),none⟩,⟨some 40,.mov (.tmp 7),none⟩,⟨some 41,.un .neg (.tmp 40),none⟩,⟨some 42,.mm true (.tmp 39) (.tmp 41),none⟩,⟨some 43,.bin .lss (.tmp 38) (.tmp 42),none⟩]) (.kill [42,41,40,39,38])) (.cond (.tmp 43) (.seq (.kill [8,7,3,2,43]) (.seq (.seq (.seq (.reg [⟨some 4,.mov (.const (.slice none 0 0)),none⟩,⟨some 5,.mov (.const (.slice none 0 0)),none⟩,⟨some 6,.mov (.const (.int .i64 32)),none⟩]) (.own 4 none 1)) (.own 5 none 1)) .ret)) (.seq (.kill [43]) .skip))) (.seq (.seq (.seq (.reg [⟨some 44,.mov (.tmp 8),none⟩,⟨some 45,.mov (.tmp 7),none⟩,⟨some 46,.bin .add (.tmp 44) (.tmp 45),none⟩,⟨some 47,.bin .rem (.tmp 46) (.const (.int .i64 2)),none⟩,⟨some 48,.bin .neq (.tmp 47) (.const (.int .i64 0)),none⟩]) (.kill [47,46,45,44])) (.cond (.tmp 48) (.seq (.kill [48]) (.seq (.reg [⟨some 49,.mov (.tmp 8),none⟩,⟨some 50,.bin .sub (.tmp 49) (.const (.int .i64 1)),none⟩,⟨some 8,.mov (.tmp 50),none⟩]) (.kill [50,49]))) (.seq (.kill [48]) .skip))) (.seq (.seq (.reg [⟨some 51,.mov (.tmp 8),none⟩,⟨some 52,.mov (.tmp 7),none⟩,⟨some 53,.bin .add (.tmp 51) (.tmp 52),none⟩,⟨some 54,.bin .quo (.tmp 53) (.const (.int .i64 2)),none⟩,⟨some 55,.mov (.tmp 8),none⟩,⟨some 56,.mov (.tmp 7),none⟩,⟨some 57,.bin .sub (.tmp 55) (.tmp 56),none⟩,⟨some 58,.bin .quo (.tmp 57) (.const (.int .i64 2)),none⟩,⟨some 9,.mov (.tmp 54),none⟩,⟨some 10,.mov (.tmp 58),none⟩]) (.kill [7,58,57,56,55,54,53,52,51])) (.seq (.seq (.reg [⟨some 11,.mov (.const (.slice none 0 0)),none⟩]) (.own 11 none 1)) (.seq (.seq (.reg [⟨some 59,.mov (.tmp 8),none⟩,⟨some 60,.mov (.const (.int .i64 0)),none⟩]) aT7) aRZ))))))))⟩
def aUy:tF PQ aME [(11,none,1),(4,none,1),(5,none,1),(13,none,0),(15,none,0),(16,none,0)]=some aVJ:=r_
def aSC(n:Nat)(A B:List Fq)(d:Int)(r:AV):Prop:=(∃x y:List Fq,Fit n (λk=>A.getD k 0) (λk=>B.getD k 0) d x y/\SS x/\SS y/\r=.tup [.ls 1 (fl x),.ls 1 (fl y),iv 0])\/((∀x y,¬Fit n (λk=>A.getD k 0) (λk=>B.getD k 0) d x y)/\r=.tup [.ls 1 [],.ls 1 [],iv 32])
def aQn(n:Nat)(A B:List Fq)(d:Int)(r:AV)(T:aK):Prop:=(aSC n A B d r/\T=[])\/((∀x y,¬Fit n (λk=>A.getD k 0) (λk=>B.getD k 0) d x y)/\r=.tup [.own 0,.own 1,iv 32]/\T=[some (.arr 1 []),some (.arr 1 [])])
def aLQ(A B:List Fq)(b a i:Nat):List (List Fq):=(List.range i).map λk=>eqR (A.getD k 0) (B.getD k 0) (zk k) b a
def aMG(A B:List Fq)(b a i:Nat):(aLQ A B b a i).length=i:=by simp[aLQ]
def aVK(A B:List Fq)(b a i:Nat):aLQ A B b a (i+1)=aLQ A B b a i++[eqR (A.getD i 0) (B.getD i 0) (zk i) b a]:=by simp[aLQ,QH]
def aTU(A B:List Fq)(b a i k:Nat)(h:k<i):(aLQ A B b a i).getD k []=eqR (A.getD k 0) (B.getD k 0) (zk k) b a:=by simp[aLQ,rH,h]
def aTV{A B:List Fq}{a b i:Nat}{x:List Fq}(d:x.length=a+b):Sol (a+b) (aLQ A B a b i) x↔∀k,k<i->B.getD k 0*ev (x.take a++[1]) (zk k)=A.getD k 0*ev (x.drop a++[1]) (zk k):=by
 unfold Sol;rw[aMG];refine forall_congr' λk=>forall_congr' λe=>?_;rw[aTU A B a b i k e,Sat,<-aT1 d];have c:(eqL (A.getD k 0) (B.getD k 0) (zk k) a b).length=a+b:=by simp[eqL]
 rw[eqR,TY c];have h2:(eqL (A.getD k 0) (B.getD k 0) (zk k) a b++[eqX (A.getD k 0) (B.getD k 0) (zk k) a b]).getD (a+b) 0=eqX (A.getD k 0) (B.getD k 0) (zk k) a b:=by rw[rH,Mc o_,c];simp
 rw[h2]
abbrev skA(N:Int)(A:List Fq):List AV:=[.v (.int .i64 N),.ls 1 (fl A)]
abbrev dfS(N M:Int)(A B:List Fq)(b a i:Nat):St:=⟨0,[(2,.ptr 0 0),(3,.ptr 1 0),(8,.v (.int .i64 ((b+a:Nat):Int))),(9,.v (.int .i64 (b:Int))),(10,.v (.int .i64 (a:Int))),(11,.own 2),(59,.v (.int .i64 ((b+a:Nat):Int))),(60,.v (.int .i64 (i:Int)))],CT (skA N A) (skA M B) (aLQ A B b a i)⟩
def aQ2{st:St}(j:Nat)(Q:Ex->St->Prop):@cW PQ G (.shut j) st ⟨Q⟩=Q .normal (aPs [] (Rk st j)):=fI rfl rfl
def aVL{n a b:Nat}{N M:Int}{A B:Nat->Fq}{x y:List Fq}(h:Fit n A B (N-M) x y)(c:a+b+2=n\/a+b+3=n)(d:(a:Int)-(b:Int)=N-M):∃j,a=x.length+j/\b=y.length+j:=by have e:=h.len;have h2:=h.dif;exact⟨a-x.length,o_,o_⟩
def aSD{L M:List Fq}(a:L.Nodup)(h2:M.Nodup)(h:∀z,z∈L↔z∈M)(t:Fq):vl L t=vl M t:=aRU t ((aBH a h2).2 h)
def aYv (n c a:Nat) (N M:Int) (A B:List Fq) (hn:4<=n) (J:n<=64) (hA:A.length=n) (hB:B.length=n) (h0:∀k,k<n->A.getD k 0≠0) (o:c+a+2=n\/c+a+3=n) (hd:(c:Int)-(a:Int)=N-M) (post:AV->aK->Prop) (d:∀r T,aQn n A B (N-M) r T->post r T)
 (p q:List Fq) (D:mon c p) (C:mon a q) (he:∀k,k<c+a->B.getD k 0*ev p (zk k)=A.getD k 0*ev q (zk k)):
 @cW PQ G aXG ⟨0,[(2,.ptr 0 0),(3,.ptr 1 0),(15,.ls 1 (fl p)),(16,.ls 1 (fl q))],[some (.box (skA N A)),some (.box (skA M B))]⟩ ⟨aCx [(4,none),(5,none),(6,none)] post⟩:=by
 unfold aXG;have lp:=gL D;have lq:=gL C;obtain⟨e,e1,e2,hg,S,F,k3,k4,_⟩:=aQQ D C o_ o_;have lg:=gL hg;have f:∀x y,Fit n (λk=>A.getD k 0) (λk=>B.getD k 0) (N-M) x y->(dm p (X1 p q)).1=pr x/\(dm q (X1 p q)).1=pr y:=λx y b=>by obtain⟨j,j1,Z⟩:=aVL b o hd;exact aPq b J h0 D C j1 Z o_ he
 have m:∀z,ev (dm p (X1 p q)).1 z=0->ev (dm q (X1 p q)).1 z=0->False:=λz K h2=>aVu D C o_ o_ K h2;simp only[go_sem];apply cX (aVj p q o_ o_);simp only[go_sem];apply cX (aO0 p (X1 p q) o_ o_);simp only[go_sem];apply cX (aO0 q (X1 p q) o_ o_);generalize(dm p (X1 p q)).1=Y at *
 generalize(dm q (X1 p q)).1=Q at *
 simp only[go_sem];apply Jo (aPu (c-e) Y S o_);rintro r O ⟨I,rfl⟩;have g:(∀x y,¬Fit n (λk=>A.getD k 0) (λk=>B.getD k 0) (N-M) x y)->post (.tup [.own 0,.own 1,iv 32]) [some (.arr 1 []),some (.arr 1 [])]:=λh=>d _ _ (.inr ⟨h,rfl,rfl⟩);rcases I with⟨X,w,a2,W,a4,rfl⟩|⟨w,rfl⟩
 simp only[go_sem];apply Jo (aPu (a-e) Q F o_);rintro r O ⟨i,rfl⟩;rcases i with⟨P,l,b2,L,V,rfl⟩|⟨l,rfl⟩
 simp only[go_sem];apply Jo (aYq X P A B N M n o_ o_ o_ hA hB);rintro r O ⟨⟨t,rfl,U⟩,rfl⟩
 cases t with
 |true=>
  simp only[go_sem];refine d _ _ (.inl ⟨.inl ⟨X,P,⟨aHG w,aHG l,λz K h2=>m z ((W z).1 K) ((L z).1 h2),a4,V,o_,o_,U.1 rfl⟩,w,l,rfl⟩,rfl⟩)
 | false=>
  simp only[go_sem];refine g λx y b=>?_;obtain⟨u,s⟩:=f x y b;have:(false:Bool)=true:=U.2 λk hk=>by have e3:=b.pts k hk;rw[aSD (aHG l) b.ny (λz=>by rw[L,s,aJE]),aSD (aHG w) b.nx (λz=>by rw[W,u,aJE])];exact e3
  exact absurd this k_
 simp only[go_sem];refine g λx y b=>?_;obtain⟨u,s⟩:=f x y b;have E:=gL F;rw[s,gL (aNS y)]at E;exact l y b.ny o_ (λz H=>by rw[s];exact aJE.2 H) b.ry;simp only[go_sem];apply Jo (aPu (a-e) Q F o_);rintro r O ⟨i,rfl⟩;have R:∀x y,¬Fit n (λk=>A.getD k 0) (λk=>B.getD k 0) (N-M) x y:=λx y b=>by obtain⟨u,s⟩:=f x y b;have E:=gL S;rw[u,gL (aNS x)]at E;exact w x b.nx o_ (λz H=>by rw[u];exact aJE.2 H) b.rx
 rcases i with⟨P,l,b2,L,V,rfl⟩|⟨l,rfl⟩
 simp only[go_sem];exact g R;simp only[go_sem];exact g R
def aWS(n c d:Nat)(N M:Int)(A B:List Fq)(hn:4<=n)(J:n<=64)(hA:A.length=n)(hB:B.length=n)(h0:∀k,k<n->A.getD k 0≠0)(m:c+d+2=n\/c+d+3=n)(Z:(c:Int)-(d:Int)=N-M)(post:AV->aK->Prop)(g:∀r T,aQn n A B (N-M) r T->post r T):
 @cW PQ G aRZ ⟨0,[(2,.ptr 0 0),(3,.ptr 1 0),(8,iv ((c+d:Nat):Int)),(9,iv c),(11,.own 2)],CT (skA N A) (skA M B) (aLQ A B c d (c+d))⟩ ⟨aCx [(4,none),(5,none),(6,none)] post⟩:=by
 unfold aRZ;have I:aLQ A B c d (c+d)≠[]:=λe=>by have:=aMG A B c d (c+d);rw[e]at this;simp at this;omega
 have O:(CT (skA N A) (skA M B) (aLQ A B c d (c+d))).length=c+d+3:=by rw[aVH,aMG]
 have l:=aWP (a:=skA N A) (b:=skA M B) I;rw[aMG]at l;have o:(2::(List.range (c+d)).map (3+·)).Nodup:=BU.2 ⟨f_,List.Pairwise.map _ (λx y h e=>h o_) aBT⟩;simp only[go_sem];refine aG (2::(List.range (c+d)).map (3+·)) (aB _) o (λx H=>?_) (args2:=[.own 0,iv ((c+d:Nat):Int)]) (by simp only[xF,Bd,aNG o (show(2::(List.range (c+d)).map (3+·))[0]?=some 2 from rfl)]) rfl (aVF (c+d) (aLQ A B c d (c+d)) _ _ l (λk K=>?_) o_ (by rw[aMG];omega)) ?_;rw[O];rcases cS.1 H with rfl|H;omega;obtain⟨j,hj,rfl⟩:=dF.1 H;have:=uM.1 hj;omega;rw[aMG]at K;rw[aTU _ _ _ _ _ _ K,aWI];intro r V hr;have X:(IF (2::(List.range (c+d)).map (3+·)) (CT (skA N A) (skA M B) (aLQ A B c d (c+d))).length (CT (skA N A) (skA M B) (aLQ A B c d (c+d))) (2::(List.range (c+d)).map (3+·)) V)[0]?=some (some (.box (skA N A))):=by rw[aQY _ _ _ _ o_ k_];rfl
 have W:(IF (2::(List.range (c+d)).map (3+·)) (CT (skA N A) (skA M B) (aLQ A B c d (c+d))).length (CT (skA N A) (skA M B) (aLQ A B c d (c+d))) (2::(List.range (c+d)).map (3+·)) V)[1]?=some (some (.box (skA M B))):=by rw[aQY _ _ _ _ o_ f_];rfl
 generalize IF (2::(List.range (c+d)).map (3+·)) (CT (skA N A) (skA M B) (aLQ A B c d (c+d))).length (CT (skA N A) (skA M B) (aLQ A B c d (c+d))) (2::(List.range (c+d)).map (3+·)) V=T3 at X W;have Y:∀s,PS (gP s)=[0,1]->aPs [] ⟨0,s,T3⟩=⟨0,Td [0,1] (gP s),[some (.box (skA N A)),some (.box (skA M B))]⟩:=λs h2=>aWQ rfl rfl X W h2 rfl;have p:∀x y,Fit n (λk=>A.getD k 0) (λk=>B.getD k 0) (N-M) x y->∃f:List Fq,Sol (c+d) (aLQ A B c d (c+d)) f:=λx y z=>by obtain⟨j,j1,j2⟩:=aVL z m Z;obtain⟨f,U,e2⟩:=aT2 z j;rw[<-j1,<-j2]at U e2;exact⟨f,(aTV U).2 λk K=>(aT1 U).1 (e2 k o_)⟩
 rcases hr with⟨f,C,s2,rfl⟩|⟨C,rfl⟩
 ·have E:c<=f.length:=o_;have t:List.take c (fl f)=fl (f.take c):=by simp only[fl,QN]
  have q:List.drop c (fl f)=fl (f.drop c):=by simp only[fl,aC0]
  have w:(f.take c).length=c:=Y_;have u:(f.drop c).length=d:=by rw[vY];omega
  have b1:(c+1)*8<=140737488355328:=o_;have b2:c+1<=maxLen:=g_;have b3:(d+1)*8<=140737488355328:=o_;have b4:d+1<=maxLen:=g_;generalize hP:f.take c=P at t w;generalize hQ:f.drop c=Q at q u;have D:List.take (f.length-c) (fl Q)=fl Q:=sG (by simp only[fl,aP];omega);have c1:=aTS (G:=G) P o_;have c2:=aTS (G:=G) Q o_;have S:mon c (P++[1]):=⟨P,rfl,w⟩
  have R:mon d (Q++[1]):=⟨Q,rfl,u⟩
  have L:∀k,k<c+d->B.getD k 0*ev (P++[1]) (zk k)=A.getD k 0*ev (Q++[1]) (zk k):=by have:=(aTV (i:=c+d) C).1 s2;rwa[hP,hQ]at this
  have p4:fl P++[[AV.v (.int .u64 1)]]=fl (P++[1]):=by simp only[fl,bZ];rfl
  have p5:fl Q++[[AV.v (.int .u64 1)]]=fl (Q++[1]):=by simp only[fl,bZ];rfl
  have F:=aYv (G:=G) n c d N M A B hn J hA hB h0 m Z post g (P++[1]) (Q++[1]) S R L;simp only[go_sem,↓aQ2,Y,aP,E,t,q,D]
  repeat' (first
   |refine And.intro ?_ ?_|(refine aBF c1 ?_;simp only[go_sem,aP,E,t,q,D,w,u,b1,b2,b3,b4])|(refine aBF c2 ?_;simp only[go_sem,aP,E,t,q,D,w,u,b1,b2,b3,b4]))
  all_goals (rw[p4,p5];exact F)
 simp only[go_sem,↓aQ2,Y];exact g _ _ (.inr ⟨λx y z=>(p x y z).elim λf hs=>C f hs,rfl,rfl⟩)
def aTW(n c a:Nat)(N M:Int)(A B:List Fq)(z:4<=n)(l:n<=64)(hA:A.length=n)(E:B.length=n)(h0:∀k,k<n->A.getD k 0≠0)(g:c+a+2=n\/c+a+3=n)(D:(c:Int)-(a:Int)=N-M)(st:St)(nG:aPs [] st=dfS N M A B c a 0)(post:AV->aK->Prop)(e:∀r T,aQn n A B (N-M) r T->post r T):
 @cW PQ G aT7 st ⟨@HH ⟨λs=>@cW PQ G aRZ s ⟨aCx [(4,none),(5,none),(6,none)] post⟩⟩ ⟨aCx [(4,none),(5,none),(6,none)] post⟩⟩:=by
 unfold aT7;simp only[go_sem];apply aPR (λm s=>∃i,m=c+a-i/\i<=c+a/\s=dfS N M A B c a i) (c+a) ⟨0,o_,o_,nG⟩;rintro m s ⟨i,rfl,R,rfl⟩;by_cases f:i<c+a;have J:=aLP A i o_;have I:=aLP B i o_;have u:(CT (skA N A) (skA M B) (aLQ A B c a i))[0]?=some (some (.box (skA N A))):=rfl;have t:(CT (skA N A) (skA M B) (aLQ A B c a i))[1]?=some (some (.box (skA M B))):=rfl;have p:(CT (skA N A) (skA M B) (aLQ A B c a i)).length=i+3:=by rw[aVH,aMG]
 simp only[go_sem,aT f,u,t,J,I];apply aBF (aT5 (A.getD i 0) (B.getD i 0) i c a o_ o_ o_);obtain⟨b,q⟩:=aVI (aLQ A B c a i);rw[aMG]at q;have O:∀x y,(CT (skA N A) (skA M B) (aLQ A B c a i)++[x]++[y])[2]?=some (some (CTr (aLQ A B c a i))):=λx y=>by rw[mY dc,mY o_];rfl
 have K:∀x y,(CT (skA N A) (skA M B) (aLQ A B c a i)++[x]++[y])[i+3+1]?=some y:=λx y=>by
  have:(CT (skA N A) (skA M B) (aLQ A B c a i)++[x]).length=i+3+1:=by rw[dZ,p];rfl
  rw[<-this];exact List.getElem?_concat_length
 have Q:(i+1)*24<=140737488355328:=o_;have P:i+1<=maxLen:=g_;have o:∀s d,PS (gP s)=[0,1,i+5]->(∀L,TO L 0=some 0->TO L 1=some 1->TO L (i+5)=some 2->Td L (gP s)=d)->aPs [] ⟨0,s,(CT (skA N A) (skA M B) (aLQ A B c a i)++[some (AObj.arr 1 (fl (eqR (A.getD i 0) (B.getD i 0) (zk i) c a)))]++[some (AObj.arf 1 [[AV.own (i+3)]])]).set 2 none++[some (AObj.arf 1 (((List.range i).map λj=>[AV.own (3+j)])++[[AV.own (i+3)]]))]⟩=⟨0,d,CT (skA N A) (skA M B) (aLQ A B c a (i+1))⟩:=λs d h2 F=>by obtain⟨h,w,v⟩:=aZF _ i p (some (AObj.arr 1 (fl (eqR (A.getD i 0) (B.getD i 0) (zk i) c a)))) (some (AObj.arf 1 [[AV.own (i+3)]])) (some (AObj.arf 1 (((List.range i).map λj=>[AV.own (3+j)])++[[AV.own (i+3)]])));rw[aVK];refine aWR (aMG A B c a i) rfl rfl ((h 0 o_ o_).trans u) ((h 1 o_ o_).trans t) (λk C=>(h (3+k) o_ o_).trans (aT6 (by rw[aMG];exact C))) w (v.trans ?_) h2 F;rw[QH,bZ,Nat.add_comm i 3];rfl
 cases b<;>simp only[go_sem,p,O,K,q,QK,Q,P,fQ i o_] <;>
  exact⟨c+a-(i+1),o_,i+1,rfl,o_,o _ _ b_ (λL h0 H h2=>by simp[gP,LG,Td,Bd,xF,h0,H,h2])⟩
 obtain rfl:i=c+a:=o_;simp only[go_sem,aS f];exact aWS n c a N M A B z l hA E h0 g D post e
def aYw(e:Nat):(e:Int).tmod 2=((e%2:Nat):Int):=by rw[X6 o_];rfl
def aWT(n:Nat)(N M:Int)(A B:List Fq)(z:4<=n)(i:n<=64)(hA:A.length=n)(v:B.length=n)(h0:∀k,k<n->A.getD k 0≠0)(K:-1000000<=N/\N<=1000000)(L:-1000000<=M/\M<=1000000):aA PQ G aME [.ag (skA N A),.ag (skA M B)] [] (aQn n A B (N-M)):=by
 apply aC aUy;unfold aVJ;have j:∃d:Int,d=N-M:=⟨_,rfl⟩
 obtain⟨d,j⟩:=j;have H:IntKind.i64.wrap (N-M)=d:=d_;have C:IntKind.i64.wrap ((n:Int)-2)=((n-2:Nat):Int):=d_;have E:IntKind.i64.wrap (0-d)=-d:=d_;have D:(if -d>d then -d else d)=(d.natAbs:Int):=so;rw[<-j];simp only[go_sem,skA,aP,hA,v,H,C,E,D];by_cases c:n-2<d.natAbs;simp only[go_sem,aT c];refine .inr ⟨λx y t=>?_,rfl,rfl⟩;have l:=t.len;have h2:=t.dif;omega;simp only[go_sem,aS c];obtain⟨e,J⟩:∃e:Nat,(e:Int)=((n-2:Nat):Int)+d:=⟨(((n-2:Nat):Int)+d).toNat,o_⟩
 obtain⟨f,t⟩:∃f:Nat,(f:Int)=((n-2:Nat):Int)-d:=⟨(((n-2:Nat):Int)-d).toNat,o_⟩
 have w:IntKind.i64.wrap (((n-2:Nat):Int)+d)=(e:Int):=d_;have F:IntKind.i64.wrap (((n-2:Nat):Int)-d)=(f:Int):=d_;simp only[go_sem,w,aYw];by_cases g:e%2=0;obtain⟨b,l⟩:∃b,e/2=b:=⟨_,rfl⟩
 obtain⟨a,h2⟩:∃a,f/2=a:=⟨_,rfl⟩
 have u:n-2=b+a:=o_;have s:IntKind.i64.wrap ((e:Int).tdiv 2)=(b:Int):=by rw[aNw e o_,l]
 have q:IntKind.i64.wrap ((f:Int).tdiv 2)=(a:Int):=by rw[aNw f o_,h2]
 have p:(((e%2:Nat):Int)!=0)=false:=by simp[g]
 simp only[go_sem,p,w,F,s,q];rw[j];refine aTW n b a N M A B z i hA v h0 o_ o_ _ ?_ _ (λr T h=>h);show DB [] _=_;simp only[go_sem,u,dfS,CT,CTr,aLQ];obtain⟨b,l⟩:∃b,(e-1)/2=b:=⟨_,rfl⟩
 obtain⟨a,h2⟩:∃a,(f-1)/2=a:=⟨_,rfl⟩
 have u:n-2-1=b+a:=o_;have I:IntKind.i64.wrap (((n-2:Nat):Int)-1)=((n-2-1:Nat):Int):=d_;have o:IntKind.i64.wrap (((n-2-1:Nat):Int)+d)=((e-1:Nat):Int):=d_;have m:IntKind.i64.wrap (((n-2-1:Nat):Int)-d)=((f-1:Nat):Int):=d_;have s:IntKind.i64.wrap (((e-1:Nat):Int).tdiv 2)=(b:Int):=by rw[aNw (e-1) o_,l]
 have q:IntKind.i64.wrap (((f-1:Nat):Int).tdiv 2)=(a:Int):=by rw[aNw (f-1) o_,h2]
 have p:(((e%2:Nat):Int)!=0)=true:=f_;simp only[go_sem,p,I,o,m,s,q];rw[j];refine aTW n b a N M A B z i hA v h0 o_ o_ _ ?_ _ (λr T h=>h);show DB [] _=_;simp only[go_sem,u,dfS,CT,CTr,aLQ]
def aXH(n:Nat)(N M:Int)(A B:List Fq)(c:4<=n)(a:n<=64)(hA:A.length=n)(f:B.length=n)(h0:∀k,k<n->A.getD k 0≠0)(d:-1000000<=N/\N<=1000000)(e:-1000000<=M/\M<=1000000):aA PQ G aME [.ag (skA N A),.ag (skA M B)] [] λr T=>aSC n A B (N-M) r/\T=[]:=by
 refine(aWT n N M A B c a hA f h0 d e).finAt ?_;rintro r i (⟨h,rfl⟩|⟨h,rfl,rfl⟩);refine⟨[],?_⟩;rcases h with⟨x,y,b,h2,g,rfl⟩|⟨b,rfl⟩
 simp only[go_sem];exact .inl ⟨x,y,b,h2,g,rfl⟩;simp only[go_sem];exact .inr ⟨b,rfl⟩;refine⟨[0,1],?_⟩;simp only[go_sem];exact .inr ⟨h,rfl⟩
end Hud
