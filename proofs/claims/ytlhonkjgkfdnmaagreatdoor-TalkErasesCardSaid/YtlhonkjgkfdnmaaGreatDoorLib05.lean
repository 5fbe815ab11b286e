import Derived.Test.YtlhonkjgkfdnmaaGreatDoorLib01
set_option linter.all false
namespace Hud
open Go
def Kq{k:Nat}:∀(n:Nat)(cs:O_),cs.length=n*k->(yI k n cs).flatten=cs/\(yI k n cs).length=n/\∀e∈yI k n cs,e.length=k
 |0,cs,a=>by
  grind[yI]
 |n+1,cs,a=>by rw[Gp]at a;obtain⟨h1,h2,h3⟩:=Kq (k:=k) n (cs.drop k) (by rw[vY];omega);simp_all[yI,cS,eC]
def Zs{h:GH}{φ:Nat->Value}{n:Nat}:∀{x:AV}{u:Value},Rp h φ n x u->aX x=true->oB h x u|.v _,u,e,_=>by simpa[Rp,oB]using e|.ls k b,u,e,_=>by simpa only[Rp]using e|.ag _,_,_,a=>by simp[aX]at a|.own _,_,_,a=>by simp[aX]at a|.ptr _ _,_,_,a=>by simp[aX]at a|.elt _ _ _ _,_,_,a=>by simp[aX]at a|.vw _ _ _ _,_,_,a=>by simp[aX]at a|.mp _,_,_,a=>by simp[aX]at a|.yl _,_,_,a=>by simp[aX]at a|.rp _,_,_,a=>by simp[aX]at a|.cl _ _,_,_,a=>by simp[aX]at a|.bm _ _ _,_,_,a=>by simp[aX]at a|.tup _,_,_,a=>by simp[aX]at a|.any,_,_,a=>by simp[aX]at a
def V2{h:GH}{φ:Nat->Value}{n:Nat}{cs:O_}{us:C_}(e:cC h φ n cs us)(d:∀c∈cs,aX c=true):cK h cs us :=
 cK.mk e.length λi c u a b=>by obtain⟨f,h1,h2⟩:=e.get a;rw[b]at h1;cases h1;exact Zs h2 (d c (Kd a))
def Mx(z:C_):∀n,(II z n).length=n*z.length|0=>by simp[II]|n+1=>by simp[II,Mx z n,Gp];omega
def My(z:C_)(c:0<z.length):∀(n i:Nat),i<n*z.length->(II z n)[i]?=z[i%z.length]?|0,i,b=>by simp at b|n+1,i,b=>by simp only[II];by_cases a:i<z.length;rw[mY a,EZ a];rw[Mc o_,My z c n (i-z.length) (by rw[aGg,Km]at b;omega)];congr 1;exact(Nat.mod_eq_sub_mod o_).symm
def QZ(z:Array Value)(b:0<z.size)(n:Nat):((Array.range (n*z.size)).map λi=>z[i%z.size]!).toList=II z.toList n:=by apply EW;intro i;rcases eD i (n*z.size) with a|a;rw[My z.toList T_ n i ov];have c:i%z.size<z.size:=zM _ b;simp[a,c];rw[sX c_,sX (by rw[Mx];simpa using a)]
def cK.app{h:GH}{cs ds:O_}{us vs:C_}(a:cK h cs us)(b:cK h ds vs):cK h (cs++ds) (us++vs):=by
 induction cs generalizing us with
 |nil=>simp only[cK]at a;subst a;simpa using b|cons c cs ih=>
  grind[cK]
def cK.take{h:GH}{cs:O_}{us:C_}(a:cK h cs us)(m:Nat):cK h (cs.take m) (us.take m):=by simpa using a.sub 0 m
def cK.drop{h:GH}{cs:O_}{us:C_}(a:cK h cs us)(m:Nat):cK h (cs.drop m) (us.drop m):=by have:=a.sub m cs.length;rwa[sG s_,sG (by rw[vY,a.length];omega)]at this
def Ti{k:Nat}:∀{es:N_},(∀e∈es,e.length=k)->∀{j:Nat}{e:O_},es[j]?=some e->∀{off n:Nat}{x:O_},off+n<=k ->
 (es.set j (e.take off++x++e.drop (off+n))).flatten=es.flatten.take (j*k+off)++x++es.flatten.drop (j*k+off+n)
 |[],_,j,e,a,_,_,_,_=>by simp at a| d::es,c,j,e,a,off,n,x,b=>by
  have h:=c d s_
  cases j with
  |zero=>
   grind
  |succ j=>
   simp only[oX]at a;simp only[yG,zK];rw[Ti (λe f=>c e (by simp[f])) a b];have g:(j+1)*k+off=d.length+(j*k+off):=m_;rw[g,sY d.length,aGH,X3];simp[eB]
def Mz{α:Type}(L a:List α)(p n m:Nat)(h1:p+n<=m)(h2:m<=L.length)(b:a.length=n):
 (L.take p++a++L.drop (p+n)).take m=(L.take m).take p++a++(L.take m).drop (p+n):=by
 rw[List.take_append,sG c_,List.drop_take,Mj];grind
section
variable{P:Program}{G:L_}{h:GH}{φ:Nat->Value}{T:aK}{w:World}{s:List (Nat×AV)}{a:Act}
def Fx(hI:Inv h φ w T):h w.heap.size=none:=by
 cases e:h w.heap.size with
 |none=>rfl|some a=>have:=Ca hI e;omega
def C6.mono{h h':GH}{φ c:Nat->Value}{n d:Nat}{b:Bool}{cs:O_}{us:C_}(g:CA h h')(f:n<=d)(e:∀i,i<n->c i=φ i)(a:C6 h φ n b cs us):C6 h' c d b cs us:=by
 cases b with
 |true=>exact cK.mono g a|false=>exact cC.mono g f e a
def C6.app{h:GH}{φ:Nat->Value}{n:Nat}{b:Bool}{cs ds:O_}{us vs:C_}(x:C6 h φ n b cs us)(y:C6 h φ n b ds vs):C6 h φ n b (cs++ds) (us++vs):=by
 cases b with
 |true=>exact cK.app x y|false=>exact cC.app x y
def C6.take{h:GH}{φ:Nat->Value}{n:Nat}{b:Bool}{cs:O_}{us:C_}(x:C6 h φ n b cs us)(m:Nat):C6 h φ n b (cs.take m) (us.take m):=by
 cases b with
 |true=>exact cK.take x m|false=>exact cC.take x m
def C6.drop{h:GH}{φ:Nat->Value}{n:Nat}{b:Bool}{cs:O_}{us:C_}(x:C6 h φ n b cs us)(m:Nat):C6 h φ n b (cs.drop m) (us.drop m):=by
 cases b with
 |true=>exact cK.drop x m|false=>exact cC.drop x m
def C6.length{h:GH}{φ:Nat->Value}{n:Nat}{b:Bool}{cs:O_}{us:C_}(x:C6 h φ n b cs us):cs.length=us.length:=by
 cases b with
 |true=>exact cK.length x|false=>exact cC.length x
def C6.of{h:GH}{φ:Nat->Value}{n:Nat}{b:Bool}{cs:O_}{us:C_}(e:cC h φ n cs us)(a:∀c∈cs,PO b c=true):C6 h φ n b cs us:=by
 cases b with
 |true=>exact V2 e a|false=>exact e
def C6.weaken{h:GH}{φ:Nat->Value}{n:Nat}{b c:Bool}{cs:O_}{us:C_}(x:C6 h φ n b cs us)(a:c=true->b=true):C6 h φ n c cs us:=by
 cases c with
 |true=>rw[a rfl]at x;exact x|false=>exact x.toL
def qO{b c:Bool}{x:AV}(a:PO b x=true)(d:c=true->b=true):PO c x=true:=by
 cases c with
 |true=>rw[d rfl]at a;exact a|false=>exact Ls a
def tD(hI:Inv h φ w T){w1:World}(h1:w1.heap=w.heap)(p:w1.os=w.os)(m:w1.tape=w.tape)(f:w1.output=w.output){b:Bool}{k n c:Nat}{es:N_}(l:∀e∈es,e.length=k/\∀c∈e,PO b c=true)(x:es.length=n){a:Array Value}(s:n<=c)(r:c<=maxLen)(q:a.size=c*k)
 (u:C6 h φ T.length b es.flatten (a.toList.take (n*k))) (E:TypeId) (z:w.drawn<=w1.drawn:=by first|exact cN _|exact Kl _|assumption):
 jD h φ T w (.ok (.slice (some ⟨w.heap.size,0,none⟩) n c) (w1.alloc (.cells a E))) (.own T.length) (T++[some (jE b k es)]):=by
 subst x;have d:w1.heap.size=w.heap.size:=by rw[h1]
 have j:(w1.alloc (.cells a E)).heap[w.heap.size]?=some (.cells a E (0,0)):=by rw[<-d];exact heap_alloc_new w1 _
 have:=tL (w':=w1.alloc (.cells a E)) (o:=jE b k es) (v:=.slice (some ⟨w.heap.size,0,none⟩) es.length c) hI p m f gf (λb A=>by rw[kX w1 _ b o_,h1])
  (λg t=>by
   cases c with
   |zero=>simp[kI]at t|succ c=>simp only[kI,E_]at t;omega)
  (mS.2 (by
   cases c with
   |zero=>exact⟨l,.inl ⟨_,by rw[bI,Tb.1 s],Ae (Tb.1 s)⟩⟩|succ c=>exact⟨l,.inr ⟨w.heap.size,c,a,E,bI,j,s,r,q,Fx hI,u.mono (CA.refl h) o_ λi y=>gN y⟩⟩))
 refine⟨_,_,h,_,rfl,this.2,this.1,?_⟩;simp only[Rp];exact⟨s_,bI.symm,_,_,_,rfl⟩
def YU(hI:Inv h φ w T){w1:World}(h1:w1.heap=w.heap)(g:w1.os=w.os)(f:w1.tape=w.tape)(d:w1.output=w.output){k n c:Nat}{es:N_}(i:∀e∈es,e.length=k/\∀c∈e,aX c=true)(p:es.length=n){a:Array Value}(q:n<=c)(m:c<=maxLen)(l:a.size=c*k)
 (o:cK h es.flatten (a.toList.take (n*k))) (E:TypeId) (j:w.drawn<=w1.drawn:=by first|exact cN _|exact Kl _|assumption):
 jD h φ T w (.ok (.slice (some ⟨w.heap.size,0,none⟩) n c) (w1.alloc (.cells a E))) (.own T.length) (T++[some (.arr k es)]):=tD (b:=true) hI h1 g f d i p q m l o E j
def Zt {t e:TypeId} (R:P.underlying t=some (.slice e)) {i:TypeInfo} (L:P.info? e=some i) {z:Value} (O:i.zero=some z) (v:z.cells.size=i.size) (h0:0<i.size) {f:Nat} (J:f*i.size<=2^20) (A:0<f) {g:Array (Nat×Operand)}
 (U:tU G h) (hI:Inv h φ w T) (S:uN h φ T.length s a) {x:AV} {T':aK}
 (m:cE T (dW G s) (.bsl i.size (II z.cells.toList f) (Jb i.size g.toList) f)=some (x,T')):
 jD h φ T w ((Instr.buildSlice t f (g.map λ(i,x)=>(i,a.eval x))).run P w) x T':=by
 simp only[cE]at m;split at m;rename_i cs I;obtain⟨b,n,Q⟩:∃b:Bool,(∀c∈cs,PO b c=true)/\(some (AV.own T.length,T++[some (jE b i.size (yI i.size f cs))])=some (x,T')):=by split at m;rename_i n;exact⟨true,λc B=>oD.1 n c B,m⟩;split at m;rename_i n;exact⟨false,λc B=>oD.1 n c B,m⟩;simp at m
 clear m;have m:=Q;cases m;obtain⟨r,h1,h2⟩:=V0 U S (Jb i.size g.toList) (Mw h φ T.length (II z.cells.toList f)) I;have q:=QZ z.cells o_ f;have o:=Ro (place:=λj=>some (j*i.size,i.size)) (λj=>(j*i.size,i.size)) (g.toList.map λp=>(p.1,a.eval p.2)) ((Array.range (f*z.cells.size)).map λj=>z.cells[j%z.cells.size]!) r (λp _=>rfl)
  (by rw[q,<-h1,QX];simp[Rn,rI,Function.comp_def])
 have K:cs.length=f*i.size:=by
  have u:∀(l:List (Nat×Nat×AV))(k cs:O_),JY k l=some cs->cs.length=k.length:=by
   intro l
   induction l with
   |nil=>intro k cs e;simp only[JY,E_]at e;rw[e]|cons p l ih=>
    grind[JY,List.length_append,List.length_take,List.length_drop]
  grind
 obtain⟨N,W,V⟩:=Kq f cs K;have D:=h2.length;have y:(Instr.buildSlice t f (g.map λ(i,x)=>(i,a.eval x))).run P w=.ok (.slice (some ⟨w.heap.size,0,none⟩) f f) (w.alloc (.cells r.toArray e)):=by
  have F:¬(f*i.size=0):=by have:=Nat.mul_pos A h0;omega
  have E:¬(16777216<f*i.size):=o_;rw[v]at o;simp only[Instr.buildSlice,Sem.run_bind,run_underlying R,Result.andThen_ok,Go.sizeOf,typeInfo,run_program,L,Sem.run_pure,zeroValue];simp only[F,if_false,gt_iff_lt,Nat.reducePow,E,Sem.run_bind,run_program,Result.andThen_ok,L,O,Sem.run_pure,Array.toList_map,v];simp[o,newRow]
 rw[y];have H:f<=maxLen:=by have Z:f<=f*i.size:=Nat.le_mul_of_pos_right _ h0;unfold maxLen;omega
 have C:r.toArray.size=f*i.size:=by rw[Gn];omega
 refine tD hI rfl rfl rfl rfl (λd M=>⟨V d M,λc B=>n c (by rw[<-N];exact Kh.2 ⟨d,M,B⟩)⟩) W (cN _) H C ?_ e;rw[N];have:(r.toArray.toList.take (f*i.size))=r:=sG (by show r.length<=_;rw[<-D,K];exact cN _);rw[this];exact C6.of h2 n;simp at m
def Lt{i:Nat}{o o':AObj}(hI:Inv h φ w T)(j:T[i]?=some (some o)){g:Nat}{d new:Array Value}{E:TypeId}(k:w.heap[g]?=some (.cells d E (0,0)))(c:kI (φ i)=some g)
 (f:uF h φ T.length (w.setRow g new) i o'):Inv h φ (w.setRow g new) (T.set i (some o'))/\Evo h φ T w h φ (T.set i (some o')) (w.setRow g new):=
 Fw (w':=w.setRow g new) hI rfl rfl rfl s_ j (λb _ a=>setRow_other w g b new λe=>a (by rw[c,e])) f
def aC7 {t:TypeId} {n:Nat} (ht:oZ P t=some n) (hG:tU G h) (hI:Inv h φ w T) (hS:uN h φ T.length s a) {p q:Operand} {x:AV} {T':aK} (r:cE T (dW G s) (.st n p q)=some (x,T')):
 ∃w',(Instr.storeAt t (a.eval p) (a.eval q)).run P w=.ok () w'/\x=.v undef/\Evo h φ T w h φ T' w'/\Inv h φ w' T':=by
 have Q:=dN hG hS p;have S:∀(g o:Nat)(m:Array Value)(E:TypeId),w.heap[g]?=some (.cells m E (0,0))->(∀c∈dT (dW G s q),gS c=true)->(dT (dW G s q)).length=n->o+n<=m.size ->
  (Instr.storeAt t (.pointer (some ⟨g,o,none⟩)) (a.eval q)).run P w=.ok () (w.setRow g (m.toList.take o++(a.eval q).cells.toList++m.toList.drop (o+n)).toArray):=by
  intro g o m E H y V ao;have L:=CZ (dN hG hS q) y;have R:=L.length;rw[V]at R;have h1:∀v∈(a.eval q).cells.toList,v.oneCell'=true:=by
   intro v hv;obtain⟨j,J⟩:=QF hv;have I:j<(dT (dW G s q)).length:=m_;obtain⟨u,h2,h3⟩:=L.get (jN I);rw[J]at h2;cases h2;exact Lr h3 (y _ (eQ I))
  have:=run_storeCells_at P g o E (a.eval q).cells.toList 0 m w H o_ h1;have ac:(a.eval q).cells.size=n:=h_;simp only[mG]at this;rw[<-R]at this;simp[Instr.storeAt,Instr.sureAddr,storeVar,qM ht,ac,this]
 simp only[cE]at r;split at r;rename_i i off N;rw[N]at Q;simp only[Rp]at Q;obtain⟨_,g,B,hu⟩:=Q;split at r;rename_i cs W;split at r;rename_i z;obtain⟨c1,c2,c3⟩:=z;cases r;obtain⟨g',us,E,f,H,aj,hr⟩:=QU hI W;rw[B]at f;cases f;have y:∀c∈dT (dW G s q),gS c=true:=λc z=>oD.1 c3 c z;have ad:=hr.length;rw[hu,S g off us E H y c1 (by simp only[GV]at ad;omega)];have L:=CZ (dN hG hS q) y;have:=Lt (o':=.box (cs.take off++dT (dW G s q)++cs.drop (off+n))) hI (bH W) H (by rw[B];rfl)
  (new:=(us.toList.take off++(a.eval q).cells.toList++us.toList.drop (off+n)).toArray)
  ⟨g,_,E,B,setRow_heap w g us _ E _ H,aj,by simpa using((hr.take off).app L).app (hr.drop (off+n))⟩
 simp_all;simp at r;simp at r;rename_i i k j off N;rw[N]at Q;simp only[Rp]at Q;obtain⟨_,g,l,c,B,hu⟩:=Q;split at r;rename_i k' D b W;split at r;rename_i hk;subst hk;split at r;rename_i e J;have ab:∃F:Bool,(F=true->b=true)/\(dT (dW G s q)).length=n/\off+n<=e.length/\(dT (dW G s q)).all (PO F)=true/\x=.v undef/\T'=T.set i (some (jE F k (D.set j (e.take off++dT (dW G s q)++e.drop (off+n))))):=by split at r;rename_i z;injection r with r;injection r with K O;exact⟨b,id,z.1,z.2.1,z.2.2,K.symm,O.symm⟩;split at r;rename_i z;injection r with r;injection r with K O;exact⟨false,λh=>absurd h d_,z.1,z.2.1,z.2.2,K.symm,O.symm⟩;simp at r
 obtain⟨F,aa,c1,c2,c3,K,O⟩:=ab;subst K;subst O;have A:∀c∈dT (dW G s q),PO F c=true:=λc z=>oD.1 c3 c z;have y:∀c∈dT (dW G s q),gS c=true:=λc z=>Ls (A c z);obtain⟨C,h1|⟨g',c',m,E,f,H,h2,h3,h4,h5,h6⟩⟩:=rK hI W;rw[h1.choose_spec.2]at J;simp at J;have C:∀e∈D,e.length=k/\∀c∈e,PO F c=true:=λe r=>⟨(C e r).1,λc z=>qO ((C e r).2 c z) aa⟩
 have h6:=h6.weaken aa;rw[B]at f;injection f with f ah al;cases f;subst al;have R:∀e∈D,e.length=k:=λe r=>(C e r).1;have I:j<D.length:=by rcases eD j D.length with hh|hh;exact hh;simp[sX hh]at J
 have ap:e.length=k:=R e (Kd J);have ai:(j+1)*k<=D.length*k:=H2 k I;have ak:D.length*k<=(c'+1)*k:=H2 k h2;rw[Gp]at ai;rw[hu,S g _ m E H y c1 o_];have L:=C6.of (b:=F) (CZ (dN hG hS q) y) A;have M:=Ti (x:=dT (dW G s q)) R J (off:=off) (n:=n) o_;have af:∀d∈D.set j (e.take off++dT (dW G s q)++e.drop (off+n)),d.length=k/\∀c∈d,PO F c=true:=by intro d hd;rcases aGK hd with hd|rfl;exact C d hd;refine⟨km,λc z=>?_⟩;have X:=(C e (Kd J)).2;simp only[cG]at z;rcases z with(z|z)|z;exact X c (C8 z);exact A c z;exact X c (QG z)
 have an:=L.length;have Z:(a.eval q).cells.toList.length=n:=o_;have am:=h6.length;rw[Af R]at am;have Y:D.length*k<=m.toList.length:=by rw[show m.toList.length=m.size from GV,h4];exact ak
 have ae:j*k+off+n<=D.length*k:=o_;have U:(m.toList.take (j*k+off)++(a.eval q).cells.toList++m.toList.drop (j*k+off+n)).length=(c'+1)*k:=by
  have K:m.toList.length=(c'+1)*k:=by rw[show m.toList.length=m.size from GV,h4]
  simp only[dZ,eC,vY,Z];omega
 have:=Lt (o':=jE F k (D.set j (e.take off++dT (dW G s q)++e.drop (off+n)))) hI (bH (DE W)) H (by rw[B];rfl)
  (new:=(m.toList.take (j*k+off)++(a.eval q).cells.toList++m.toList.drop (j*k+off+n)).toArray)
  (mS.2 ⟨af,.inr ⟨g,c',_,E,by rw[B,cL,ah],setRow_heap w g m _ E _ H,by rw[cL];omega,o_,by
   rw[Gn];exact U,h5,by
   rw[M,cL];have:=Mz m.toList (a.eval q).cells.toList (j*k+off) n (D.length*k) ae Y Z;show C6 h φ T.length F _ (List.take _ (m.toList.take (j*k+off)++(a.eval q).cells.toList++m.toList.drop (j*k+off+n)));rw[this]
   exact((h6.take _).app L).app (h6.drop _)⟩⟩)
 exact⟨_,rfl,rfl,this.2,this.1⟩;simp at r;simp at r;simp at r;simp at r
end
def kF.vals{h:GH}{b k:Nat}:∀{es:N_}{o:Nat},kF h b k es o ->
 (∀e∈es,e.length=k/\∀c∈e,aX c=true)/\∃a,cK h es.flatten a/\∀j u,a[j]?=some u->oY h b (o+j)=some u
 |[],o,_=>⟨s_,[],by simp[cK],λj u g=>by simp at g⟩| e::es,o,l=>by simp only[kF]at l;obtain⟨h1,h2,h3⟩:=l;obtain⟨a,m,w⟩:=h2.vals;obtain⟨s,n,r,v⟩:=h3.vals;refine⟨λd f=>?_,a++n,by rw[zK];exact m.app r,λj u g=>?_⟩;rcases cS.1 f with rfl|f;refine⟨h1,λc q=>?_⟩;obtain⟨i,p⟩:=QF q;exact(h2.get p).choose_spec.1;exact s d f;have t:=m.length;grind
section
variable{P:Program}{G:L_}{h:GH}{φ:Nat->Value}{T:aK}{w:World}{s:List (Nat×AV)}{a:Act}
def Fy{α:Type}{k:Nat}:∀{es:List (List α)},(∀e∈es,e.length=k)->∀(l:Nat),(es.drop l).flatten=es.flatten.drop (l*k)|[],_,l=>by simp|e::es,a,0=>by simp|e::es,a,l+1=>by have h1:e.length=k:=a e (by simp);rw[aBO,Fy (λd b=>a d (by simp[b])) l,zK,Gp,Nat.add_comm,<-Kg,<-h1];simp
def Fz{α:Type}{k:Nat}:∀{es:List (List α)},(∀e∈es,e.length=k)->∀(l:Nat),(es.take l).flatten=es.flatten.take (l*k)|[],_,l=>by simp|e::es,a,0=>by simp|e::es,a,l+1=>by have h1:e.length=k:=a e (by simp);rw[QI,zK,Fz (λd b=>a d (by simp[b])) l,zK,Gp,List.take_append,<-h1];congr 1;rw[sG o_];congr 1;omega
def aC8{α:Type}{k:Nat}{es:List (List α)}(a:∀e∈es,e.length=k)(l m:Nat):((es.drop l).take m).flatten=(es.flatten.drop (l*k)).take (m*k):=by rw[Fz (λd b=>a d (QG b)),Fy a]
def Zu(T:aK)(k:Nat):AV->Option (N_×Bool)
 |.ls d c=>if k=d then some (c,true) else none|.own a=>match sZ (cR T a) with|some (d,c,b)=>if k=d then some (c,b) else none|_=>none
 |.v (.slice none 0 0)=>some ([],true)|.vw a d lo m=>match sZ (cR T a) with|some (e,c,b)=>if k=d/\k=e/\lo+m<=c.length then some ((c.drop lo).take m,b) else none|_=>none
 |_=>none
def aC9 (hI:Inv h φ w T) {k:Nat} {x:AV} {u:Value} (q:Rp h φ T.length x u) {new:N_} {b:Bool} (e:Zu T k x=some (new,b)):
 (∀e∈new,e.length=k/\∀c∈e,PO b c=true)/\∃A c n,u=.slice A new.length c/\C6 h φ T.length b new.flatten n /\
  (new=[]\/∃b o,A=some ⟨b,o,none⟩/\∀j v,n[j]?=some v->w.cell? ⟨b,o+j,none⟩=some v):=by
 unfold Zu at e;split at e;rename_i P D;split at e;rename_i B;subst B;injection e with e;injection e with f s;subst f;subst s;simp only[Rp,oB]at q;obtain⟨A,c,y,_,_,h3⟩:=q;rcases h3 with rfl|⟨b,o,rfl,V⟩
 simp_all[C6,cK];obtain⟨O,Q,N,C⟩:=V.vals;exact⟨O,_,c,Q,y,N,.inr ⟨b,o,rfl,λj v a=>Tf hI (C j v a)⟩⟩;simp at e;rename_i i;split at e;rename_i P D H L;split at e;rename_i B;subst B;injection e with e;injection e with f s;subst f;subst s;simp only[Rp]at q;obtain⟨G,h1|⟨g,c,F,E,t,I,h2,h3,O,N,C⟩⟩:=rK hI L;obtain⟨A,h1,h2⟩:=h1;simp_all[C6,cK,cC];refine⟨G,_,c+1,_,by rw[q.2.1,t],C,.inr ⟨g,0,rfl,λj v a=>?_⟩⟩;rw[DD I];rw[BT]at a;split at a;rw[<-a];simp;simp at a;simp at e;simp at e;injection e with e;injection e with f s;subst f;subst s;simp only[Rp]at q;exact⟨s_,none,0,[],q,by simp[C6,cK],.inl rfl⟩;rename_i i P lo m;split at e;rename_i R D H L;split at e;rename_i B;obtain⟨rfl,rfl,z⟩:=B;injection e with e;injection e with f s;subst f;subst s;simp only[Rp]at q;obtain⟨_,A,c,y,_,_,h0⟩:=q;obtain⟨G,h1⟩:=rK hI L;have K:∀d∈(D.drop lo).take m,d.length=k/\∀c∈d,PO H c=true:=λd M=>G d (QG (C8 M));have J:((D.drop lo).take m).length=m:=by rw[eC,vY];omega
 refine⟨K,?_⟩;have r:C6 h φ T.length H [] []:=by cases H<;>simp[C6,cK,cC]
 rcases h0 with rfl|⟨g,l,Y,t,rfl,U⟩
 exact⟨A,c,[],by simpa using y,kw,.inl s_⟩;by_cases S:m=0;subst S;exact⟨_,c,[],by simpa using y,kw,.inl s_⟩;rcases h1 with h1|⟨W,c2,F,E,p,I,h2,h3,O,N,C⟩
 obtain⟨A,h1,rfl⟩:=h1;simp at z;omega;rw[t]at p;injection p with f s X;injection f with f;injection f with f;subst f;refine⟨_,c,((F.toList.take (D.length*k)).drop (lo*k)).take (m*k),by rw[y,J],?_,.inr ⟨g,lo*k,rfl,λj v a=>?_⟩⟩;rw[aC8 (λd M=>(G d M).1)];exact(C.drop _).take _;rw[DD I];rw[BT]at a;split at a;rw[Hw,BT]at a;split at a;rw[<-a];simp;simp at a;simp at a;simp at e;simp at e;simp at e
def aEX {ev:Operand->AV} {x y:Operand} {k c:Nat} {r:AV} {T':aK} (a:cE T ev (.app x y k c)=some (r,T')):
 ∃ new b,Zu T k (ev y)=some (new,b) /\
  ((ev x=.v (.slice none 0 0)/\new.length*c<=140737488355328/\new.length<=maxLen/\r=.own T.length/\T'=T++[some (jE b k new)]) \/
   ∃i d f,ev x=.own i/\sZ (cR T i)=some (k,d,f)/\(d.length+new.length)*c<=140737488355328/\d.length+new.length<=maxLen/\r=.own T.length/\T'=T.set i none++[some (jE (b&&f) k (d++new))]):=by
 simp only[cE]at a;split at a;simp at a;rename_i new b n;refine⟨new,b,?_,?_⟩;unfold Zu;exact n;split at a;rename_i g;split at a;rename_i e;injection a with a;injection a with m l;exact .inl ⟨g,e.1,e.2,m.symm,l.symm⟩;simp at a;rename_i i g;split at a;rename_i p d f o;split at a;rename_i e;obtain⟨rfl,j,h⟩:=e;injection a with a;injection a with m l;exact .inr ⟨i,d,f,g,o,j,h,m.symm,l.symm⟩;simp at a;simp at a;simp at a
def Zv {t e ty:TypeId} (ht:P.underlying t=some (.slice e)) {i:TypeInfo} (hi:P.info? e=some i) {z:Value} (hz:i.zero=some z) (bb:z.cells.size=i.size) (h0:0<i.size)
  (hG:tU G h) (hI:Inv h φ w T) (hS:uN h φ T.length s a) {p q:Operand} {x:AV} {T':aK} (he:cE T (dW G s) (.app p q i.size i.bytes)=some (x,T')):
  jD h φ T w ((Builtin.append_ #[t,t] ty #[a.eval p,a.eval q]).run P w) x T':=by
 obtain⟨new,S,aw,aq⟩:=aEX he;have hp:=dN hG hS p;have hq:=dN hG hS q;obtain⟨B,A,c,f,hu,V,F⟩:=aC9 hI hq aw;have k:f.length=new.length*i.size:=by rw[<-V.length,Af λd N=>(B d N).1]
 have ay:∀v∈f,v.oneCell'=true:=by
  intro v hv;obtain⟨j,H⟩:=QF hv;have az:j<new.flatten.length:=by
   rw[V.length];rcases eD j f.length with I|I
   ·exact I
   ·rw[sX I]at H;simp at H
  obtain⟨u,h1,h2⟩:=V.toL.get (jN az);rw[H]at h1;injection h1 with h1;subst h1;obtain⟨d,N,be⟩:=Kh.1 (eQ az);exact Lr h2 (Ls ((B d N).2 _ be))
 have l:∀(m O:Nat)(xs:C_),xs.length=m*i.size->m<=maxLen ->
   (xs.toArray++Builtin.zeroCells z.cells (grownCap w m O e-m)).size=grownCap w m O e*i.size/\(xs.toArray++Builtin.zeroCells z.cells (grownCap w m O e-m)).toList.take (m*i.size)=xs/\m<=grownCap w m O e/\grownCap w m O e<=maxLen:=by
  intro m O xs aj X;have bc:=grownCap_ge w m O e;refine⟨?_,?_,bc,grownCap_le_maxLen w m O e X⟩
  ·simp only[Array.size_append,Gn,size_zeroCells,bb,aj,<-aGg];congr 1;omega
  ·simp only[TV];rw[<-aj];exact YL
 rcases aq with⟨hx,hb,X,rfl,rfl⟩|⟨j,C,Z,hx,hg,hb,X,rfl,rfl⟩
 ·
  rw[lW hG hS hx,hu];rcases F with rfl|⟨b,o,rfl,n⟩
  ·have:(Builtin.append_ #[t,t] ty #[.slice none 0 0,.slice A ([]:N_).length c]).run P w=.ok (.slice none 0 0) w:=by cases A<;>simp[Builtin.append_,run_underlying ht,Go.sizeOf,typeInfo,hi,Builtin.lenOf,Builtin.firstCells,loadCells,loadCellsFrom]
   rw[this];have:=tL (w':=w) (o:=jE S i.size []) (v:=.slice none 0 0) hI rfl rfl rfl (cN _) (λ_ _=>rfl) (λg hg=>by simp[kI]at hg) (mS.2 ⟨by simp,.inl ⟨none,bI,rfl⟩⟩);refine⟨_,w,h,_,rfl,this.2,this.1,?_⟩;simp only[Rp];exact⟨by simp,bI.symm,_,_,_,rfl⟩
  ·by_cases aa:new=[]
   ·subst aa;have:(Builtin.append_ #[t,t] ty #[.slice none 0 0,.slice (some ⟨b,o,none⟩) ([]:N_).length c]).run P w=.ok (.slice none 0 0) w:=by simp[Builtin.append_,run_underlying ht,Go.sizeOf,typeInfo,hi,Builtin.lenOf,Builtin.firstCells,loadCells,loadCellsFrom]
    rw[this];have:=tL (w':=w) (o:=jE S i.size []) (v:=.slice none 0 0) hI rfl rfl rfl (cN _) (λ_ _=>rfl) (λg hg=>by simp[kI]at hg) (mS.2 ⟨by simp,.inl ⟨none,bI,rfl⟩⟩);refine⟨_,w,h,_,rfl,this.2,this.1,?_⟩;simp only[Rp];exact⟨by simp,bI.symm,_,_,_,rfl⟩
   ·have ab:0<new.length:=H3.2 aa;have hr:=run_append_nil (P:=P) w t ty e i z ht hi hz ⟨b,o,none⟩ new.length c f k (λj v H=>by rw[iG];exact n j v H) ab (by unfold maxLen at X;omega) (by omega);rw[hr];obtain⟨c1,c2,c3,c4⟩:=l new.length 0 f k X;exact tD (w1:=w.drew) hI rfl rfl rfl rfl B rfl c3 c4 c1 (by rw[c2];exact V) e
 ·
  rw[hx]at hp;simp only[Rp]at hp;obtain⟨hl,h1|⟨g,W,y,E,Q,hw,h2,h3,h4,h5,h6⟩⟩:=rK hI hg
  ·
   obtain⟨A0,Q,rfl⟩:=h1;rw[hp.2.1,Q,hu];simp only[dM,gQ,pQ]at hb X⊢;obtain⟨ah,ar⟩:=xI hI j;have ai:∀{r:Result Value},jD h φ (T.set j none) w r (.own (T.set j none).length) (T.set j none++[some (jE (S&&Z) i.size new)])->jD h φ T w r (.own T.length) (T.set j none++[some (jE (S&&Z) i.size new)]):=by rintro r ⟨v,w',h',φ',m1,m2,m3,m4⟩;rw[cL]at m4;exact⟨v,w',h',φ',m1,ar.trans m2,m3,m4⟩
   apply ai;by_cases aa:new=[]
   ·subst aa;have:(Builtin.append_ #[t,t] ty #[.slice A0 0 0,.slice A ([]:N_).length c]).run P w=.ok (.slice A0 0 0) w:=by cases A0<;>cases A<;>simp[Builtin.append_,run_underlying ht,Go.sizeOf,typeInfo,hi,Builtin.lenOf,Builtin.firstCells,loadCells,loadCellsFrom,storeCells]
    rw[this];have:=tL (w':=w) (o:=jE (S&&Z) i.size []) (v:=.slice A0 0 0) ah rfl rfl rfl (cN _) (λ_ _=>rfl) (λg hg=>by simp[kI]at hg) (mS.2 ⟨by simp,.inl ⟨A0,bI,rfl⟩⟩);refine⟨_,w,h,_,rfl,this.2,this.1,?_⟩;simp only[Rp];exact⟨by simp,bI.symm,_,_,_,rfl⟩
   ·have ab:0<new.length:=H3.2 aa;rcases F with rfl|⟨b,o,rfl,n⟩
    ·exact absurd rfl aa
    ·cases A0 with
     |none=>
      have hr:=run_append_nil (P:=P) w t ty e i z ht hi hz ⟨b,o,none⟩ new.length c f k (λj v H=>by rw[iG];exact n j v H) ab (by unfold maxLen at X;omega) (by omega);rw[hr];obtain⟨c1,c2,c3,c4⟩:=l new.length 0 f k X;exact tD (w1:=w.drew) ah rfl rfl rfl rfl (λd N=>⟨(B d N).1,λc hc=>qO ((B d N).2 c hc) (λI=>(zJ _ _ ▸ I:S=true/\Z=true).1)⟩) rfl c3 c4 c1 (by rw[c2,cL];exact V.weaken (λI=>(zJ _ _ ▸ I:S=true/\Z=true).1)) e
     |some a0=>
      have hr:=run_append_grow (P:=P) w t ty e i z ht hi hz a0 0 0 [] (by simp) (λj v H=>by simp at H) ⟨b,o,none⟩ new.length c f k (λj v H=>by rw[iG];exact n j v H) (by omega) (by unfold maxLen at X;omega) (growslice_fits (by omega) (by simpa using hb));rw[hr];obtain⟨c1,c2,c3,c4⟩:=l new.length 0 f k X;simp only[pQ,YG]at *
      exact tD (w1:=w.drew) ah rfl rfl rfl rfl (λd N=>⟨(B d N).1,λc hc=>qO ((B d N).2 c hc) (λI=>(zJ _ _ ▸ I:S=true/\Z=true).1)⟩) rfl c3 c4 c1 (by rw[c2,cL];exact V.weaken (λI=>(zJ _ _ ▸ I:S=true/\Z=true).1)) e
  ·rw [hp.2.1,Q,hu];have L:(y.toList.take (C.length*i.size)).length=C.length*i.size:=by rw[<-h6.length,Af λd N=>(hl d N).1]
   have am:(S&&Z)=true->S=true/\Z=true:=λI=>by simpa using I
   have ae:∀d∈C++new,d.length=i.size/\∀c∈d,PO (S&&Z) c=true:=by
    intro d N;rcases cG.1 N with N|N
    ·exact⟨(hl d N).1,λc hc=>qO ((hl d N).2 c hc) λI=>(am I).2⟩
    ·exact⟨(B d N).1,λc hc=>qO ((B d N).2 c hc) λI=>(am I).1⟩
   have Y:C6 h φ T.length (S&&Z) (C++new).flatten (y.toList.take (C.length*i.size)++f):=by rw[Kf];exact(h6.weaken λI=>(am I).2).app (V.weaken λI=>(am I).1)
   by_cases K:C.length+new.length<=W+1
   ·
    have hf:(Builtin.firstCells i.size new.length (.slice A new.length c)).run P w=.ok f.toArray w:=by
     rcases F with rfl|⟨b,o,rfl,n⟩
     ·have:f=[]:=Ae (by simpa using k);subst this;cases A<;>simp[Builtin.firstCells,loadCells,loadCellsFrom]
     ·exact run_firstCells_some w i.size new.length ⟨b,o,none⟩ _ _ f k λj v H=>by rw[iG];exact n j v H
    have ba:C.length*i.size+f.length<=y.size:=by rw[k,h4,<-aGg];exact H2 _ K
    have nG:=run_storeCells_at P g (C.length*i.size) E f 0 y w hw (by simpa using ba) ay;simp only[mG]at nG;have ax:(Builtin.append_ #[t,t] ty #[.slice (some ⟨g,0,none⟩) C.length (W+1),.slice A new.length c]).run P w =
      .ok (.slice (some ⟨g,0,none⟩) (C.length+new.length) (W+1)) (w.setRow g (y.toList.take (C.length*i.size)++f++y.toList.drop (C.length*i.size+f.length)).toArray):=by
     simp[Builtin.append_,run_underlying ht,Go.sizeOf,typeInfo,hi,Builtin.lenOf,K,hf,iG,nG]
    rw[ax];have bf:=xI hI j;have ad:=bH (DE hg);refine⟨_,_,h,upd φ T.length (.slice (some ⟨g,0,none⟩) (C.length+new.length) (W+1)),rfl,?_,?_,?_⟩
    ·refine⟨rfl,rfl,rfl,by simp,λb hb M=>setRow_other w g b _ λe=>M j _ ad (by rw[Q,e];rfl),CA.refl h,λ_ _ e=>.inl e,λm X=>gN X,λm o b em af=>?_,by simp,cN _⟩;rcases kG em with⟨ac,J⟩|⟨rfl,J⟩
     ·rw[cL]at ac;rw[gN ac]at af;rcases oM J with⟨_,U⟩|⟨_,U⟩
      ·simp at U
      ·exact .inr ⟨m,o,U,af⟩
     ·rw[cL,bI]at af;simp only[kI,E_]at af;exact .inr ⟨j,_,ad,by rw[Q];simp[kI,af]⟩
    ·refine⟨λb cs eb=>?_,λm o em=>?_,λm m' o o' b em J R D=>?_⟩
     ·obtain⟨E',fr,an⟩:=hI.gh b cs eb;refine⟨E',fr,?_⟩;rw[setRow_other w g b _ λe=>by subst e;rw[h5]at eb;simp at eb];exact an
     ·rcases kG em with⟨ac,J⟩|⟨rfl,J⟩
      ·rw[cL]at ac;rcases oM J with⟨_,U⟩|⟨M,U⟩
       ·simp at U
       ·rw[dZ,cL];have h7:=hI.obj m o U;refine qN h7 (CA.refl h) (by simp) (λj H=>gN H) ac λb an=>?_;obtain⟨h8,h9⟩:=iT h7 an;refine⟨setRow_other w g b _ λe=>M (hI.dis m j o _ b U ad an (by rw[Q,e];rfl)),h9⟩
      ·injection J with J;subst J;rw[cL,dZ,cL];refine mS.2 ⟨ae,.inr ⟨g,W,_,E,by rw[bI,dZ],setRow_heap w g y _ E _ hw,by rw[dZ];exact K,h3,?_,h5,?_⟩⟩
       ·rw[Gn];simp only[dZ,vY,L];rw[show y.toList.length=y.size from GV,<-h4];omega
       ·have ap:(y.toList.take (C.length*i.size)++f).length=(C++new).length*i.size:=by rw[dZ,L,k,dZ,aGg]
        show C6 h _ _ (S&&Z) _ (List.take _ (y.toList.take (C.length*i.size)++f++y.toList.drop (C.length*i.size+f.length)));rw[<-ap,YL];exact Y.mono (CA.refl h) (by simp) λi hi=>gN hi
     ·rcases kG em with⟨al,av⟩|⟨rfl,av⟩<;>rcases kG J with⟨ak,au⟩|⟨rfl,au⟩
      ·rw[cL]at al ak;rw[gN al]at R;rw[gN ak]at D;exact bf.1.dis m m' o o' b av au R D
      ·rw[cL]at al D;rw[gN al]at R;rw[bI]at D;simp only[kI,E_]at D;rcases oM av with⟨_,U⟩|⟨M,U⟩
       ·simp at U
       ·exact absurd (hI.dis m j o _ b U ad R (by rw[Q,<-D];rfl)) M
      ·rw[cL]at ak R;rw[gN ak]at D;rw[bI]at R;simp only[kI,E_]at R;rcases oM au with⟨_,U⟩|⟨M,U⟩
       ·simp at U
       ·exact absurd (hI.dis m' j o' _ b U ad D (by rw[Q,<-R];rfl)) M
      ·rfl
    ·simp only[Rp];rw[dZ,cL];exact⟨by simp,by rw[bI],_,_,_,rfl⟩
   ·
    have M:new≠[]:=by rintro rfl;simp at K;omega
    rcases F with rfl|⟨b,o,rfl,n⟩
    ·exact absurd rfl M
    ·have ao:∀j v,(y.toList.take (C.length*i.size))[j]?=some v->w.cell? ((⟨g,0,none⟩:Addr).add j)=some v:=by
      intro j v H;rw[iG,DD hw];rw[BT]at H;split at H
      ·rw[<-H];simp
      ·simp at H
     have hr:=run_append_grow (P:=P) w t ty e i z ht hi hz ⟨g,0,none⟩ C.length (W+1) _ L ao ⟨b,o,none⟩ new.length c f k (λj v H=>by rw[iG];exact n j v H) (by omega) (by unfold maxLen at X;omega) (growslice_fits (by omega) hb);rw[hr];obtain⟨ah,ar⟩:=xI hI j;have ai:∀{r:Result Value},jD h φ (T.set j none) w r (.own (T.set j none).length) (T.set j none++[some (jE (S&&Z) i.size (C++new))])->jD h φ T w r (.own T.length) (T.set j none++[some (jE (S&&Z) i.size (C++new))]):=by rintro r ⟨v,w',h',φ',m1,m2,m3,m4⟩;rw[cL]at m4;exact⟨v,w',h',φ',m1,ar.trans m2,m3,m4⟩
     apply ai;have aj:(y.toList.take (C.length*i.size)++f).length=(C.length+new.length)*i.size:=by rw[dZ,L,k,aGg]
     obtain⟨c1,c2,c3,c4⟩:=l (C.length+new.length) (W+1) (y.toList.take (C.length*i.size)++f) aj X;have bd:(y.toList.take (C.length*i.size)).toArray++f.toArray=(y.toList.take (C.length*i.size)++f).toArray:=by simp
     rw[bd];exact tD (w1:=w.drew) ah rfl rfl rfl rfl ae (by simp) c3 c4 c1 (by rw[c2,cL];exact Y) e
end
def IK:∀(xs L:V_),∃l,IC L xs=L++l|[],L=>⟨[],by simp[IC]⟩|i::r,L=>by simp only[IC];split;exact IK r L;obtain⟨l,h⟩:=IK r (L++[i]);simp_all
def DF:∀(xs L:V_),L.Nodup->(IC L xs).Nodup|[],L,h=>h|i::r,L,h=>by simp only[IC];split;exact DF r L h;rename_i c;refine DF r _ (vQ.2 ⟨h,s_,λa e b d=>?_⟩);grind
def M0(T:aK):∀(R:aK)(L:V_),∃l,Ee T R L=L++l|[],L=>⟨[],by simp[Ee]⟩|_::R,L=>by obtain⟨l,h⟩:=IK (aC3 T L) L;obtain⟨a,b⟩:=M0 T R (IC L (aC3 T L));grind[Ee]
def IL(T:aK):∀(R:aK)(L:V_),L.Nodup->(Ee T R L).Nodup|[],_,h=>h|_::R,L,h=>by simp only[Ee];exact IL T R _ (DF _ _ h)
def Tj(T:aK)(ids:V_):(Bc T ids).Nodup:=IL T T _ (DF _ _ s_)
def M1:∀(m k:Nat)(a:V_),∃l,IC (List.range k) (List.range' k m++a)=List.range (k+m)++l|0,k,a=>by simpa using IK a (List.range k)|m+1,k,a=>by simp only[List.range'_succ,jC,IC];rw[if_neg s_];have:=M1 m (k+1) a;grind[List.range_succ]
def Tk(T:aK)(r:Nat)(a:V_):∃l,Bc T (List.range r++a)=List.range r++l:=by obtain⟨l,h⟩:=M1 r 0 a;obtain⟨b,c⟩:=M0 T T (IC [] (List.range r++a));simp_all[Bc,Mk,pQ,List.range_eq_range']
def xJ{L:V_}{i j:Nat}(e:TO L i=some j):L[j]?=some i:=by
 unfold TO at e
 induction L generalizing j with
 |nil=>simp at e| cons a L ih=>
  rw[List.idxOf?_cons]at e;split at e;grind
  cases h:List.idxOf? i L with
  |none=>simp[h]at e|some k=>simp[h]at e;subst e;simp[ih h]
def G8{L:V_}{i j:Nat}(e:TO L i=some j):j<L.length:=by have:=xJ e;grind
section
variable{h h':GH}{φ φc:Nat->Value}{n:Nat}
def Kr(L:V_)(φ φc:Nat->Value):Prop:=∀j i,L[j]?=some i->φc j=φ i
mutual
def V3{L:V_}(a:Kr L φ φc):∀{x:AV}{u:Value},Rp h φ n x u->Rp h φc L.length (Bd L x) u
 |.v _,_,e=>by simpa[Rp,Bd]using e|.ls _ _,_,e=>by simp only[Rp,Bd]at *;exact e|.ag d,_,e=>by simp only[Rp,Bd]at *;obtain⟨c,h1,h2⟩:=e;exact⟨c,h1,DG a h2⟩
 |.own i,_,e=>by
  simp only[Rp,Bd]at *
  split;rename_i j b;simp only[Rp];exact⟨G8 b,by rw[a _ _ (xJ b)];exact e.2.1,e.2.2⟩;simp[Rp]
 |.ptr i o,_,e=>by
  simp only[Rp,Bd]at *
  split;rename_i j b;simp only[Rp];exact⟨G8 b,by rw[a _ _ (xJ b)];exact e.2⟩;simp[Rp]
 |.elt i k m o,_,e=>by
  simp only[Rp,Bd]at *
  split;rename_i j b;simp only[Rp];exact⟨G8 b,by rw[a _ _ (xJ b)];exact e.2⟩;simp[Rp]
 |.vw i k m o,_,e=>by
  simp only[Rp,Bd]at *
  split;rename_i j b;simp only[Rp];exact⟨G8 b,by rw[a _ _ (xJ b)];exact e.2⟩;simp[Rp]
 |.mp i,_,e=>by
  simp only[Rp,Bd]at *
  split;rename_i j b;simp only[Rp];exact⟨G8 b,by rw[a _ _ (xJ b)];exact e.2.1,e.2.2⟩;simp[Rp]
 |.yl i,_,e=>by
  simp only[Rp,Bd]at *
  split;rename_i j b;simp only[Rp];exact⟨G8 b,by rw[a _ _ (xJ b)];exact e.2.1,e.2.2⟩;simp[Rp]
 |.rp _,_,e=>by simp only[Rp,Bd]at *;exact e|.cl f d,_,e=>by simp only[Rp,Bd]at *;obtain⟨c,h1,h2⟩:=e;exact⟨c,h1,DG a h2⟩
 |.bm f g d,_,e=>by simp only[Rp,Bd]at *;obtain⟨c,h1,h2⟩:=e;exact⟨c,h1,DG a h2⟩
 |.tup d,_,e=>by simp only[Rp,Bd]at *;obtain⟨c,h1,h2⟩:=e;exact⟨c,h1,DG a h2⟩
 |.any,_,_=>by simp[Rp,Bd]
def DG{L:V_}(a:Kr L φ φc):∀{cs:O_}{us:C_},cC h φ n cs us->cC h φc L.length (xF L cs) us
 |[],_,e=>by simpa[cC,xF]using e
 |c::cs,us,e=>by
  simp only[cC,xF]at *
  obtain⟨u,b,h1,h2,h3⟩:=e;exact⟨u,b,h1,V3 a h2,DG a h3⟩
end
def aCa{L:V_}(b:Kr L φ φc){f:Nat->Value}:∀{s:List (Nat×AV)},(∀p∈s,Rp h φ n p.2 (f p.1))->∀p∈Td L s,Rp h φc L.length p.2 (f p.1)
 |[],_,p,a=>by simp[Td]at a
 |(i,x)::s,c,p,a=>by simp only[Td]at a;rcases cS.1 a with rfl|a;exact V3 b (c (i,x) s_);exact aCa b (λq d=>c q gf) p a
def Rq{L:V_}{i:Nat}{y:AV}:∀{s:List (Nat×AV)},(i,y)∈Td L s->∃x,(i,x)∈s/\y=Bd L x|[],h=>by simp[Td]at h|(j,x)::s,h=>by simp only[Td]at h;rcases cS.1 h with h|h;simp_all;obtain⟨a,h1,h2⟩:=Rq h;exact⟨a,s7,h2⟩
theorem YV{L:V_}:∀(cs:O_),(xF L cs).length=cs.length|[]=>rfl|c::cs=>by simp[xF,YV cs]
def Tl{L:V_}:∀(es:N_),(XQ L es).flatten=xF L es.flatten
 |[]=>rfl
 | e::es=>by
  have d:∀(a b:O_),xF L (a++b)=xF L a++xF L b:=by
   intro a b
   induction a with
   |nil=>rfl
   |cons c a ih=>simp[xF,ih]
  simp only[XQ,zK,Tl es,d]
def Lu{L:V_}:∀(es:N_),(XQ L es).length=es.length|[]=>rfl|e::es=>by simp[XQ,Lu es]
def YW{L:V_}{d:O_}:∀{es:N_},d∈XQ L es->∃e∈es,d=xF L e|[],h=>by simp[XQ]at h|e::es,h=>by simp only[XQ]at h;rcases cS.1 h with rfl|h;simp;obtain⟨a,h1,h2⟩:=YW h;exact⟨a,s7,h2⟩
def aHk{L:V_}(q:Kr L φ φc){w:World}{i j:Nat}{o o':AObj}(N:L[j]?=some i)(l:YQ L o=some o')(e:uF h φ n w i o):uF h φc L.length w j o':=by
 have p:=q j i N
 cases o with
 |box Y=>
  simp only[YQ,E_]at l;subst l;obtain⟨g,J,E,h1,h2,h3,t⟩:=e;exact⟨g,J,E,kr,h2,h3,DG q t⟩
 |arr k Q=>
  simp only[YQ,E_]at l;subst l;obtain⟨h0,h1|⟨g,c,v,E,h1,h2⟩⟩:=e;exact⟨h0,.inl kr⟩;exact⟨h0,.inr ⟨g,c,v,E,kr,h2⟩⟩
 | arf k Q=>
  simp only[YQ]at l;split at l;rename_i G;injection l with l;subst l;obtain⟨h0,h1|⟨g,c,v,E,h1,h2,h3,t,u,z,B⟩⟩:=e;refine⟨λd I=>?_,.inl (by rw[p];obtain⟨A,P,rfl⟩:=h1;exact⟨A,P,rfl⟩)⟩;grind[XQ];refine⟨λd I=>?_,.inr ⟨g,c,v,E,by rw[p,Lu];exact h1,h2,by rw[Lu];exact h3,t,u,z,by rw[Tl,Lu];exact DG q B⟩⟩;obtain⟨X,O,rfl⟩:=YW I;grind[YV];simp at l
 |map ag W T bs Z=>
  simp only[YQ,E_]at l;subst l;obtain⟨g,D,h1,h2,h3,t,u,z⟩:=e;exact⟨g,D,kr,h2,h3,t,u,DG q z⟩
 |lp r s=>
  simp only[YQ,E_]at l;subst l;obtain⟨g,h1,h2,h3,t,u⟩:=e;refine⟨g,kr,h2,h3,λa x y M K=>?_,aCa (f:=λj=>r.tmps.getD j undef) q u⟩;obtain⟨S,z,rfl⟩:=Rq M;obtain⟨R,B,rfl⟩:=Rq K;grind
 | mit m C aAD U=>
  obtain⟨g,F,h1,h2,h3,t⟩:=e
  cases m with
  |none=>
   simp only[YQ,E_]at l;subst l;exact⟨g,F,kr,h2,h3,t⟩
  |some m=>
   simp only[YQ]at l;split at l;rename_i V H;injection l with l;subst l;obtain⟨b,u,z,B⟩:=t;exact⟨g,F,kr,h2,h3,b,u,G8 H,by rw[q _ _ (xJ H)];exact B⟩;simp at l
def IM{L:V_}{T:aK}{j:Nat}{o:AObj}(e:(GX L T)[j]?=some (some o)):∃i a,L[j]?=some i/\T[i]?=some (some a)/\YQ L a=some o:=by
 unfold GX at e;rw[gE]at e
 cases c:L[j]? with
 |none=>simp[c]at e| some i=>
  simp only[c,iX,E_]at e
  cases b:cR T i with
  |none=>simp[b]at e|some a=>
   simp only[b,H6]at e;exact⟨i,a,rfl,bH b,e⟩
def aCb{L:V_}(hL:L.Nodup){T:aK}{w:World}(hI:Inv h φ w T)(hφ:Kr L φ φc):Inv h φc w (GX L T):=by
 have hlen:(GX L T).length=L.length:=by simp[GX]
 refine⟨hI.gh,λj o e=>?_,λj j' o o' b e e' hb hb'=>?_⟩;obtain⟨i,o',hj,hi,ho⟩:=IM e;rw[hlen];exact aHk hφ hj ho (hI.obj i o' hi);obtain⟨i,x,hj,hi,_⟩:=IM e;obtain⟨i',x',hj',hi',_⟩:=IM e';rw[hφ _ _ hj]at hb;rw[hφ _ _ hj']at hb';have:=hI.dis i i' x x' b hi hi' hb hb';subst this;have hlt:j<L.length:=m_;exact(List.getElem?_inj hlt hL).1 (by rw[hj,hj'])
def aGQ{L:V_}{j i:Nat}(hj:L[j]?=some i):bk L n j=i:=by grind[bk]
def aGR{L:V_}{j:Nat}(hj:L.length<=j):bk L n j=n+(j-L.length):=by grind[bk]
mutual
def V4{L:V_}{m m':Nat}(a:∀j,j<m->φ (bk L n j)=φc j/\bk L n j<m'):∀{x:AV}{u:Value},Rp h φc m x u->Rp h φ m' (AR L n x) u
 |.v _,_,e=>by simpa[Rp,AR]using e
 |.ls _ _,_,e=>by simp only[Rp,AR]at *;exact e
 |.ag c,_,e=>by simp only[Rp,AR]at *;obtain⟨b,h1,h2⟩:=e;exact⟨b,h1,Eh a h2⟩
 |.own i,_,e=>by
  grind[Rp,AR]
 |.ptr i o,_,e=>by
  grind[Rp,AR]
 |.elt i k j o,_,e=>by
  grind[Rp,AR]
 |.vw i k j o,_,e=>by
  grind[Rp,AR]
 |.mp i,_,e=>by
  grind[Rp,AR]
 |.yl i,_,e=>by
  grind[Rp,AR]
 |.rp _,_,e=>by simp only[Rp,AR]at *;exact e
 |.cl f c,_,e=>by simp only[Rp,AR]at *;obtain⟨b,h1,h2⟩:=e;exact⟨b,h1,Eh a h2⟩
 |.bm f d c,_,e=>by simp only[Rp,AR]at *;obtain⟨b,h1,h2⟩:=e;exact⟨b,h1,Eh a h2⟩
 |.tup c,_,e=>by simp only[Rp,AR]at *;obtain⟨b,h1,h2⟩:=e;exact⟨b,h1,Eh a h2⟩
 |.any,_,_=>by simp[Rp,AR]
def Eh{L:V_}{m m':Nat}(a:∀j,j<m->φ (bk L n j)=φc j/\bk L n j<m'):∀{cs:O_}{us:C_},cC h φc m cs us->cC h φ m' (EJ L n cs) us
 |[],_,e=>by simpa[cC,EJ]using e
 |c::cs,us,e=>by
  simp only[cC,EJ]at *
  obtain⟨u,b,h1,h2,h3⟩:=e;exact⟨u,b,h1,V4 a h2,Eh a h3⟩
end
def aCc{L:V_}{m m':Nat}(b:∀j,j<m->φ (bk L n j)=φc j/\bk L n j<m'){f:Nat->Value}:∀{s:List (Nat×AV)},(∀p∈s,Rp h φc m p.2 (f p.1))->∀p∈bkS L n s,Rp h φ m' p.2 (f p.1)
 |[],_,p,a=>by simp[bkS]at a
 |(i,x)::s,c,p,a=>by simp only[bkS]at a;rcases cS.1 a with rfl|a;exact V4 b (c (i,x) s_);exact aCc b (λq d=>c q gf) p a
def Rr{L:V_}{i:Nat}{y:AV}:∀{s:List (Nat×AV)},(i,y)∈bkS L n s->∃x,(i,x)∈s/\y=AR L n x
 |[],h=>by simp[bkS]at h
 |(j,x)::s,h=>by simp only[bkS]at h;rcases cS.1 h with h|h;simp_all;obtain⟨a,h1,h2⟩:=Rr h;exact⟨a,s7,h2⟩
def YX{L:V_}:∀(cs:O_),(EJ L n cs).length=cs.length
 |[]=>rfl
 |c::cs=>by simp[EJ,YX cs]
theorem aHl{L:List Nat}:∀{c:AV},gS (AR L n c)=gS c:=by intro c;cases c<;>simp only[AR]<;>simp[gS]
def Tm{L:V_}:∀(es:N_),(bkF L n es).flatten=EJ L n es.flatten
 |[]=>rfl
 | e::es=>by
  have d:∀(a b:O_),EJ L n (a++b)=EJ L n a++EJ L n b:=by
   intro a b
   induction a with
   |nil=>rfl
   |cons c a ih=>simp[EJ,ih]
  simp only[bkF,zK,Tm es,d]
def Lv{L:V_}:∀(es:N_),(bkF L n es).length=es.length
 |[]=>rfl
 |e::es=>by simp[bkF,Lv es]
def YY{L:V_}{d:O_}:∀{es:N_},d∈bkF L n es->∃e∈es,d=EJ L n e
 |[],h=>by simp[bkF]at h
 |e::es,h=>by simp only[bkF]at h;rcases cS.1 h with rfl|h;simp;obtain⟨a,h1,h2⟩:=YY h;exact⟨a,s7,h2⟩
def YZ{L:V_}{d:AV}:∀{es:O_},d∈EJ L n es->∃e∈es,d=AR L n e
 |[],h=>by simp[EJ]at h
 |e::es,h=>by simp only[EJ]at h;rcases cS.1 h with rfl|h;simp;obtain⟨a,h1,h2⟩:=YZ h;exact⟨a,s7,h2⟩
def aHm{L:V_}{m m':Nat}(hφ:∀j,j<m->φ (bk L n j)=φc j/\bk L n j<m'){w:World}{j:Nat}(hj:j<m){o o':AObj}(ho:DC L n (some o)=some o')(e:uF h φc m w j o):uF h φ m' w (bk L n j) o':=by
 have hij:=(hφ j hj).1
 cases o with
 |box cs=>
  simp only[DC,E_]at ho;subst ho;obtain⟨g,us,E,h1,h2,h3,h4⟩:=e;exact⟨g,us,E,sy,h2,h3,Eh hφ h4⟩
 |arr k es=>
  simp only[DC,E_]at ho;subst ho;obtain⟨h0,h1|⟨g,c,cur,E,h1,h2⟩⟩:=e;exact⟨h0,.inl sy⟩;exact⟨h0,.inr ⟨g,c,cur,E,sy,h2⟩⟩
 | arf k es=>
  simp only[DC,E_]at ho;subst ho;obtain⟨h0,h1⟩:=e;refine⟨λd hd=>?_,?_⟩;obtain⟨e',he',rfl⟩:=YY hd;refine⟨by rw[YX];exact(h0 e' he').1,λc hc=>?_⟩;obtain⟨c',hc',rfl⟩:=YZ hc;grind[aHl];rcases h1 with⟨A,hA,rfl⟩|⟨g,c,cur,E,h1,h2,h3,h4,h5,h6,h7⟩
  exact .inl ⟨A,by rw[hij];exact hA,rfl⟩;exact .inr ⟨g,c,cur,E,by rw[hij,Lv];exact h1,h2,by rw[Lv];exact h3,h4,h5,h6,by rw[Tm,Lv];exact Eh hφ h7⟩
 |lp r s=>
  simp only[DC,E_]at ho;subst ho;obtain⟨g,h1,h2,h3,h4,h5⟩:=e;refine⟨g,sy,h2,h3,λa x y hx hy=>?_,aCc (f:=λj=>r.tmps.getD j undef) hφ h5⟩;obtain⟨x',h6,rfl⟩:=Rr hx;obtain⟨y',h7,rfl⟩:=Rr hy;grind
 | mit m0 since aAD st=>
  obtain⟨g,mo,h1,h2,h3,h4⟩:=e
  cases m0 with
  |none=>
   simp only[DC,E_]at ho;subst ho;exact⟨g,mo,sy,h2,h3,h4⟩
  |some m0=>
   simp only[DC,E_]at ho;subst ho;obtain⟨b,h5,h6,h7⟩:=h4;exact⟨g,mo,sy,h2,h3,b,h5,(hφ m0 h6).2,by rw[(hφ m0 h6).1];exact h7⟩
 |map ag ks vs bs cl=>
  simp only[DC,E_]at ho;subst ho;obtain⟨g,ens,h1,h2,h3,h4,h5,h6⟩:=e;exact⟨g,ens,sy,h2,h3,h4,h5,Eh hφ h6⟩
def Ya{L:V_}:∀(a:V_)(T T':aK),a.length<=T'.length->(IF L n T a T').length=T.length+(T'.length-a.length)
 |[],T,[],_=>by simp[IF]
 |[],T,o::T',_=>by simp[IF]
 |i::a,T,[],h=>by simp at h
 |i::a,T,o::T',h=>by simp only[IF];rw[Ya a _ T' w_];simp
def Yb{L:V_}:∀(b:V_)(T T':aK)(i:Nat)(o:AObj),b.Nodup->(∀x∈b,x<T.length)->b.length<=T'.length->(IF L n T b T')[i]?=some (some o) ->
 (∃j:Nat,b[j]?=some i/\∃c,T'[j]?=some c/\DC L n c=some o)\/(i<T.length/\i∉b/\T[i]?=some (some o))\/(T.length<=i/\∃c,T'[b.length+(i-T.length)]?=some c/\DC L n c=some o)
 |[],T,[],i,o,_,_,_,e=>by
  grind[IF]
 |[],T,x::T',i,o,_,_,_,e=>by
  grind[IF]
 |a::b,T,[],i,o,_,_,h,_=>by simp at h
 | a::b,T,x::T',i,o,p,k,f,e=>by
  simp only[IF]at e;obtain⟨m,d⟩:=BU.1 p;have q:=k a s_;rcases Yb b (T.set a (DC L n x)) T' i o d (λy l=>by rw[cL];exact k y (by simp[l])) kj e with⟨j,hj,h2⟩|⟨h1,h2,h3⟩|⟨h1,h2⟩
  exact .inl ⟨j+1,kh,d6⟩;rw[cL]at h1;rw[Hx]at h3;split at h3;rename_i g;subst g;injection h3 with h3;exact .inl ⟨0,s_,x,s_,h3⟩;simp_all;omega;grind
def Tn{L:V_}{o':Option AObj}{o:AObj}(e:DC L n o'=some o):∃x,o'=some x:=by
 cases o' with
 |none=>simp[DC]at e
 |some x=>exact⟨x,rfl⟩
def aCd {L:V_} (hL:L.Nodup) {T:aK} (M:∀i∈L,i<T.length) {w:World} (hI:Inv h φ w T) {T':aK} {h':GH} {l:Nat->Value} {w':World}
 (J:Kr L φ φc) (s:Evo h φc (GX L T) w h' l T' w') (D:Inv h' l w' T') {r:AV} {v:Value} (hr:Rp h' l T'.length r v):
 ∃q,Evo h φ T w h' q (IF L T.length T L T') w'/\Inv h' q w' (IF L T.length T L T')/\Rp h' q (IF L T.length T L T').length (AR L T.length r) v:=by
 have Y:(GX L T).length=L.length:=by simp[GX]
 have N:L.length<=T'.length:=by have:=s.len;omega
 have aa:=Ya (L:=L) (n:=T.length) L T T' N;let q:Nat->Value:=λi=>if i<T.length then φ i else l (L.length+(i-T.length))
 have c:∀j,j<T'.length->q (bk L T.length j)=l j/\bk L T.length j<(IF L T.length T L T').length:=by intro j m;rcases eD j L.length with F|F;have O:L[j]?=some L[j]:=jN F;have C:=M _ (eQ F);rw[aGQ O];refine⟨?_,o_⟩;show(if L[j]<T.length then φ L[j] else _)=_;rw[if_pos C,s.phi j o_,J j _ O];rw[aGR F];grind
 have d:∀i,i<T.length->q i=φ i:=λi Z=>if_pos Z;have a:∀b,(∃j o,(GX L T)[j]?=some (some o)/\kI (φc j)=some b)->∃i o,i∈L/\T[i]?=some (some o)/\kI (φ i)=some b:=by rintro b ⟨j,o,m,f⟩;obtain⟨i,p,h1,h2,_⟩:=IM m;exact⟨i,p,Kd h1,h2,by rw[<-J j i h1];exact f⟩
 have u:∀i o,i<T.length->i∉L->T[i]?=some (some o)->∀b,kI (φ i)=some b->b<w.heap.size/\h b=none/\¬∃j o,(GX L T)[j]?=some (some o)/\kI (φc j)=some b:=by intro i o Z ab R b f;obtain⟨h1,h2⟩:=iT (hI.obj i o R) f;refine⟨h1,h2,λA=>?_⟩;obtain⟨i',p,C,S,k⟩:=a b A;have:=hI.dis i i' o p b R S f k;simp_all
 have t:∀i o,(IF L T.length T L T')[i]?=some (some o) ->
  (∃j x,j<T'.length/\bk L T.length j=i/\T'[j]?=some (some x)/\DC L T.length (some x)=some o)\/(i<T.length/\i∉L/\T[i]?=some (some o)):=by
  intro i o e;rcases Yb L T T' i o hL M N e with⟨j,h1,p,h2,h3⟩|h1|⟨h1,p,h2,h3⟩
  obtain⟨x,rfl⟩:=Tn h3;refine .inl ⟨j,x,?_,aGQ h1,h2,h3⟩;grind;exact .inr h1;obtain⟨x,rfl⟩:=Tn h3;refine .inl ⟨_,x,?_,?_,h2,h3⟩;grind;rw[aGR o_];omega
 refine⟨q,⟨s.os,s.tape,s.output,s.size,?_,s.le,?_,d,?_,o_,s.drawn⟩,⟨D.gh,?_,?_⟩,V4 c hr⟩;intro b f hn;refine s.frame b f λj o m y=>?_;obtain⟨i,p,_,h1,h2⟩:=a b ⟨j,o,m,y⟩;exact hn i p h1 h2;intro b X e;rcases s.gfr b X e with h1|h1|⟨j,o,m,y⟩
 exact .inl h1;exact .inr (.inl h1);obtain⟨i,p,_,h1,h2⟩:=a b ⟨j,o,m,y⟩;exact .inr (.inr ⟨i,p,h1,h2⟩);intro i o b e f;rcases t i o e with⟨j,x,m,rfl,A,_⟩|⟨h1,h2,h3⟩
 rw[(c j m).1]at f;rcases s.org j x b A f with H|⟨I,p,H,V⟩
 exact .inl H;obtain⟨i,p,_,G,B⟩:=a b ⟨I,p,H,V⟩;exact .inr ⟨i,p,G,B⟩;rw[d i h1]at f;exact .inr ⟨i,o,h3,f⟩;intro i o e;rcases t i o e with⟨j,x,m,rfl,A,R⟩|⟨h1,h2,h3⟩
 exact aHm c m R (D.obj j x A);refine qN (hI.obj i o h3) s.le o_ (λj m=>d j m) h1 λg hg=>?_;obtain⟨H,V,G⟩:=u i o h1 h2 h3 g hg;refine⟨s.frame g H λj o m y=>G ⟨j,o,m,y⟩,?_⟩
 cases F:h' g with
 |none=>rfl
 |some X=>
  rcases s.gfr g X F with B|B|B;rw[V]at B;simp at B;omega;exact absurd B G
 intro i i' o p b e e' f k;have z:∀{i i':Nat}{o:AObj}{j:Nat}{x:AObj},i<T.length->i∉L->T[i]?=some (some o)->kI (φ i)=some b->T'[j]?=some (some x)->kI (l j)=some b->False:=by intro i i' o j x h1 h2 h3 f A U;obtain⟨H,_,G⟩:=u i o h1 h2 h3 b f;rcases s.org j x b A U with B|B;omega;exact G B
 rcases t i o e with⟨j,x,m,rfl,A,_⟩|⟨h1,h2,h3⟩<;>rcases t i' p e' with⟨I,x',P,rfl,K,_⟩|⟨E,W,Q⟩
 rw[(c j m).1]at f;rw[(c I P).1]at k;rw[D.dis j I x x' b A K f k];rw[(c j m).1]at f;rw[d i' E]at k;exact(z (i':=0) E W Q k A f).elim;rw[(c I P).1]at k;rw[d i h1]at f;exact(z (i':=0) h1 h2 h3 f K k).elim;rw[d i h1]at f;rw[d i' E]at k;exact hI.dis i i' o p b h3 Q f k
end
section
def kF.drop{h:GH}{b k:Nat}:∀{es:N_}{o:Nat},kF h b k es o->∀l,kF h b k (es.drop l) (o+l*k)|[],_,_,l=>by simp[kF]|e::es,o,a,0=>by simpa using a|e::es,o,a,l+1=>by simp only[kF]at a;have:=kF.drop a.2.2 l;rw[aBO,Gp,Nat.add_comm (l*k) k,<-sY];exact this
def kF.take{h:GH}{b k:Nat}:∀{es:N_}{o:Nat},kF h b k es o->∀l,kF h b k (es.take l) o|[],_,_,l=>by simp[kF]|e::es,o,a,0=>by simp[kF]|e::es,o,a,l+1=>by simp only[kF]at a;rw[QI];simp only[kF];exact⟨a.1,a.2.1,kF.take a.2.2 l⟩
mutual
def M2{h h':GH}{φ:Nat->Value}{n:Nat}:∀{x:AV}{u:Value},fX x->Rp h φ n x u->Rp h' φ n x u
 |.v _,_,_,e=>by simpa[Rp]using e|.ls k j,u,a,e=>by
  simp only[fX]at a;subst a;simp only[Rp,oB]at e⊢;obtain⟨A,c,h1,h2,h3,_⟩:=e;exact⟨A,c,h1,h2,h3,.inl trivial⟩
 |.ag g,_,a,e=>by simp only[Rp,fX]at *;obtain⟨d,h1,h2⟩:=e;exact⟨d,h1,xK a h2⟩
 |.own _,_,_,e=>by simpa[Rp]using e|.ptr _ _,_,_,e=>by simpa[Rp]using e|.elt _ _ _ _,_,_,e=>by simpa[Rp]using e|.vw _ _ _ _,_,_,e=>by simpa[Rp]using e|.mp _,_,_,e=>by simpa[Rp]using e|.yl _,_,_,e=>by simpa[Rp]using e|.rp g,u,a,e=>by
  simp only[fX]at a;subst a;simp only[Rp]at e⊢;obtain⟨b,o,h1,_⟩:=e;exact⟨b,o,h1,by simp[mR]⟩
 |.cl f g,_,a,e=>by simp only[Rp,fX]at *;obtain⟨d,h1,h2⟩:=e;exact⟨d,h1,xK a h2⟩
 |.bm f i g,_,a,e=>by simp only[Rp,fX]at *;obtain⟨d,h1,h2⟩:=e;exact⟨d,h1,xK a h2⟩
 |.tup g,_,a,e=>by simp only[Rp,fX]at *;obtain⟨d,h1,h2⟩:=e;exact⟨d,h1,xK a h2⟩
 |.any,_,_,_=>z_
def xK{h h':GH}{φ:Nat->Value}{n:Nat}:∀{cs:O_}{us:C_},tC cs->cC h φ n cs us->cC h' φ n cs us
 |[],_,_,e=>by simpa[cC]using e
 |c::cs,us,b,e=>by
  simp only[cC,tC]at *
  obtain⟨u,a,h1,h2,h3⟩:=e;exact⟨u,a,h1,M2 b.1 h2,xK b.2 h3⟩
end
def Tp{h h':GH}:∀{cs:O_}{us:C_},(∀c∈cs,∃x,c=.v x)->cK h cs us->cK h' cs us
 |[],_,_,e=>by simpa[cK]using e
 |c::cs,us,b,e=>by
  simp only[cK]at *
  obtain⟨u,a,h1,h2,h3⟩:=e;obtain⟨x,rfl⟩:=b c s_;refine⟨u,a,h1,?_,Tp (λd f=>b d (by simp[f])) h3⟩;simpa only[oB]using h2
def aCe {h h':GH} {φ:Nat->Value} {n:Nat} {w:World} {i:Nat} {o:AObj} (u:xH (some o)) (t:∀g,kI (φ i)=some g->h' g=none) (e:uF h φ n w i o):uF h' φ n w i o:=by
 cases o with
 |box Q=>
  obtain⟨g,I,E,h1,h2,_,f⟩:=e;exact⟨g,I,E,h1,h2,t g d9,xK u f⟩
 |arr k H=>
  obtain⟨h0,h1|⟨g,c,q,E,h1,h2,h3,f,j,_,B⟩⟩:=e;exact⟨h0,.inl h1⟩;refine⟨h0,.inr ⟨g,c,q,E,h1,h2,h3,f,j,t g d9,Tp (λc K=>?_) B⟩⟩;obtain⟨d,y,z⟩:=Kh.1 K;exact u d y c z
 | arf k H=>
  obtain⟨h0,h1|⟨g,c,q,E,h1,h2,h3,f,j,_,B⟩⟩:=e;exact⟨h0,.inl h1⟩;refine⟨h0,.inr ⟨g,c,q,E,h1,h2,h3,f,j,t g d9,xK ?_ B⟩⟩;have D:∀{a b:O_},tC a->tC b->tC (a++b):=by
   intro a b A L
   induction a with
   |nil=>exact L|cons c a ih=>simp only[tC,jC]at A⊢;exact⟨A.1,ih A.2⟩
  have x:∀l:N_,(∀e∈l,tC e)->tC l.flatten:=by
   intro l
   induction l with
   |nil=>intro _;simp[tC]|cons e l ih=>intro G;rw[zK];exact D (G e s_) (ih λd y=>G d (by simp[y]))
  exact x H u
 |lp r s=>
  obtain⟨g,h1,h2,h3,f,j⟩:=e;exact⟨g,h1,h2,t g d9,f,λp F=>M2 (u p F) (j p F)⟩
 |mit m v aAD O=>
  obtain⟨g,J,h1,h2,h3,f⟩:=e;exact⟨g,J,h1,h2,t g d9,f⟩
 |map S P N bs R=>
  obtain⟨g,C,h1,h2,h3,f,j,M⟩:=e;exact⟨g,C,h1,h2,t g d9,f,j,xK u M⟩
def mR.of_list{h:GH}{b:Nat}:∀{cs:O_}{us:C_}{o:Nat},cK h cs us->(∀c∈cs,aX c=true)->(∀j u,us[j]?=some u->oY h b (o+j)=some u)->mR h b cs o|cs,us,o,e,f,d=>mR.mk λi c a=>by obtain⟨u,h1,h2⟩:=e.get a;exact⟨u,f c (Kd a),d i u h1,h2⟩
def kF.of_list{h:GH}{b k:Nat}:∀{es:N_}{us:C_}{o:Nat},cK h es.flatten us->(∀e∈es,e.length=k/\∀c∈e,aX c=true)->(∀j u,us[j]?=some u->oY h b (o+j)=some u)->kF h b k es o|es,us,o,e,m,n=>kF.mk λj d g=>by have l:=m d (Kd g);refine⟨l.1,?_⟩;have f:=e.sub (j*k) k;rw[Mt (λe p=>(m e p).1) g]at f;refine mR.of_list f l.2 λi u a=>?_;rw[BT]at a;split at a;rw[Hw]at a;rw[<-n _ _ a];congr 1;omega;simp at a
open Classical in
noncomputable def lentG(h:GH)(φ:Nat->Value)(T:aK)(w:World):GH:=λb=>
 if ∃i o,T[i]?=some (some o)/\kI (φ i)=some b then(match w.heap[b]? with|some (.cells a _ _)=>some a|_=>none) else h b
open Classical in
noncomputable def unlentG(h:GH)(φ:Nat->Value)(T:aK):GH:=λb=>if ∃i o,T[i]?=some (some o)/\kI (φ i)=some b then none else h b
section
variable{h:GH}{φ:Nat->Value}{T:aK}{w:World}
def Qa(hI:Inv h φ w T){i:Nat}{k:Nat}{es:N_}(j:T[i]?=some (some (.arr k es))){b:Nat}(a:kI (φ i)=some b):∃d E,w.heap[b]?=some (.cells d E (0,0))/\lentG h φ T w b=some d:=by
 have:∃d E,w.heap[b]?=some (.cells d E (0,0)):=by obtain⟨_,⟨A,h1⟩|⟨g,c,e,E,h1,h2,_⟩⟩:=hI.obj i _ j;rw[h1.1]at a;simp[kI]at a;rw[h1]at a;simp only[kI,E_]at a;subst a;exact⟨e,E,h2⟩
 obtain⟨d,E,f⟩:=this;refine⟨d,E,f,?_⟩;unfold lentG;rw[if_pos ⟨i,_,j,a⟩,f]
def xL(hI:Inv h φ w T):CA h (lentG h φ T w):=by intro b d e;unfold lentG;rw[if_neg];exact e;rintro⟨i,o,a,c⟩;have:=(iT (hI.obj i o a) c).2;rw[e]at this;simp at this
def aCf(hI:Inv h φ w T)(a:Nat->Value):Inv (lentG h φ T w) a w []:=by refine⟨λb g e=>?_,λi o e=>so,λi j l k b e=>so⟩;by_cases c:∃i o,T[i]?=some (some o)/\kI (φ i)=some b;unfold lentG at e;rw[if_pos c]at e;split at e;rename_i f E m d;cases e;exact⟨E,_,d⟩;simp at e;unfold lentG at e;rw[if_neg c]at e;exact hI.gh b g e
mutual
def aCg (hI:Inv h φ w T) {D:Nat->Value}:∀{x:AV}{u:Value},gF (tB T x)=[]->Rp h φ T.length x u->Rp (lentG h φ T w) D 0 (tB T x) u
 |.v _,_,_,e=>by simpa[Rp,tB]using e
 |.ls _ _,_,_,e=>by simp only[Rp,tB]at *;exact e.mono (xL hI)
 |.ag C,_,n,e=>by simp only[Rp,tB,gF]at *;obtain⟨s,h1,h2⟩:=e;exact⟨s,h1,M3 hI n h2⟩
 | .own i,u,_,e=>by
  simp only[Rp,tB]at *
  split;rename_i k K z;simp only[Rp,oB];obtain⟨H,⟨O,h1⟩|⟨g,c,L,E,p,F,h2,h3,U,S,J⟩⟩:=AS hI z;exact⟨O,0,by rw[e.2.1,h1.1,h1.2];rfl,by rw[h1.2];simp,s_,.inl h1.2⟩;refine⟨_,c+1,by rw[e.2.1,p],h2,h3,.inr ⟨g,0,rfl,?_⟩⟩;obtain⟨M,W,a,d⟩:=Qa hI (bH z) (b:=g) (by rw[p];rfl);rw[F]at a;cases a;refine kF.of_list (J.mono (xL hI)) H λj v q=>?_;unfold oY;rw[d];rw[BT]at q;split at q;simpa using q;simp at q;simp[Rp]
 |.ptr _ _,_,n,_=>by simp[gF,tB]at n
 |.elt _ _ _ _,_,n,_=>by simp[gF,tB]at n
 |.mp _,_,n,_=>by simp[gF,tB]at n
 |.yl _,_,n,_=>by simp[gF,tB]at n
 | .vw i k lo m,u,_,e=>by
  simp only[Rp,tB]at *
  split;rename_i Y K z;split;rename_i R;obtain⟨rfl,N⟩:=R;obtain⟨_,A,c,P,G,I,h0⟩:=e;have y:((K.drop lo).take m).length=m:=by rw[eC,vY];omega
  simp only[Rp,oB];refine⟨A,c,by rw[y];exact P,by rw[y];exact G,I,?_⟩;rcases h0 with rfl|⟨g,l,c',p,rfl,Q⟩
  exact .inl s_;obtain⟨H,h1|⟨Z,c2,L,E,r,F,h2,h3,U,S,J⟩⟩:=AS hI z;obtain⟨O,_,rfl⟩:=h1;exact .inl s_;rw[p]at r;injection r with B e2 V;cases B;subst V;refine .inr ⟨g,lo*k,rfl,?_⟩;obtain⟨M,W,a,d⟩:=Qa hI (bH z) (b:=g) (by rw[p];rfl);rw[F]at a;cases a;have t:kF (lentG h φ T w) g k K 0:=kF.of_list (J.mono (xL hI)) H λj v q=>by unfold oY;rw[d];rw[BT]at q;split at q;simpa using q;simp at q
  simpa using(t.drop lo).take m;simp[Rp];simp[Rp]
 |.rp C,u,_,e=>by
  simp only[Rp,tB]at *
  obtain⟨b,o,h1,h2⟩:=e;exact⟨b,o,h1,h2.mono (xL hI)⟩
 |.cl f C,_,n,e=>by
  simp only[Rp,tB,gF]at *
  obtain⟨s,h1,h2⟩:=e;exact⟨s,h1,aGT hI n h2⟩
 |.bm f X C,_,n,e=>by
  simp only[Rp,tB,gF]at *
  obtain⟨s,h1,h2⟩:=e;exact⟨s,h1,aGT hI n h2⟩
 |.tup C,_,n,e=>by
  simp only[Rp,tB,gF]at *
  obtain⟨s,h1,h2⟩:=e;exact⟨s,h1,aGT hI n h2⟩
 |.any,_,_,_=>by simp[Rp,tB]
def M3(hI:Inv h φ w T){a:Nat->Value}:∀{cs:O_}{us:C_},iZ (xG T cs)=[]->cC h φ T.length cs us->cC (lentG h φ T w) a 0 (xG T cs) us
 |[],_,_,e=>by simpa[cC,xG]using e
 |c::cs,us,d,e=>by
  simp only[cC,xG,iZ,X8]at *
  obtain⟨u,b,h1,h2,h3⟩:=e;exact⟨u,b,h1,aCg hI d.1 h2,M3 hI d.2 h3⟩
def aEY(hI:Inv h φ w T){g:Nat->Value}:∀{x:AV}{u:Value},gF x=[]->Rp h φ T.length x u->Rp (lentG h φ T w) g 0 x u
 |.v _,_,_,e=>by simpa[Rp]using e
 |.ls _ _,_,_,e=>by simp only[Rp]at *;exact e.mono (xL hI)
 |.ag d,_,a,e=>by simp only[Rp,gF]at *;obtain⟨c,h1,h2⟩:=e;exact⟨c,h1,aGT hI a h2⟩
 |.own _,_,a,_=>by simp[gF]at a
 |.ptr _ _,_,a,_=>by simp[gF]at a
 |.elt _ _ _ _,_,a,_=>by simp[gF]at a
 |.vw _ _ _ _,_,a,_=>by simp[gF]at a
 |.mp _,_,a,_=>by simp[gF]at a
 |.yl _,_,a,_=>by simp[gF]at a
 |.rp d,u,_,e=>by
  simp only[Rp]at *
  obtain⟨b,o,h1,h2⟩:=e;exact⟨b,o,h1,h2.mono (xL hI)⟩
 |.cl f d,_,a,e=>by simp only[Rp,gF]at *;obtain⟨c,h1,h2⟩:=e;exact⟨c,h1,aGT hI a h2⟩
 |.bm f i d,_,a,e=>by simp only[Rp,gF]at *;obtain⟨c,h1,h2⟩:=e;exact⟨c,h1,aGT hI a h2⟩
 |.tup d,_,a,e=>by simp only[Rp,gF]at *;obtain⟨c,h1,h2⟩:=e;exact⟨c,h1,aGT hI a h2⟩
 |.any,_,_,_=>z_
def aGT(hI:Inv h φ w T){a:Nat->Value}:∀{cs:O_}{us:C_},iZ cs=[]->cC h φ T.length cs us->cC (lentG h φ T w) a 0 cs us
 |[],_,_,e=>by simpa[cC]using e
 |c::cs,us,d,e=>by
  simp only[cC,iZ,X8]at *
  obtain⟨u,b,h1,h2,h3⟩:=e;exact⟨u,b,h1,aEY hI d.1 h2,aGT hI d.2 h3⟩
end
def aCh(hI:Inv h φ w T){φc:Nat->Value}{T':aK}{h1:GH}{a:Nat->Value}{w':World}(d:Evo (lentG h φ T w) φc [] w h1 a T' w')(l:Inv h1 a w' T'){r:AV}{v:Value}(E:Rp h1 a T'.length r v)
 (t:fX r) (u:∀o∈T',xH o):
 ∃h' f,Evo h φ T w h' f (T++T'.map (DC [] T.length)) w'/\Inv h' f w' (T++T'.map (DC [] T.length))/\Rp h' f (T++T'.map (DC [] T.length)).length (AR [] T.length r) v:=by
 have p:∀b,b<w.heap.size->w'.heap[b]?=w.heap[b]?:=λb z=>d.frame b z λi o e=>so;let h':GH:=unlentG h1 φ T;have s:CA h h':=by intro b c e;have h2:=d.le b c (xL hI b c e);show unlentG h1 φ T b=some c;unfold unlentG;rw[if_neg];exact h2;rintro⟨i,o,n,z⟩;have:=(iT (hI.obj i o n) z).2;rw[e]at this;simp at this
 have k:∀b c,h' b=some c->h1 b=some c/\¬∃i o,T[i]?=some (some o)/\kI (φ i)=some b:=by intro b c e;change unlentG h1 φ T b=some c at e;unfold unlentG at e;split at e;simp at e;rename_i q;exact⟨e,q⟩
 have A:Inv h' a w' T':=by
  refine⟨λb c e=>l.gh b c (k b c e).1,λi o e=>?_,l.dis⟩;have C:=l.obj i o e;refine aCe (u _ (Kd e)) (λg G=>?_) C;have D:=(iT C G).2
  cases F:h' g with
  |none=>rfl
  |some c=>rw[(k g c F).1]at D;simp at D
 have B:Evo h φc [] w h' a T' w':=by
  refine⟨d.os,d.tape,d.output,d.size,d.frame,s,λb c e=>?_,λi n=>by simp at n,d.org,s_,d.drawn⟩;obtain⟨H,q⟩:=k b c e;rcases d.gfr b c H with h2|h2|⟨i,o,h3,_⟩
  unfold lentG at h2;rw[if_neg q]at h2;exact .inl h2;exact .inr (.inl h2);simp at h3
 have m:GX ([]:V_) T=[]:=rfl;have:=aCd (L:=[]) (φc:=φc) s_ (λi n=>by simp at n) hI (λj i e=>so) (by rw[m];exact B) A (M2 (h':=h') t E);have y:IF [] T.length T [] T'=T++T'.map (DC [] T.length):=by
  cases T' with
  |nil=>simp[IF]
  |cons x T'=>rfl
 rw[y]at this;exact⟨h',this⟩
end
section
variable{P:Program}{G:L_}{h:GH}{φ:Nat->Value}{T:aK}{w:World}
mutual
def aEZ {h:GH} {φ:Nat->Value} {n:Nat}:∀{x y:AV}{u:Value},tV x y->Rp h φ n x u->Rp h φ n y u
 |.ag d,y,u,a,e=>by
  simp only[tV]at a;rcases a with rfl|⟨ds,rfl,a⟩
  exact e;simp only[Rp]at e⊢;obtain⟨b,h1,h2⟩:=e;exact⟨b,h1,Rs a h2⟩
 | .v x,y,u,a,e=>by
  simp only[tV]at a;rcases a with rfl|⟨rfl,k,rfl⟩|⟨b,rfl,rfl⟩
  exact e;simp only[Rp]at e;subst e;simp only[Rp,oB];exact⟨none,0,rfl,cN _,pR _,s_⟩;simp only[Rp]at e;subst e;simp only[Rp];refine⟨b,rfl,?_⟩;have:∀l:C_,cC h φ n (l.map .v) l:=by
   intro l
   induction l with
   |nil=>simp[cC]|cons c l ih=>simp only[fG,cC];exact⟨c,l,rfl,z_,ih⟩
  exact this _
 |.ls _ _,y,u,a,e=>by simp only[tV]at a;subst a;exact e|.own _,y,u,a,e=>by simp only[tV]at a;subst a;exact e|.ptr _ _,y,u,a,e=>by simp only[tV]at a;subst a;exact e|.elt _ _ _ _,y,u,a,e=>by simp only[tV]at a;subst a;exact e|.vw _ _ _ _,y,u,a,e=>by simp only[tV]at a;subst a;exact e|.mp _,y,u,a,e=>by simp only[tV]at a;subst a;exact e|.yl _,y,u,a,e=>by simp only[tV]at a;subst a;exact e|.rp _,y,u,a,e=>by simp only[tV]at a;subst a;exact e|.cl _ _,y,u,a,e=>by simp only[tV]at a;subst a;exact e|.bm _ _ _,y,u,a,e=>by simp only[tV]at a;subst a;exact e|.tup _,y,u,a,e=>by simp only[tV]at a;subst a;exact e|.any,y,u,a,e=>by simp only[tV]at a;subst a;exact e
def Rs{h:GH}{φ:Nat->Value}{n:Nat}:∀{cs ds:O_}{us:C_},EK cs ds->cC h φ n cs us->cC h φ n ds us|[],ds,us,a,e=>by simp only[EK]at a;subst a;exact e|c::cs,ds,us,a,e=>by simp only[EK]at a;obtain⟨d,i,rfl,h1,h2⟩:=a;simp only[cC]at e⊢;obtain⟨u,b,h3,g,f⟩:=e;exact⟨u,b,h3,aEZ h1 g,Rs h2 f⟩
end
def Zw{f:FuncId}{args:O_}{K:AV->aK->Prop}(hc:aC4 P G f args T K)(hG:tU G h)(hI:Inv h φ w T){vals:Array Value}(ha:cC h φ T.length args vals.toList):
 ((callFunc f vals).run P w=.ok (.enter f vals) w/\Calls P f vals w (λe w'=>∃v,e=.returned v/\CS h φ T w K v w')) \/
 (∃v w',(callFunc f vals).run P w=.ok (.value v) w'/\CS h φ T w K v w'):=by
 rcases hc with⟨L,hL,hlt,hc⟩|⟨hids,hc⟩|hc;have hφ:Kr L φ (λj=>φ (L.getD j 0)):=by intro j i e;simp[rH,e]
 have hlen:(GX L T).length=L.length:=by simp[GX]
 have back:∀v w',CS h (λj=>φ (L.getD j 0)) (GX L T) w (λr T'=>K (AR L T.length r) (IF L T.length T L T')) v w'->CS h φ T w K v w':=by rintro v w' ⟨r,T',h',φ',e1,e2,e3,e4⟩;obtain⟨φ2,e5,e6,e7⟩:=aCd hL hlt hI hφ e2 e3 e4;exact⟨_,_,h',φ2,e1,e5,e6,e7⟩
 exact(hc h _ w vals hG (aCb hL hI hφ) (by rw[hlen];exact DG hφ ha)).imp
  (λ⟨e,c⟩=>⟨e,c.mono λ_ w' ⟨v,e1,e2⟩=>⟨v,e1,back v w' e2⟩⟩) (λ⟨v,w',e,c⟩=>⟨v,w',e,back v w' c⟩)
 have back:∀v w',CS (lentG h φ T w) φ [] w (λr T'=>fX r/\(∀o∈T',xH o)/\K (AR [] T.length r) (T++T'.map (DC [] T.length))) v w'->CS h φ T w K v w':=by rintro v w' ⟨r,T',h',φ',⟨f1,f2,e1⟩,e2,e3,e4⟩;obtain⟨h2,φ2,e5,e6,e7⟩:=aCh hI e2 e3 e4 f1 f2;exact⟨_,_,h2,φ2,e1,e5,e6,e7⟩
 exact(hc (lentG h φ T w) φ w vals (hG.mono (xL hI)) (aCf hI φ) (M3 hI hids ha)).imp
  (λ⟨e,c⟩=>⟨e,c.mono λ_ w' ⟨v,e1,e2⟩=>⟨v,e1,back v w' e2⟩⟩) (λ⟨v,w',e,c⟩=>⟨v,w',e,back v w' c⟩)
 exact hc h φ w vals hG hI ha
def Ei{f:FuncId}{args:O_}{K:AV->aK->Prop}(c:IG P G f args T K)(j:tU G h)(hI:Inv h φ w T){a:Array Value}(i:cC h φ T.length args a.toList):
 ((callFunc f a).run P w=.ok (.enter f a) w/\Calls P f a w (λe b=>∃v,e=.returned v/\CS h φ T w K v b)) \/
 (∃v b,(callFunc f a).run P w=.ok (.value v) b/\CS h φ T w K v b):=by
 obtain⟨d,g,c⟩:=c;exact Zw c j hI (Rs g i)
end
end
section
variable{P:Program}{w:World}
def M5(a b:ByteArray):(a==b)=true↔a=b:=by rw[beq_toListBytes,beq_iff_eq,ByteArray.toList_eq,ByteArray.toList_eq];constructor;intro h;obtain⟨a⟩:=a;simp_all;rintro rfl;rfl
def Ej:∀{ls:List LK}{xs a:C_},rJ ls xs a=some true->xs=a
 |[],xs,a,e=>by cases xs<;>cases a<;>simp_all[rJ]
 | k::ls,xs,a,e=>by
  cases xs with
  |nil=>cases k<;>simp[rJ]at e
  | cons x xs=>
   cases a with
   |nil=>cases k<;>cases x<;>simp[rJ]at e
   | cons y a=>
    cases k<;>cases x<;>cases y<;>simp only[rJ]at e<;>(try (simp at e;done))
    split at e;rename_i c;split at e;rename_i r b;simp only[E_,zJ,beq_iff_eq]at e;obtain⟨rfl,rfl⟩:=e;rw[Ej b,c.1,c.2];simp at e;simp at e;split at e;rename_i r b;simp only[E_,zJ,beq_iff_eq]at e;obtain⟨rfl,rfl⟩:=e;rw[Ej b];simp at e;split at e;rename_i r b;simp only[E_,zJ]at e;obtain⟨h1,rfl⟩:=e;rw[<-beq_toListBytes,M5]at h1;rw[Ej b,h1];simp at e
def Ek(ens:List MapEntry)(i:Nat)(r:Option Nat)(out:Option (Nat×Value)):Prop :=
 match r with
 |none=>out=none|some j=>i<=j/\∃e,ens[j-i]?=some e/\out=some (j,e.val)
def M6{e:MapEntry}{ens:List MapEntry}{i:Nat}{r:Option Nat}{out:Option (Nat×Value)}(h:Ek ens (i+1) r out):Ek (e::ens) i r out:=by
 cases r with
 |none=>exact h|some j=>
  obtain⟨h1,x,h2,h3⟩:=h;refine⟨o_,x,?_,h3⟩;grind
def aCj{n:Nat}{g:TypeId}{ag:Bool}{ls:List LK}(j:iF P n g=some (ag,ls))(h:n<=Op.maxDepth){kc:C_}:∀(ens:List MapEntry)(ks:List C_)(i:Nat)(r:Option Nat),
 ens.map (·.key)=ks.map (iY ag)->eR ls kc ks i=some r->∃out,Ek ens i r out/\(Instr.findAsking g (iY ag kc) ens i).run P w=.ok out w
 |[],[],i,r,_,a=>by
  simp only[eR,E_]at a;subst a;exact⟨none,rfl,by simp[Instr.findAsking]⟩
 |[],_::_,_,_,c,_=>by simp at c|_::_,[],_,_,c,_=>by simp at c| e::ens,k::ks,i,r,c,a=>by
  simp only[fG,List.cons.injEq]at c;simp only[eR]at a;have d:∀b,rJ ls kc k=some b->(Op.equal g (iY ag kc) e.key).run P w=.ok b w:=λb f=>by rw[c.1];exact(Fv n g ag ls j).2 Op.maxDepth h _ _ _ f
  split at a;rename_i f;cases a;exact⟨some (i,e.val),⟨cN _,e,s_,rfl⟩,by simp[Instr.findAsking,d _ f]⟩;rename_i f;obtain⟨out,h1,h2⟩:=aCj j h ens ks (i+1) r c.2 a;exact⟨out,M6 h1,by simp[Instr.findAsking,d _ f,h2]⟩;simp at a
def Tr:LK->TypeDesc->Prop|.int k,d=>d=.int k|.bool,d=>d=.bool|.str,d=>d=.string
def Qb{l:LK}{d:TypeDesc}(a:Tr l d){x y:C_}{b:Bool}(h:rJ [l] x y=some b):Instr.sameNow d (iY false x) (iY false y)=some b:=by
 have c:=Bf h
 match x,y,c with
 |[x],[y],_=>
  cases l<;>cases x<;>cases y<;>simp only[rJ]at h<;>(try (simp at h;done))
  simp_all[yH,E_,Tr,iY,Instr.sameNow];simp_all[yH,E_,Tr,iY,Instr.sameNow];simp only[yH,E_]at h;simp only[Tr]at a;subst a;simp[iY,Instr.sameNow,<-h,beq_toListBytes]
def Rt{l:LK}{d:TypeDesc}(c:Tr l d){kc:C_}:∀(ens:List MapEntry)(ks:List C_)(i:Nat)(r:Option Nat),
 ens.map (·.key)=ks.map (iY false)->eR [l] kc ks i=some r->∃out,Ek ens i r out/\Instr.findNow d (iY false kc) ens i=some out
 |[],[],i,r,_,a=>by
  simp only[eR,E_]at a;subst a;exact⟨none,rfl,by simp[Instr.findNow]⟩
 |[],_::_,_,_,b,_=>by simp at b|_::_,[],_,_,b,_=>by simp at b|e::ens,k::ks,i,r,b,a=>by simp only[fG,List.cons.injEq]at b;simp only[eR]at a;split at a;rename_i f;cases a;refine⟨some (i,e.val),⟨cN _,e,s_,rfl⟩,?_⟩;simp only[Instr.findNow,b.1,Qb c f];rename_i f;obtain⟨out,h1,h2⟩:=Rt c ens ks (i+1) r b.2 a;refine⟨out,M6 h1,?_⟩;simp only[Instr.findNow,b.1,Qb c f,h2];simp at a
def zP {n:Nat} {j:TypeId} {ag:Bool} {ls:List LK} (i:iF P n j=some (ag,ls)) (m:n<=Op.maxDepth) {kc:C_} {ens:List MapEntry} {ks:List C_} {r:Option Nat}
 (f:ens.map (·.key)=ks.map (iY ag)) (c:eR ls kc ks 0=some r):∃out,Ek ens 0 r out/\(Instr.findKey j (iY ag kc) ens).run P w=.ok out w:=by
 cases n with
 |zero=>simp[iF]at i| succ n=>
  have a:=i;simp only[iF]at a;split at a;rename_i k b;cases a;obtain⟨out,h1,h2⟩:=Rt (d:=.int k) (l:=.int k) rfl ens ks 0 r f c;exact⟨out,h1,sj⟩;rename_i b;cases a;obtain⟨out,h1,h2⟩:=Rt (d:=.bool) (l:=.bool) rfl ens ks 0 r f c;exact⟨out,h1,sj⟩;rename_i b;cases a;obtain⟨out,h1,h2⟩:=Rt (d:=.string) (l:=.str) rfl ens ks 0 r f c;exact⟨out,h1,sj⟩;rename_i o b;obtain⟨out,h1,h2⟩:=aCj (w:=w) i m ens ks 0 r f c
  cases ens with
  | nil=>
   cases ks with
   |nil=>
    simp only[eR,E_]at c;subst c;exact⟨none,rfl,by simp[Instr.findKey,run_underlying b,Instr.findNow]⟩
   |cons k ks=>simp at f
  | cons e ens=>
   refine⟨out,h1,?_⟩;have:Instr.findNow (.struct o) (iY ag kc) (e::ens) 0=none:=Y_;simp[Instr.findKey,run_underlying b,this,h2]
  simp at a
def Qc {n:Nat} {em:Bool} {d:Nat} (ih:∀t k ks,iF P n t=some (k,ks)->(k=false->ks.length=1)/\∀o b,rJ ks o o=some b->(Instr.checkKey em d t (iY k o)).run P w=.ok () w)
 (X:Array Value):∀(m:List Field)(off:Nat)(ks:List LK)(b:Bool),G7 P (iF P n) m off=some ks ->
  rJ ks (X.toList.drop off) (X.toList.drop off)=some b->off<=X.size ->
  (forIn m PUnit.unit (λf _=>if f.name ≠ "_" then(do
   let y <-part f.type X f.offset
   Instr.checkKey em d f.type y
   pure (ForInStep.yield PUnit.unit)) else pure (ForInStep.yield PUnit.unit)):Sem PUnit).run P w=.ok () w
 |[],off,ks,b,a,q,_=>by simp| f::m,off,ks,b,a,q,B=>by
  simp only[G7]at a;split at a;rename_i k e x;split at a;rename_i z;obtain⟨c,i,r⟩:=z;split at a;rename_i l u;cases a;obtain⟨C,A,h1,h2,h3⟩:=IJ q;have j:=Bf q;simp only[vY,dZ,GV]at j;obtain⟨h,v⟩:=ih _ _ _ x;have p:(part f.type X f.offset).run P w=.ok (iY k ((X.toList.drop off).take e.length)) w:=by rw[i];exact Eg r h o_
  have s:=v _ _ h1;rw[Kg]at h2;have g:=Qc ih X m (off+e.length) l A u h2 o_;simp only[List.forIn_cons,Sem.run_bind,c,ne_eq,not_false_eq_true,if_true,Result.andThen_ok,p,s,Sem.run_pure];exact g;simp at a;simp at a;simp at a
def Ts {em:Bool}:∀(n:Nat)(e:TypeId)(ag:Bool)(ls:List LK),iF P n e=some (ag,ls)->∀d,n<=d->∀kc b,rJ ls kc kc=some b->(Instr.checkKey em d e (iY ag kc)).run P w=.ok () w
 |0,_,_,_,f=>by simp[iF]at f
 | n+1,e,ag,ls,f=>by
  intro d s kc b m;obtain⟨d,rfl⟩:∃r,d=r+1:=⟨d-1,o_⟩
  have a:=f;simp only[iF]at a;split at a;rename_i k c;simp[Instr.checkKey,run_underlying c];rename_i c;simp[Instr.checkKey,run_underlying c];rename_i c;simp[Instr.checkKey,run_underlying c];rename_i o c;split at a;simp at a;split at a;rename_i l j;injection a with a;injection a with q p;subst q;subst p;have h:=Qc (w:=w) (em:=em) (d:=d) (λt ag g i=>⟨(Fv (w:=w) n t ag g i).1,Ts n t ag g i d o_⟩) kc.toArray o.toList 0 l b j (by simpa using m) s_;simp only[Instr.checkKey,iY,if_true,Sem.run_bind,run_underlying c,Result.andThen_ok];rw[<-Array.forIn_toList,h];simp;simp at a;simp at a
def CC:∀{ls:List LK}{xs:C_}{b:Bool},rJ ls xs xs=some b->∀x∈xs,∀n,Instr.sameBits n x x=true
 |[],xs,b,h,x,a=>by cases xs<;>simp_all[rJ]
 |l::ls,[],b,h,x,a=>by simp at a| l::ls,y::xs,b,h,x,a=>by
  have c:∃e,rJ ls xs xs=some e:=by
   cases l<;>cases y<;>simp only[rJ]at h<;>(try (simp at h;done))
   grind;grind;grind
  obtain⟨e,d⟩:=c;intro n;rcases cS.1 a with rfl|a
  ·cases l<;>cases x<;>simp only[rJ]at h<;>(try (simp at h;done))<;>cases n<;>simp[Instr.sameBits,M5]
  exact CC d x a n
def Tt {ag:Bool} {ls:List LK} {kc:C_} {b:Bool} (d:rJ ls kc kc=some b) (h1:ag=false->ls.length=1):(Instr.keyThatStays (iY ag kc) (iY ag kc)).run P w=.ok (iY ag kc) w:=by
 have:Instr.sameBits 10000 (iY ag kc) (iY ag kc)=true:=by
  cases ag with
  |false=>
   have f:=Bf d;rw[h1 rfl]at f
   match kc,f with
   |[x],_=>simpa[iY]using CC d x s_ 10000
  | true=>
   have c:∀m,Instr.sameBits (m+1) (iY true kc) (iY true kc)=true:=λm=>by
    simp only[iY,if_true,Instr.sameBits,beq_self_eq_true,mF,oD];rintro⟨x,y⟩ e;have a:x=y/\x∈kc:=by rw[List.zip_eq_zipWith]at e;obtain⟨i,g⟩:=QF e;grind
    rw[<-a.1];exact CC d x a.2 m
   exact c 9999
 simp[Instr.keyThatStays,this]
end
end Hud
