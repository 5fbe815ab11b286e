import Derived.Test.YtlhonkjgkfdnmaaGreatDoorLib45
set_option linter.all false
set_option maxHeartbeats 40000000
namespace Hud
open Go
variable{G:L_}
section
variable{cs:List CardM}{g:GM}
def aPo{p:PGM}(t:Tie p g)(b:∀x∈g.I,∀d,byO (p.nd x).o=some d->1<=d/\d<=12):∀(l:D_)(out:B_),(∀x∈l,x∈g.I)->l.foldl (aMk g) out=l.foldl (kV p) out
 |[],_,_=>rfl
 | x::l,out,h=>by
  have a:=h x (.head _);rw[CW,CW,aPo t b l _ λy f=>h y (.tail _ f)];congr 1;unfold aMk kV;rw[t.op a];have:=b x a
  cases e:byO (p.nd x).o with
  |none=>simp
  |some d=>
   have:=(this d e).1;by_cases c:d∈out<;>simp[c,show 0<d by omega]
variable(hc:cardsOk cs)(hG:CardsG cs)(hs:uE cs=cs)(h:Reach cs g)
include hc hG hs h
def aPG{ss:D_}(j:∀x∈ss,x∈g.I)(u:ss.Nodup):∃l:LD,l.ok g/\l.row.length<=900/\l.f.length=g.L.length/\(∀i b,(aJ5 g ((l.row.take i).foldl (aGd g l.v) []) b).need)/\aMn g l=kW (AM cs g.L) ss/\(∀x,aRi g l ss x=Gk (AM cs g.L) ss (zH ss) x)/\aA PQ G aEU [.ag g.A,ids ss] [] λr T=>r=.ag l.A/\T=[]:=by
 have m:=h.good hc;have t:=h.tie hc hG hs;obtain⟨K,E⟩:=aPF hc hG hs h j u;have hI:g.I.length<=200:=by have:=t.gi;have:=t.n;omega
 have D:ss.length<=200:=uR (u.length_le_of_subset j) hI;have q:=aPv (G:=G) g ss m.ok m.wf.up o_ λx c=>(Cz g.I x).2 (j x c);rw[<-aRh hc h j]at q
 have w:∀x∈g.I,∀d,byO ((AM cs g.L).nd x).o=some d->1<=d/\d<=12:=λx c d e=>aPO (h.checked _ (by
  rw[<-t.op c,rH,jN (aJ3 t.gi c)]
  exact eQ _)) e
 generalize AM cs g.L=p at *
 have a:∀x∈eO p ss,x∈g.I:=λx c=>j x ((mE p ss).mem_iff.1 c);have k:(eO p ss).Nodup:=(mE p ss).nodup_iff.2 u;have C:(eO p ss).length<=200:=by rw[aDM];exact D
 have B:=aPc (G:=G) g m.ok ss (eO p ss) q o_ a;rw[aPo t w _ _ a,show(eO p ss).foldl (kV p) []=BQ p ss from rfl]at B;have F:=aQp (G:=G) g m.ok t.gi ss (eO p ss) q o_ a o_ j;have h0:=aPP (ss:=ss) t.gi a o_;have y:(aJ6 g (eO p ss) ss).row.length<=900:=by rw[aJ6,aP];omega
 have J:=aPj (G:=G) g m.ok ss (aJ6 g (eO p ss) ss) h0 y (λv i b=>t.need v _ a k i b) (BQ p ss) (by have:=TD (g:=p) (eO p ss) [];unfold BQ;simp only[gQ]at this;omega) F B;obtain⟨z,H⟩:=aOh (g:=g) (s:=BQ p ss) (aJ6 g (eO p ss) ss).left (aJ6 g (eO p ss) ss);refine⟨_,aQs _ h0,by rw[z];exact y,?_,λi b=>by rw[z];exact t.need _ _ a k i b,K,E,aQq J⟩;rw[H,aJ6,aMF,aM0,aKI,QE]
def aPZ{ss:D_}(b:∀x∈ss,x∈g.I)(a:ss.Nodup):aA PQ G aJd [.ag g.A,ids ss] [] λr T=>r=ids (kW (AM cs g.L) ss)/\T=[]:=by obtain⟨l,h1,h2,h3,e,d,f,c⟩:=aPG (G:=G) hc hG hs h b a;have:=aPD g (h.good hc).ok ss l h1 h2 e c;rwa[d]at this
end
def RollAt.keep{T T':aK}{s:RP}{r:RM}(h:RollAt T s r)(a:∀x,aB7 s r x->T'[x]?=T[x]?):RollAt T' s r where
 root:=by rw[a _ (.inl J_)];exact h.root
 cards:=by rw[a _ (.inl J_)];exact h.cards
 inn:=by rw[a _ (.inl J_)];exact h.inn
 was:=by rw[a _ (.inl J_)];exact h.was
 mems:=by rw[a _ (.inl J_)];exact h.mems
 mslen:=h.mslen
 each:=λk h1 h2=>(h.each k h1 h2).mono (λi b=>a i (.inr ⟨k,by rw[D4 h1 h2];exact b⟩)) λ_ _ _=>Iff.rfl
 nd:=h.nd
def LS(cs:List CardM)(r:RM):Prop:=r.Cards=cs/\∀m∈r.L,m.N∈cs.map (·.Member)
def aR1{r:RM}{d:Int}(h:0<eI r d):eI r d∈r.Cards.map (·.Member):=by
 unfold eI at *
 split at h;rename_i c e;exact List.mem_map_of_mem (Mg e);omega
section
variable{cs:List CardM}{r:RM}
def LS.comes(h:LS cs r)(d role:Int):LS cs (mU r d role):=by unfold mU;split;exact h;rename_i b;have h0:=(C3 R_).2.2;have h1:=aR1 h0;rw[h.1]at h1;refine⟨h.1,λm a=>?_⟩;simp only at a;split at a;rcases cG.1 a with a|a;exact h.2 m a;rw[cA.1 a];exact h1;exact h.2 m a
def LS.goes(h:LS cs r)(d:Int):LS cs (lN r d):=by unfold lN;split;exact h;simp only;split;exact h;exact⟨h.1,λm a=>h.2 m (gR.1 a).1⟩
def LS.foldGoes:∀(l:B_){r:RM},LS cs r->LS cs (l.foldl lN r)|[],_,h=>h|d::l,_,h=>LS.foldGoes l (h.goes d)
def LS.setM(h:LS cs r){k:Nat}(b:k<r.L.length){m':MM}(c:m'.N=r.L[k].N):∀m∈r.L.set k m',m.N∈cs.map (·.Member):=λm a=>by rcases aGK a with a|rfl;exact h.2 m a;rw[c];exact h.2 _ (eQ b)
def LS.do'(h:LS cs r)(o:OpM)(x:Id):LS cs (BS r o x):=by unfold BS;split;split;exact h;exact⟨(h.comes o.By 3).1,(h.comes o.By 3).2⟩;split;exact h.comes _ _;split;exact h.foldGoes _;split;split;exact h;obtain⟨k,e,a,_⟩:=Ox (o_:0<=jL r o.Member);rw[e,nI,nH a];exact⟨h.1,h.setM a rfl⟩;split;unfold BN;simp only;split;exact h;obtain⟨k,e,a,_⟩:=Ox (o_:0<=jL r (eI r o.By));rw[e,nI,nH a];exact⟨h.1,h.setM a rfl⟩;split;unfold iQ;split;exact h;exact⟨h.1,h.2⟩;split;simp only;split;exact h;obtain⟨k,e,a,_⟩:=Ox (o_:0<=jL r (eI r o.By));rw[e,nI,nH a];split;exact⟨h.1,h.setM a rfl⟩;exact h;split;simp only;split;exact h;split;exact(h.comes _ _).goes _;exact h;exact h
def LS.fold(p:PGM):∀(l:D_){r:RM},LS cs r->LS cs (l.foldl (ZO p) r)|[],_,h=>h|y::l,_,h=>LS.fold p l (h.do' _ _)
def LS.len(h:LS cs r)(a:r.nn)(d:cs.length<=12):r.L.length<=12:=by
 have:=(KR.1 a).length_le_of_subset (l₂:=cs.map (·.Member)) λn b=>by obtain⟨m,c,rfl⟩:=dF.1 b;exact h.2 m c
 rw[aP,aP]at this;omega
end
def aRn{g:GM}(c:Reach bQ g){x:Id}(b:x∈g.I):∃a:Nat,aW g.I x=(a:Int)/\(g.L.map OpM.A)[a]?=some ((AM bQ g.L).nd x).o.A:=by have d:=c.good rY;have h0:=(Cz g.I x).2 b;have h1:=aJ3 d.ok.i b;have h2:=aIE b;have h3:=(aPg rY c _ h1).2;rw[h2]at h3;refine⟨(aW g.I x).toNat,o_,?_⟩;rw[gE,jN h1,h3];simp[rH,h1]
def aMI(l:B_)(e:l.length<=100000):aA PQ G aH8 [rG l,rG l] [] λr d=>r=.v (.bool true)/\d=[]:=by refine aC aMd ?_;simp only[go_sem,rG,aP,bne_self_eq_false];refine aQ l.length (λi=>⟨0,[(0,rG l),(1,rG l),(5,iv i)],[]⟩) (λ_=>True) ?_ trivial ?_ ?_;simp only[go_sem,rG];intro i a _;have b:=fQ i o_;have c:(l.map λn=>[iv n])[i]?=some [iv l[i]]:=aO _ l i a;simp only[go_sem,rG,aP,aT a,c,bne_self_eq_false,b];intro _;simp only[go_sem,rG,aP,aS (bP _)]
def aPp(hs:uE bQ=bQ)(hK:GK G)(hA:AK G)(l m:B_)(hl:l.length<=2^63-1)(hi:∀n∈l,mZ n)(s:m.length<=2^63-1)(az:∀n∈m,mZ n):
 aA PQ G aLK [rG l,rG m] [] λr T=>r=.v (.bool true)/\T=[]:=by
 apply aC aM6;simp only[go_sem];apply Jo (aBj l hl hi 16 d_);rintro r T' ⟨⟨g,O,bo,rfl⟩,rfl⟩;have Z:=O.hyp6.1;have gd:=O.good rY;have u:=O.ggood rY JP;simp only[go_sem];apply cX (VZ g Z);simp only[go_sem];apply kM (RS hK O);have ad:(AM bQ g.L).I=g.I:=gd.sim.i;have aw:=O.nd rY;have ba:=gd.cards;have ac:(AM bQ g.L).cards=bQ:=by rw[RL bQ _ _ rfl,hs]
 simp only[go_sem,TG,MG];apply cX (aE7 g Z m s az);have E:=XW Z.i m;have P:=Sy Z.i aw m;have bk:=XX Z m;generalize qI g m=S at *
 have hD:=aPZ (G:=G) rY JP hs O E P;have hC:=λ(T:aK)(h:GAt T (1,2,3) (AM bQ g.L))=>aRl hA h u (l:=S) (λx z=>by rw[ad];exact E x z) P;have au:=λx=>Dt (G:=G) g x Z;have c:=Aa (g:=AM bQ g.L) (V:=sU (AM bQ g.L) (eO (AM bQ g.L) S) (zH S)) (eO (AM bQ g.L) S) [];rw[dM]at c;have R:∀x∈kW (AM bQ g.L) S,x∈g.I:=λx z=>E x ((mE _ _).mem_iff.1 (c.subset z));have U:(kW (AM bQ g.L) S).Nodup:=((mE (AM bQ g.L) S).nodup_iff.2 P).sublist c;have ab:=λx(z:x∈kW (AM bQ g.L) S)=>aRn O (R x z);have H:∀x∈kW (AM bQ g.L) S,x∈(AM bQ g.L).I:=λx z=>by rw[ad];exact R x z
 have be:=aBl hK (aIS hA);have C:CardsG bQ:=JP;have af:(bQ.map (·.Device)).Nodup:=C.nd;clear c R;simp only[go_sem,ba];generalize AM bQ g.L=p at *
 generalize bh:kW p S=b at *
 obtain⟨D,w⟩:∃D:aK,D=[some (.box g.A),some (.box [.ls 5 (p.cards.map CardM.A),.mp 2,.own 3]),some (MG p.I),some (.arr 35 (p.nodes.map ND.A))]:=⟨_,rfl⟩
 have bg:GAt D (1,2,3) p:=by rw[w];exact⟨rfl,rfl,rfl,d_,d_,d_⟩
 have b0:∀X:aK,(D++X)[0]?=some (some (.box g.A)):=λX=>by rw[w];rfl
 have bm:D.length=4:=by rw[w];rfl
 rw[show [some (AObj.box g.A),some (AObj.box [AV.ls 5 (p.cards.map CardM.A),AV.mp 2,AV.own 3]),some (AObj.map true (p.I.map Id.K) ((List.range p.I.length).map λx:Nat=>AV.v (Value.int IntKind.i64 (x:Int))) (List.range p.I.length) p.I.length),some (AObj.arr 35 (p.nodes.map ND.A))]=D from w.symm];clear w;apply jA (O1 bQ d_ af);rintro y T' ⟨Y,rfl,M,⟨X0,rfl⟩,ak⟩;simp only[go_sem];apply jA (hC (D++X0) bg.app);rintro y T' ⟨s1,rfl,k⟩;have b1:∀X:aK,(D++X0++X)[0]?=some (some (.box g.A)):=λX=>by rw[eB];exact b0 _
 have hb:(T':aK)[0]?=some (some (.box g.A)):=by obtain⟨X,rfl⟩:=k.ext;exact b1 X
 simp only[go_sem,hb];apply cX hD;simp only[go_sem,hb];have Q:∀i,RGood ((b.take i).reverse++[]) p.cards ((b.take i).foldl (ZO p) (RM.new p.cards)):=λi=>by refine B6 u _ (RGood.new u.cards) (λy hy=>H y (C8 hy)) ?_;rw[jO];exact U.sublist (List.take_sublist _ _)
 have bi:b.length<=200:=by have:=List.Nodup.length_le_of_subset U H;have h2:=u.ok.n;simp only[PGM.I,aP]at this;omega
 rw[ac]at Q;have f:=Q b.length;rw[dE]at f;have hR:aMG p b=b.foldl (ZO p) (RM.new bQ):=by unfold aMG;rw[ac]
 rw[hR]at k;have an:∀x,aB7 Y (RM.new bQ) x->¬aB7 s1 (b.foldl (ZO p) (RM.new bQ)) x:=λx h1 h2=>by have:=k.fp x h2;have h3:=M.lt h1;omega
 have aj:RollAt T' Y (RM.new bQ):=by obtain⟨X,rfl⟩:=k.ext;exact M.app
 have ai:=k.at';have aa:¬aB7 Y (RM.new bQ) 0:=λh=>by have:=ak 0 h;omega
 clear hC hD k ak M;generalize hF:b.foldl (ZO p) (RM.new bQ)=F at *
 refine kL (λn st=>∃i,i<=b.length/\n=b.length-i/\∃(T1:aK)(sr:RP),sr.root=Y.root/\T1[0]?=some (some (.box g.A))/\RollAt T1 sr ((b.take i).foldl (ZO p) (RM.new bQ))/\RollAt T1 s1 F/\(∀x,aB7 sr ((b.take i).foldl (ZO p) (RM.new bQ)) x->¬aB7 s1 F x) /\
  (¬aB7 sr ((b.take i).foldl (ZO p) (RM.new bQ)) 0) /\
  st=⟨0,[(11,iv i),(10,ids b),(9,.ptr s1.root 0),(8,.ptr Y.root 0),(5,.ptr 0 0)],T1⟩) b.length ⟨0,pR _,rfl,_,Y,rfl,hb,aj,ai,an,aa,rfl⟩ ?_
 clear aj ai an aa hb b1;rintro n st ⟨i,bn,bj,T1,sr,J,t0,q,j,al,hz,rfl⟩;rcases eD i b.length with t|bp;rotate_left;obtain rfl:i=b.length:=o_;rw[dE,hF]at q;have B:=f.nodup12 C;have ao:F.L.length<=12:=by have h1:=LS.fold p (cs:=bQ) b (r:=RM.new bQ) ⟨rfl,sy⟩;rw[hF]at h1;exact h1.len f.nn d_
 have hS:=aP9 (G:=G) j q f.nn (λm s=>by have:=f.mg m s;omega);have bd:=Fp (G:=G) j B.1 B.2;have am:=Fp (G:=G) q B.1 B.2;have ax:=aLR (G:=G) j ao (λm s=>by have:=f.pos m s;omega);have ah:=aLR (G:=G) q ao (λm s=>by have:=f.pos m s;omega);have bc:=aMI (G:=G) (C0 F.In) (by rw[aLV];omega);have bb:=aMI (G:=G) (C0 (F.L.map (·.N))) (by rw[aLV,aP];omega);rw[J]at hS am ah;simp only[go_sem,ids,aP,aS (bP _)];apply jA hS;rintro y T' ⟨rfl,e⟩;obtain rfl:=e.symm;simp only[go_sem];apply jA bd;rintro y T' ⟨rfl,e⟩;obtain rfl:=e.symm;simp only[go_sem];apply jA am;rintro y T' ⟨rfl,e⟩;obtain rfl:=e.symm;simp only[go_sem];apply cX bc;simp only[go_sem];apply jA ax;rintro y T' ⟨rfl,e⟩;obtain rfl:=e.symm;simp only[go_sem];apply jA ah;rintro y T' ⟨rfl,e⟩;obtain rfl:=e.symm;simp only[go_sem];apply cX bb;simp only[go_sem];apply cX be;simp only[go_sem,aNh,uP];have ws:=fQ i o_;have g0:(b.map Id.A)[i]?=some b[i].A:=aO _ b i t;obtain⟨a,ha,ga⟩:=ab _ (eQ t);have ae:=au b[i];rw[ha]at ae;have d:=Q i;have ft:b.take (i+1)=b.take i++[b[i]]:=lB t;have ar:b[i]∉b.take i:=λs=>by have h1:=U.sublist (List.take_sublist (i+1) b);rw[ft,vQ]at h1;exact h1.2.2 _ s _ (cA.2 rfl) rfl
 have av:=u.op (H _ (eQ t));have aq:=d.nodup12 C
 have ap:=RK (G:=G) q d.wf d.inn (aEk (by rw[d.cards];exact C)) aq.1 aq.2 (p.nd b[i]).o b[i] (by have:=av.1.gl;omega) (λv hv e=>by
  obtain⟨m,s,hI,bf,_⟩:=d.vof v hv;have:=d.gid m s hI;rw[bf,e,jO,List.mem_reverse]at this
  exact ar this) d.wv d.pos
 rw[J]at ap;simp only[go_sem,ids,aP,aT t,g0,t0];apply cX ae;simp only[go_sem,ids,t0,g0,ga];apply jA ap;rintro y T' ⟨s2,W⟩;simp only[go_sem,ws];have ay:=dB t0
 exact⟨b.length-(i+1),o_,i+1,o_,rfl,T',s2,W.root.trans J,by rw[W.same 0 ay hz];exact t0,by rw[ft,Hy];exact W.at',j.keep (λx z=>W.same x (j.lt z) λh=>al x h z),
  (λx h1 h2=>by rw[ft,Hy]at h1;exact(W.fp x h1).elim (λh=>al x h h2) λh=>by have:=j.lt h2;omega),(λh=>by rw[ft,Hy]at h;exact(W.fp 0 h).elim hz λh=>o_),rfl⟩
end Hud
