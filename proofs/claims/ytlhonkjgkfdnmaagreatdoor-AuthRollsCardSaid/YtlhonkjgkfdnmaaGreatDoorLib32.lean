import Derived.Test.YtlhonkjgkfdnmaaGreatDoorLib15
import Derived.Test.YtlhonkjgkfdnmaaGreatDoorLib18
import Derived.Test.YtlhonkjgkfdnmaaGreatDoorLib28
import Derived.Test.YtlhonkjgkfdnmaaGreatDoorLib29
import Derived.Test.YtlhonkjgkfdnmaaGreatDoorLib30
set_option linter.all false
set_option maxHeartbeats 40000000
namespace Hud
open Go
variable{G:L_}
def Su(g:PGM)(x:Id):Int:=if x∈g.I then(g.nd x).lv else 0
def P0(g:PGM)(x y:Id):Bool:=decide (Su g x<Su g y)||(decide (Su g x=Su g y)&&x.lt y)
def aFP{g:PGM}{x y:Id}(h:P0 g x y=false)(k:P0 g y x=false):x=y:=by
 simp only[P0,YE,aBM,decide_eq_false_iff_not]at h k;have e:Su g x=Su g y:=o_;exact Id.lt_total (h.2.resolve_left o_) (k.2.resolve_left o_)
def aAX{g:PGM}{x y:Id}(h:P0 g x y=true):P0 g y x=false:=by
 simp only[P0,Ec,zJ,decide_eq_true_eq,YE,aBM,decide_eq_false_iff_not]at h⊢;rcases h with h|⟨h1,h2⟩
 omega;exact⟨o_,.inr (Id.lt_asymm h2)⟩
def XE{g:PGM}{x y z:Id}(h:P0 g y x=false)(k:P0 g z y=false):P0 g z x=false:=by simp only[P0,YE,aBM,decide_eq_false_iff_not]at h k⊢;refine⟨o_,?_⟩;by_cases e:Su g z=Su g x;exact .inr (Id.nlt_trans (k.2.resolve_left o_) (h.2.resolve_left o_));exact .inl e
def eO(g:PGM)(l:D_):D_:=l.mergeSort λx y=>!(P0 g y x)
def mE(g:PGM)(l:D_):(eO g l).Perm l:=H4 l _
def aDM(g:PGM)(l:D_):(eO g l).length=l.length:=(mE g l).length_eq
def U4(g:PGM)(l:D_):(eO g l).Pairwise λx y=>P0 g y x=false:=by
 have:=List.pairwise_mergeSort (le:=λx y=>!(P0 g y x)) (λa b c h1 h2=>by simp only[EX]at *;exact XE h1 h2)
  (λa b=>by
   cases h:P0 g b a with
   |false=>simp|true=>simp[aAX h]) l
 refine this.imp λh=>?_;simpa using h
def aLO {g:PGM}:∀{l m:D_},l.Perm m->l.Pairwise (λx y=>P0 g y x=false)->m.Pairwise (λx y=>P0 g y x=false)->l=m
 |[],m,a,_,_=>(List.nil_perm.1 a).symm ▸ rfl
 |x::l,[],a,_,_=>absurd a.length_eq s_
 | x::l,y::m,a,h1,h2=>by
  obtain⟨i,h⟩:=H5.1 h1;obtain⟨f,d⟩:=H5.1 h2;have e:x=y:=by have c:x∈y::m:=a.mem_iff.1 s_;have b:y∈x::l:=a.mem_iff.2 s_;rcases cS.1 c with e|c;exact e;rcases cS.1 b with e|b;exact e.symm;exact aFP (f x c) (i y b)
  subst e;rw[aLO (List.perm_cons x |>.1 a) h d]
def B2(g:PGM)(x y:Id):Int:=nF [wG (Su g x) (Su g y),if x.lt y then -1 else if y.lt x then 1 else 0]
def U5{g:PGM}{x y:Id}(h:P0 g x y=true):B2 g x y=-1:=by simp only[P0,Ec,zJ,decide_eq_true_eq]at h;grind[B2,wG,nF]
def aDN{g:PGM}{x y:Id}(h:P0 g y x=true):B2 g x y=1:=by
 simp only[P0,Ec,zJ,decide_eq_true_eq]at h;rcases h with h|⟨h1,h2⟩
 grind[B2,wG,nF];simp[B2,wG,nF,h1,h2,Id.lt_asymm h2]
theorem aDO(g:PGM)(x:Id):B2 g x x=0:=by simp[B2,wG,nF,Id.lt_irrefl]
def aKk(n:ND)(h:n.W.length=4):n.A[34]?=some (iv n.lv):=by simp_all[ND.A,OpM.len,oC,Id.A]
def RA{g:PGM}{x:Id}{j:Nat}(h:g.I.findIdx? (λy=>decide (y=x))=some j):g.nd x=g.nodes.getD j XD:=by simp[PGM.nd,PGM.at,h]
def GL(g:PGM)(f:g.ok)(x:Id):aA PQ G nC [.ptr 0 0,.ag x.A] (TG 0 g) λr T=>r=iv (Su g x)/\T=TG 0 g:=by
 apply aC Dk;have l:=AL x;have a:=qH x g.I 0;by_cases b:x∈g.I;obtain⟨j,h1,h2,_⟩:=dG b;have d:=RA h1;rw[h1]at a;have h:=yC g.I.length j h2;have e:j<g.nodes.length:=by grind[PGM.I]
 have i:(g.nodes.map ND.A)[j]?=some (g.nd x).A:=t_;have c:=(Q9 f x).1;have k:=aKk (g.nd x) c;have m:=ND.Alen (g.nd x) c;simp only[iX,mG]at a;simp only[Su,if_pos b];generalize(g.nd x)=n at *
 simp only[go_sem,TG,MG,a,h,aP,e,i,k];rw[eG b]at a;simp only[xD]at a;simp only[go_sem,TG,MG,a,Su,if_neg b]
def aPQ(g:PGM)(b:g.ok)(x y:Id):aA PQ G lL [.ag [.ptr 0 0],.ag x.A,.ag y.A] (TG 0 g) λr T=>r=iv (B2 g x y)/\T=TG 0 g:=by refine aC EP ?_;simp only[go_sem,TG,MG];apply cX (Cm x y);simp only[go_sem];refine aL (λh=>?_) (λh=>?_);rotate_left;simp only[go_sem];apply cX (Cm y x);simp only[go_sem];refine aL (λh2=>?_) (λh2=>?_);simp only[go_sem];apply aG [0,1,2] (aB _) d_ s_ m_ y_ (GL g b x);rintro r a ⟨rfl,rfl⟩;simp only[go_sem,TG,MG];apply aG [0,1,2] (aB _) d_ s_ m_ y_ (GL g b y);rintro r a ⟨rfl,rfl⟩;simp only[go_sem,TG,MG];apply cX (kB _ _);simp only[go_sem];apply cH (aB _) rfl rfl (AC [wG (Su g x) (Su g y),1] (by simp[maxLen]));rintro r a ⟨rfl,rfl⟩;refine⟨w_,s_,?_⟩;simp only[go_sem,B2,h,h2,jJ];simp only[go_sem];apply aG [0,1,2] (aB _) d_ s_ m_ y_ (GL g b x);rintro r a ⟨rfl,rfl⟩;simp only[go_sem,TG,MG];apply aG [0,1,2] (aB _) d_ s_ m_ y_ (GL g b y);rintro r a ⟨rfl,rfl⟩;simp only[go_sem,TG,MG];apply cX (kB _ _);simp only[go_sem];apply cH (aB _) rfl rfl (AC [wG (Su g x) (Su g y),0] (by simp[maxLen]));rintro r a ⟨rfl,rfl⟩;refine⟨w_,s_,?_⟩;simp only[go_sem,B2,h,h2,jJ];simp only[go_sem];apply aG [0,1,2] (aB _) d_ s_ m_ y_ (GL g b x);rintro r a ⟨rfl,rfl⟩;simp only[go_sem,TG,MG];apply aG [0,1,2] (aB _) d_ s_ m_ y_ (GL g b y);rintro r a ⟨rfl,rfl⟩;simp only[go_sem,TG,MG];apply cX (kB _ _);simp only[go_sem];apply cH (aB _) rfl rfl (AC [wG (Su g x) (Su g y),-1] (by simp[maxLen]));rintro r a ⟨rfl,rfl⟩;refine⟨w_,s_,?_⟩;simp only[go_sem,B2,h,jJ]
def K2{g:PGM}{l:D_}(c:l.Nodup):(eO g l).Pairwise λx y=>P0 g x y=true:=by
 have h1:=U4 g l;have h2:(eO g l).Pairwise (· ≠ ·):=(mE g l).nodup_iff.2 c;refine(h1.and h2).imp ?_;rintro x y ⟨a,b⟩
 cases h:P0 g x y with
 |true=>rfl|false=>exact absurd (aFP h a) b
def aFQ{g:PGM}(j:g.ok){l:D_}(i:l.Nodup):rF G g (Gf (eO g l)) lL (eO g l).length:=by
 intro a b d c;have e:=QD.1 (K2 (g:=g) i);have ea:Gf (eO g l) a=(eO g l)[a]:=by simp[Gf,rH,d]
 have k:Gf (eO g l) b=(eO g l)[b]:=by simp[Gf,rH,c]
 have f:B2 g (Gf (eO g l) a) (Gf (eO g l) b)=XA a b:=by rw[ea,k];unfold XA;rcases aGJ a b with h|h|h;rw[if_pos h,U5 (e a b d c h)];grind[aDO];rw[if_neg o_,if_pos h,aDN (e b a c d h)]
 have:=aPQ (G:=G) g j (Gf (eO g l) a) (Gf (eO g l) b);simp_all
def aDP(g:PGM)(c:g.ok)(l:D_)(a:l.Nodup)(b:l.length<=60000):aA PQ G mJ [.ptr 0 0,ids l] (TG 0 g) λr T=>r=.own 3/\T=TG 0 g++[some (.arr 3 ((eO g l).map Id.A))]:=by refine aC aMU ?_;simp only[go_sem,TG,MG];apply kM (MO l o_);simp only[go_sem];apply aG [3,0,1,2] (aB _) d_ s_ l_ y_ (aIc ((mE g l).nodup_iff.2 a) (mE g l).symm b (aFQ c a));rintro r d ⟨rfl,rfl⟩;simp only[go_sem,TG,MG]
def ZK(g:PGM)(c:g.ok)(l:D_)(a:l.Nodup)(b:l.length<=60000):aA PQ G mJ [.ptr 0 0,ids l] (TG 0 g) λr T=>r=ids (eO g l)/\T=TG 0 g:=by refine(aDP g c l a b).fin [3] ?_;rintro r d ⟨rfl,rfl⟩;simp only[go_sem,TG,MG]
def P1:O_:=[iv 0,iv 0,iv 0,iv 0,.v (.slice none 0 0),iv 0,iv 0,iv 0,iv 0,.v (.slice none 0 0),iv 0,iv 0,.v (.int .u64 0),iv 0,.v (.slice none 0 0),.v (.slice none 0 0),iv 0,iv 0,.v (.int .u64 0),.v (.slice none 0 0),iv 0,iv 0,.v (.slice none 0 0),.v (.int .u64 0),.v (.slice none 0 0),.v (.int .u64 0),.v (.int .u64 0)]
def ndT(n:ND):n.A.take 27=n.o.A:=Z_
def aFR{g:PGM}(c:g.ok){x:Id}(b:x∈g.I):(g.nd x).o.ok:=by
 obtain⟨j,h1,h2,_⟩:=dG b;have a:j<g.nodes.length:=by grind[PGM.I]
 rw[RA h1,rH,jN a];exact c.ops _ (eQ a)
def aDQ(g:PGM)(c:g.ok)(x:Id)(b:x∈g.I):aA PQ G bY [.ptr 0 0,.ag x.A] (TG 0 g) λr T=>r=.tup [.ag (g.nd x).o.A,.v (.bool true)]/\T=TG 0 g:=by
 apply aC yZ;have p:=AL x;have a:=qH x g.I 0;obtain⟨j,h1,h2,_⟩:=dG b;have e:=RA h1;rw[h1]at a;have i:=yC g.I.length j h2;have f:j<g.nodes.length:=by grind[PGM.I]
 have k:(g.nodes.map ND.A)[j]?=some (g.nd x).A:=t_;have h:=(Q9 c x).1;have m:=ND.Alen (g.nd x) h;have l:=ndT (g.nd x);have d:=aFR c b;simp only[iX,mG]at a;generalize(g.nd x)=n at *
 simp only[go_sem,TG,MG,a,i,aP,f,k,m,l];apply cX (ZH n.o d);simp only[go_sem]
def aAY(g:PGM)(x:Id)(b:x∉g.I):aA PQ G bY [.ptr 0 0,.ag x.A] (TG 0 g) λr T=>r=.tup [.ag P1,.v (.bool false)]/\T=TG 0 g:=by refine aC yZ ?_;have c:=AL x;have a:=qH x g.I 0;rw[eG b]at a;simp only[xD]at a;simp only[go_sem,TG,MG,a,P1]
def oH(g:PGM)(x y:Id):Bool:=decide (x∈g.I)&&(decide (y∈g.I)&&qK (g.nd y).W (g.at x))
def XF(es:N_)(j p:Nat)(c post:O_)(q:c.length=p)(W:V_)(n:Nat)(d:Hu W)(w:n<256)(t:es[j]?=some (c++(oC W++post))):aA PQ G pE [.elt 0 35 j p,iv n] [some (.arr 35 es)] λr T=>r=.v (.bool (qK W n))/\T=[some (.arr 35 es)]:=by
 apply aC Ar;have l:bV .quo (.int .i64 (n:Int)) (.int .i64 64)=some (.int .i64 ((n/64:Nat):Int)):=J6 n 64 d_ o_;have q2:bV .rem (.int .i64 (n:Int)) (.int .i64 64)=some (.int .i64 ((n%64:Nat):Int)):=J7 n 64 d_;have s:n%64<64:=zM _ d_;have h:n/64<4:=o_;have f:=AJ d (n/64);have k:=Q4 (W.getD (n/64) 0) (n%64) s f;have u:bV .and (.int .u64 ((W.getD (n/64) 0/2^(n%64):Nat):Int)) (.int .u64 1)=some (.int .u64 ((W.getD (n/64) 0/2^(n%64) &&& 1:Nat):Int)):=J5 _ 1 (QJ (Ml _ _) f) d_;have t1:=K0 (W.getD (n/64) 0) (n%64);have i:=Sq c (oC W) post (n/64) (by rw[aP,d.1];exact h);rw[Dw W (n/64) (by rw[d.1];exact h),q]at i;have o:(0:Int)<=((n/64:Nat):Int):=o_;have m:((n/64:Nat):Int)<4:=o_;have g:qK W n=(W.getD (n/64) 0).testBit (n%64):=rfl;rw[g,<-t1];clear t1 g;generalize n/64=a at *
 generalize n%64=b at *
 generalize c++(oC W++post)=e at *
 simp only[go_sem,↓l,↓q2,↓k,↓u,o,m,i,t,Bb,pQ]
def aDR (g:PGM) (i:g.ok) (x y:Id):aA PQ G eZ [.ptr 0 0,.ag x.A,.ag y.A] (TG 0 g) λr T=>r=.v (.bool (oH g x y))/\T=TG 0 g:=by
 apply aC Cv;have s:=AL x;have q:=AL y;have b:=qH x g.I 0;have a:=qH y g.I 0;by_cases h1:x∈g.I;obtain⟨j,m,p,_⟩:=dG h1;have l:=yC g.I.length j p;rw[m]at b;simp only[iX,mG]at b;by_cases h2:y∈g.I;obtain⟨k,d,e,_⟩:=dG h2;have h:=yC g.I.length k e;rw[d]at a;simp only[iX,mG]at a;have f:k<g.nodes.length:=by grind[PGM.I]
 have z:j<g.nodes.length:=by grind[PGM.I]
 have w:=i.n;have u:(g.nodes.map ND.A)[k]?=some ((g.nd y).o.A++(g.nd y).id.A++(oC (g.nd y).W++[iv (g.nd y).lv])):=by rw[gE,jN f,RA d,rH,jN f];rfl
 have c:oH g x y=qK (g.nd y).W j:=by unfold oH;rw[decide_eq_true h1,decide_eq_true h2,show g.at x=j by simp[PGM.at,m]];rfl
 rw[c];have t:=XF (G:=G) (g.nodes.map ND.A) k 30 ((g.nd y).o.A++(g.nd y).id.A) [iv (g.nd y).lv] (by rw[dZ,OpM.len];rfl) (g.nd y).W j (Q9 i y) o_ u;simp only[go_sem,TG,MG,b,a,l,h,aP,f];apply aG [2] (aB _) d_ s_ rfl rfl t;rintro r B ⟨rfl,rfl⟩;simp only[go_sem];rw[eG h2]at a;simp only[xD]at a;have c:oH g x y=false:=by grind[oH]
 rw[c];simp only[go_sem,TG,MG,b,a,l];rw[eG h1]at b;simp only[xD]at b;have c:oH g x y=false:=by grind[oH]
 rw[c];by_cases h2:y∈g.I;obtain⟨k,d,e,_⟩:=dG h2;have h:=yC g.I.length k e;rw[d]at a;simp only[iX,mG]at a;simp only[go_sem,TG,MG,b,a,h];rw[eG h2]at a;simp only[xD]at a;simp only[go_sem,TG,MG,b,a]
def aAZ(g:PGM)(a:g.ok):aA PQ G kJ [.ptr 0 0] (TG 0 g) λr T=>r=.ls 5 (g.cards.map CardM.A)/\T=TG 0 g:=by refine aC D0 ?_;have b:=a.cn;simp only[go_sem,TG,MG];apply cX (BB _ I_);simp only[go_sem]
def U6(cs:List CardM)(o:OpM)(d:Int):Bool :=
 if o.Kind==13 then d==o.Old else if o.Device !=0 then d==o.Device else(gM cs d).2&&((gM cs d).1.Member==o.Member)
def Oh(cs:List CardM)(a b:OpM):Bool :=
 if a.Kind==3||a.Kind==13 then !((a.Kind==13&&b.Kind==12)&&decide (a.Of=b.Of))&&U6 cs a b.By else
 if a.Kind==12 then(b.Kind==13&&decide (b.Of=a.Of))&&decide (a.At<=b.At) else false
def lA(g:PGM)(x y:Id):Bool :=
 decide (x∈g.I)&&(decide (y∈g.I)&&(!decide (x=y)&&(!oH g y x&&(!oH g x y&&Oh g.cards (g.nd x).o (g.nd y).o))))
def aFS(g:PGM)(c:g.ok)(o:OpM)(d:Int):aA PQ G Bj [.ptr 0 0,.ag o.A,iv d] (TG 0 g) λr T=>r=.v (.bool (U6 g.cards o d))/\T=TG 0 g:=by refine aC Oe ?_;unfold U6;have b:=ZI (G:=G) g d (by have:=c.cn;omega);simp only[go_sem,TG,MG]at b⊢;cases f:(o.Kind==13);cases a:(o.Device !=0);simp only[go_sem,a];apply aG [0,1,2] (aB _) d_ s_ m_ m_ b;rintro r h ⟨rfl,rfl⟩;cases e:(gM g.cards d).2;simp only[go_sem,CardM.A_def,undef];simp only[go_sem,CardM.A_def];simp only[go_sem,a];simp only[go_sem]
def aFc(a:List V_):Nat->B_|0=>[]|i+1=>aFc a i++[(a.getD i []).foldl (λm k=>max m (1+(aFc a i).getD k 0)) 1]
def aLP(a:List V_):∀i,(aFc a i).length=i|0=>rfl|i+1=>by simp[aFc,aLP a i]
def aNG(f:Nat->Int)(b:Int):∀(l:V_)(m:Int),(∀k∈l,f k<=b)->m<=b->m<=l.foldl (λm k=>max m (f k)) m/\l.foldl (λm k=>max m (f k)) m<=b|[],m,_,a=>⟨Int.le_refl _,a⟩|k::l,m,h,a=>by have:=aNG f b l (max m (f k)) (λx c=>h x (by simp[c])) (Int.max_le.2 ⟨a,h k s_⟩);exact⟨Int.le_trans (Int.le_max_left _ _) this.1,this.2⟩
def aOC (a:List V_):∀i,∀x∈aFc a i,1<=x/\x<=i
 |0,x,h=>by simp[aFc]at h
 | i+1,x,h=>by
  simp only[aFc,cG,cA]at h;rcases h with h|rfl;have:=aOC a i x h;omega
  have:=aNG (λk=>1+(aFc a i).getD k 0) (((i+1:Nat)):Int) (a.getD i []) 1 (λk _=>by
   rw[rH];rcases eD k (aFc a i).length with h|h;rw[jN h];have:=aOC a i _ (eQ h);simp only[Mi];omega
   rw[sX h];simp only[Option.getD_none];omega) (by omega)
  exact this
def aOD(a:List V_)(i k:Nat):0<=(aFc a i).getD k 0/\(aFc a i).getD k 0<=i:=by rw[rH];rcases eD k (aFc a i).length with h|h;rw[jN h];have:=aOC a i _ (eQ h);simp only[Mi];omega;rw[sX h];simp only[Option.getD_none];omega
abbrev ivs(l:List Int):List (List AV):=l.map λx=>[iv x]
def aQ7(g:GM)(j:g.ok)(v:∀i,∀k∈g.Up.getD i [],k<i):aA PQ G aLs [.ag g.A] [] λr T=>r=.ls 1 (ivs (aFc g.Up g.L.length))/\T=[]:=by
 refine aA.fin (p:=λr T=>r=.own 0/\T=[some (.arr 1 (ivs (aFc g.Up g.L.length)))]) (aC aMM ?_) [0] ?_;rotate_left;rintro r J ⟨rfl,rfl⟩;simp only[go_sem,gQ];have H:=j.n;simp only[go_sem];refine aQ g.L.length (λi=>⟨0,[(1,.ptr 0 0),(3,.own 1),(4,iv i)],[some (.box g.A),some (.arr 1 (ivs (aFc g.Up i)))]⟩) (λ_=>True) ?_ trivial ?_ ?_;simp only[go_sem];rfl;intro i C _;have t:=fQ i o_;have w:=j.un;have s:(g.Up.map λl=>[Sa l])[i]?=some [Sa (g.Up.getD i [])]:=z_;have c:g.Up.getD i []∈g.Up:=by rw[rH,jN (o_:i<g.Up.length)];exact eQ _
 have B:=(j.up _ c).1;have h:=v i;have o:=aLP g.Up i;have q:=aOD g.Up i;have e:∀k,(List.foldl (λm k=>max m (1+(aFc g.Up i).getD k 0)) 1 ((g.Up.getD i []).take k):Int)<=i+1/\1<=(List.foldl (λm k=>max m (1+(aFc g.Up i).getD k 0)) 1 ((g.Up.getD i []).take k):Int):=λk=>by have:=aNG (λk=>1+(aFc g.Up i).getD k 0) ((i:Int)+1) ((g.Up.getD i []).take k) 1 (λx _=>by have:=q x;show 1+(aFc g.Up i).getD x 0<=_;omega) o_;exact⟨this.2,this.1⟩
 rw[aFc];generalize g.Up.getD i []=a at *
 generalize aFc g.Up i=b at *
 simp only[go_sem,aP,aT C];refine aQ a.length (λk=>⟨0,[(1,.ptr 0 0),(3,.own 1),(4,iv i),(5,iv ((a.take k).foldl (λm k=>max m (1+b.getD k 0)) 1)),(6,iv k)],[some (.box g.A),some (.arr 1 (ivs b))]⟩) (λ_=>True) ?_ trivial ?_ ?_;simp only[go_sem,uQ,Kk];intro k f _;have u:=fQ k o_;have E:(a.map λn:Nat=>[iv (n:Int)])[k]?=some [iv (a[k]:Int)]:=aO _ a k f;have d:a[k]<b.length:=by rw[o];exact h _ (eQ f)
 have D:(ivs b)[a[k]]?=some [iv (b.getD a[k] 0)]:=by rw[gE,rH,jN d];rfl
 have I:=e k;have F:=q a[k];rw[GO _ _ a k f];generalize(a.take k).foldl (λm k=>max m (1+b.getD k 0)) 1=m at *
 generalize b.getD a[k] 0=y at *
 have w1:IntKind.i64.wrap (1+y)=1+y:=aJ o_ o_;generalize a[k]=z at *
 simp only[go_sem,aP,s,aT f,E,d,D,w1,u,mx];intro _;rw[dE];have:=(e a.length)
 simp only[go_sem,aP,s,aS (bP _),t,bZ,o,(a_:i+1<=maxLen),(o_:(i+1)*8<=140737488355328)];intro _;simp only[go_sem,aP,aS (bP _)]
def aOt(g:GM)(x:Id)(a:g.ok):aA PQ G aK5 [.ag g.A,.ag x.A] [] λr T=>r=iv (aW g.I x)/\T=[]:=by refine aC aNs ?_;simp only[go_sem];apply cX (Dt g x a);simp only[go_sem]
def ahM(a:B_)(I:D_)(i k:Nat):Bool:=if a.getD i 0=a.getD k 0 then(I.getD i default).lt (I.getD k default) else decide (a.getD i 0<a.getD k 0)
def aQN(g:GM)(c:B_)(j:g.ok)(o:c.length=g.L.length)(i k:Nat)(q:i<g.L.length)(p:k<g.L.length):aA PQ G aLM [.ag g.A,.ls 1 (ivs c),iv i,iv k] [] λr T=>r=.v (.bool (ahM c g.I i k))/\T=[]:=by
 apply aC aNt;have f:(ivs c)[i]?=some [iv (c.getD i 0)]:=z_;have e:(ivs c)[k]?=some [iv (c.getD k 0)]:=z_;have hI:=j.i;have n:(g.I.map Id.A)[i]?=some (g.I.getD i default).A:=z_;have m:(g.I.map Id.A)[k]?=some (g.I.getD k default).A:=z_;unfold ahM;generalize c.getD i 0=a at *
 generalize c.getD k 0=b at *
 generalize g.I.getD i default=x at *
 generalize g.I.getD k default=y at *
 simp only[go_sem,f,e];refine aL (λh=>?_) (λh=>?_);have d:¬a=b:=x_;simp only[go_sem,f,e,if_neg d];have l:a=b:=x_;simp only[go_sem,n,m];apply cX (OD x y);simp only[go_sem,if_pos l]
def aOZ(cs:List CardM)(d:Int):Int:=if(gM cs d).2 then(gM cs d).1.Member else 0
def inG(g:GM)(x y:Nat):Bool:=(g.In.getD x []).getD y false
def aPI(cs:List CardM)(a b:OpM):Bool :=
 if a.Kind==3&&a.Device !=0 then b.By==a.Device else if a.Kind==3 then aOZ cs b.By==a.Member
 else if a.Kind==13 then b.By==a.Old&&(b.Kind !=12||!decide (b.Of=a.Of)) else a.Kind==12&&(b.Kind==13&&(decide (a.Of=b.Of)&&decide (a.At<=b.At)))
def aHG(g:GM)(x y:Nat):Bool:=!(decide (x=y)||(inG g x y||inG g y x))&&aPI g.Cards (g.L.getD x default) (g.L.getD y default)
def XP(g:GM)(d:Int)(a:g.ok):aA PQ G DS [.ag g.A,iv d] [] λr T=>r=iv (aOZ g.Cards d)/\T=[]:=by
 apply aC Lg;have e:=Uv (G:=G) g d a;unfold aOZ;generalize gM g.Cards d=c at *
 obtain⟨c,b⟩:=c;simp only[go_sem];apply aU (aB _) rfl e (by simp only[CardM.A_def];rfl);cases b;simp only[go_sem,CardM.A_def];simp only[go_sem,CardM.A_def]
def aOu (g:GM) (t:g.ok) (x y:Nat) (C:x<g.L.length) (B:y<g.L.length):aA PQ G aK3 [.ag g.A,iv x,iv y] [] λr T=>r=.v (.bool (aHG g x y))/\T=[]:=by
 apply aC aNQ;have H:=t.inn;have n:(g.L.map OpM.A)[x]?=some (g.L.getD x default).A:=by rw[gE,rH,jN C];rfl
 have m:(g.L.map OpM.A)[y]?=some (g.L.getD y default).A:=by rw[gE,rH,jN B];rfl
 have D:=XP (G:=G) g (g.L.getD y default).By t;have f:(g.In.map λl=>[wI l])[x]?=some [wI (g.In.getD x [])]:=z_;have e:(g.In.map λl=>[wI l])[y]?=some [wI (g.In.getD y [])]:=z_;have F:(g.In.getD x []).length=g.L.length:=t.ins _ (by rw[rH,jN (o_:x<g.In.length)];exact eQ _);have E:(g.In.getD y []).length=g.L.length:=t.ins _ (by rw[rH,jN (o_:y<g.In.length)];exact eQ _);have d:((g.In.getD x []).map λb=>[AV.v (.bool b)])[y]?=some [.v (.bool (inG g x y))]:=by rw[gE,inG,rH (l:=g.In.getD x []),jN o_];rfl
 have c:((g.In.getD y []).map λb=>[AV.v (.bool b)])[x]?=some [.v (.bool (inG g y x))]:=by rw[gE,inG,rH (l:=g.In.getD y []),jN o_];rfl
 have h:((x:Int)==(y:Int))=decide (x=y):=so;unfold aHG aPI;generalize inG g x y=z at *
 generalize inG g y x=w at *
 generalize g.L.getD x default=a at *
 generalize g.L.getD y default=b at *
 cases o:decide (x=y);cases z;cases w;cases s:a.Kind==3;cases q:a.Kind==13;simp only[go_sem,n,m,f,e,d,c,h,o,s,q,undef];have i:=Id.beq a.Of b.Of;cases j:a.Kind==12;simp only[go_sem,j,undef,lR];cases k:b.Kind==13;simp only[go_sem,j,k,undef,lR,Ea];cases p:decide (a.Of=b.Of);simp only[go_sem,j,k,i,p,undef,lR,Ea];simp only[go_sem,j,k,i,p,undef,mF];simp only[go_sem,n,m,f,e,d,c,h,o,s,q,undef];have i:=Id.beq b.Of a.Of;have u:=Id.beq a.Of b.Of;cases j:b.By==a.Old;simp only[go_sem,j,undef,lR];cases k:b.Kind !=12;cases p:decide (b.Of=a.Of);simp only[go_sem,j,k,i,p,undef,mF];simp only[go_sem,j,k,i,p,undef,mF];simp only[go_sem,j,k,undef,mF];cases q:a.Device !=0;simp only[go_sem,n,m,f,e,d,c,h,o,s,q,undef];apply cX D;simp only[go_sem,undef];simp only[go_sem,n,m,f,e,d,c,h,o,s,q,undef];simp only[go_sem,n,m,f,e,d,c,h,o,undef];simp only[go_sem,n,m,f,e,d,c,h,o,undef];simp only[go_sem,n,m,f,e,d,c,h,o,undef]
def aPJ(g:GM)(x y:Id):Bool:=decide (0<=aW g.I x)&&(decide (0<=aW g.I y)&&aHG g (aW g.I x).toNat (aW g.I y).toNat)
def aQ8{cs f:List CardM}(m:∀d,gM cs d=gM f d){a b:OpM}(l:a.Kind=3->a.Device=0->a.Member≠0):Oh cs a b=aPI f a b:=by
 unfold Oh aPI U6 aOZ;rw[m];generalize gM f b.By=c;obtain⟨c,h⟩:=c;by_cases g:a.Kind=3;have e:(a.Kind==13)=false:=by rw[g];rfl
 by_cases j:a.Device=0;have:=l g j;cases h;simp[g,j,Ne.symm this];simp[g,j];simp[g,j];by_cases e:a.Kind=13;have k:decide (a.Of=b.Of)=decide (b.Of=a.Of):=by rw[decide_eq_decide];exact eq_comm
 simp only[e,k,bne];cases b.By==a.Old<;>cases b.Kind==12<;>cases decide (b.Of=a.Of)<;>simp;by_cases i:a.Kind=12;simp[i];grind;simp[g,e,i]
def aQ9(L:List OpM):Prop:=∀o∈L,o.Kind=3->o.Device=0->o.Member≠0
def aNR{p:PGM}{g:GM}(s:Sim p g){x:Id}{j:Nat}(h:p.I.findIdx? (λy=>decide (y=x))=some j)(b:j<g.L.length):(p.nd x).o=g.L.getD j default/\∀k,k<256->qK (p.nd x).W k=inG g j k:=by
 rw[RA h];have c:p.nodes.length=g.L.length:=by rw[<-s.l,aP]
 refine⟨?_,λk a=>s.w j b k a⟩;rw[<-s.l,rH,rH,gE,jN o_];rfl
def aOJ{p:PGM}{g:GM}(s:Sim p g)(e:g.L.length<=200){x y:Id}{j k:Nat}(c:p.I.findIdx? (λz=>decide (z=x))=some j)(b:p.I.findIdx? (λz=>decide (z=y))=some k)(f:j<g.L.length)(d:k<g.L.length)(mx:x∈p.I)(a:y∈p.I):oH p x y=inG g k j:=by unfold oH;rw[decide_eq_true mx,decide_eq_true a,show p.at x=j by simp[PGM.at,c],(aNR s b d).2 j o_];rfl
def aP0 {p:PGM} {g:GM} (s:Sim p g) (q:g.L.length<=200) (r:aQ9 g.L) (x y:Id):lA p x y=aPJ g x y:=by
 have w:p.I.length=g.L.length:=by rw[PGM.I,<-s.l,aP,aP]
 unfold lA aPJ aW qX;rw[<-s.i];by_cases mx:x∈p.I;by_cases a:y∈p.I;obtain⟨j,f,v,_,o⟩:=dG mx;obtain⟨k,b,u,_,m⟩:=dG a;have d:j<g.L.length:=o_;have n:k<g.L.length:=o_;rw[f,b,decide_eq_true mx,decide_eq_true a,aOJ s q f b d n mx a,aOJ s q b f n d a mx,(aNR s f d).1,(aNR s b n).1];have h:decide (x=y)=decide (j=k):=by rw[decide_eq_decide];constructor;rintro rfl;rw[f]at b;exact Option.some.inj b;rintro rfl;rw[<-o,<-m]
 rw[aQ8 s.c (λh3 t=>r _ (by rw[rH,jN d];exact eQ d) h3 t)];simp only[h,aHG,nI,Int.natCast_nonneg,decide_true,mF];cases decide (j=k)<;>cases inG g k j<;>cases inG g j k<;>rfl;have e:=eG a;rw[e,decide_eq_false a];simp;have e:=eG mx;rw[e,decide_eq_false mx];simp
abbrev nrs(l:List Nat):List (List AV):=l.map λn:Nat=>[iv (n:Int)]
def aOK(a:B_)(I:D_)(out:V_)(p:Nat):Nat:=(out.takeWhile λq=>ahM a I q p).length
def aOL(a:B_)(I:D_)(out:V_)(p:Nat):V_:=out.take (aOK a I out p)++([p]++out.drop (aOK a I out p))
def aM1(a:B_)(I:D_)(ps:V_):V_:=ps.foldl (aOL a I) []
def aHe(I l:D_):V_:=l.map λx=>(aW I x).toNat
def aPu{f:Nat->Bool}:∀{out:V_}{k:Nat},k<=out.length->(∀j,j<k->f (out.getD j 0)=true)->(k=out.length\/f (out.getD k 0)=false)->(out.takeWhile f).length=k
 |[],k,a,_,_=>by simp at a;simp[a]|x::out,0,_,_,h2=>by
  have:f x=false:=ou;simp[List.takeWhile,this]
 |x::out,k+1,a,h1,h2=>by
  have h0:f x=true:=by simpa using h1 0 o_
  rw[List.takeWhile_cons_of_pos h0,sE,aPu (out:=out) (k:=k) H_ (λj b=>by simpa using h1 (j+1) o_) ou]
def aPK(a:B_)(I:D_)(out:V_)(p:Nat):aOK a I out p<=out.length:=(List.takeWhile_sublist _).length_le
def aQa(a:B_)(I:D_)(out:V_)(p:Nat):(aOL a I out p).length=out.length+1:=by have:=aPK a I out p;simp only[aOL,dZ,eC,vY,sE,gQ];omega
def aPR(a:B_)(I:D_)(out:V_)(p:Nat):(aOL a I out p).Perm (p::out):=by show(out.take (aOK a I out p)++p::out.drop (aOK a I out p)).Perm (p::out);apply YJ.trans;rw[LC]
def aMA(a:B_)(I:D_):∀(ps out:V_),(ps.foldl (aOL a I) out).Perm (ps++out)|[],out=>.refl _|p::ps,out=>by refine(aMA a I ps _).trans (((aPR a I out p).append_left ps).trans ?_);exact YJ
def aPv (g:GM) (l:D_) (w:g.ok) (Y:∀i,∀k∈g.Up.getD i [],k<i) (hl:l.length<=1000) (R:∀x∈l,0<=aW g.I x):
 aA PQ G aH3 [.ag g.A,ids l] [] λr T=>r=ids ((aM1 (aFc g.Up g.L.length) g.I (aHe g.I l)).map λi=>g.I.getD i default)/\T=[]:=by
 refine aA.fin (p:=λr T=>r=.own 0/\T=[some (.arr 3 (((aM1 (aFc g.Up g.L.length) g.I (aHe g.I l)).map λi=>g.I.getD i default).map Id.A))]) (aC aNl ?_) [0] ?_;rotate_left;rintro r T' ⟨rfl,rfl⟩;simp only[go_sem,gQ,ids,rI];have hn:=w.n;have hI:=w.i;have J:=aLP g.Up g.L.length;have E:∀p∈aHe g.I l,p<g.L.length:=λp H=>by obtain⟨x,y,rfl⟩:=dF.1 H;have:=AZ g.I x;have:=R x y;omega
 have D:(aHe g.I l).length=l.length:=by simp[aHe]
 simp only[go_sem];apply cX (aQ7 g w Y);generalize S:aFc g.Up g.L.length=a at *
 have Q:∀i,((aHe g.I l).take i).foldl (aOL a g.I) []=aM1 a g.I ((aHe g.I l).take i):=λi=>rfl;have t:∀i,(aM1 a g.I ((aHe g.I l).take i)).Perm ((aHe g.I l).take i):=λi=>by have:=aMA a g.I ((aHe g.I l).take i) [];rwa[jO]at this
 have d:∀i,i<=l.length->(aM1 a g.I ((aHe g.I l).take i)).length=i:=λi e=>by rw[(t i).length_eq,eC,D];omega
 have b:∀i,∀p∈aM1 a g.I ((aHe g.I l).take i),p<g.L.length:=λi p H=>E p (C8 ((t i).mem_iff.1 H));simp only[go_sem];refine jG (λs=>s=⟨0,[(2,.ptr 0 0),(6,.own 1)],[some (.box g.A),some (.arr 1 (nrs (aM1 a g.I (aHe g.I l))))]⟩) ?_ ?_;refine aQ l.length (λi=>⟨0,[(1,ids l),(2,.ptr 0 0),(5,.ls 1 (ivs a)),(6,.own 1),(7,iv i)],[some (.box g.A),some (.arr 1 (nrs (aM1 a g.I ((aHe g.I l).take i))))]⟩) (λ_=>True) ?_ trivial ?_ ?_;simp only[go_sem,uQ];rfl;intro i e _;have B:=fQ i o_;have g0:(l.map Id.A)[i]?=some l[i].A:=aO _ l i e;have Z:=R l[i] (eQ e);have P:=AZ g.I l[i];have v:aW g.I l[i]=(((aW g.I l[i]).toNat:Nat):Int):=o_;have m:aM1 a g.I ((aHe g.I l).take (i+1))=aOL a g.I (aM1 a g.I ((aHe g.I l).take i)) (aW g.I l[i]).toNat:=by
  have K:i<(aHe g.I l).length:=o_;unfold aM1;rw[GO _ _ (aHe g.I l) i K];simp[aHe]
 have d:=d i o_;have b:=b i;rw[m];generalize aM1 a g.I ((aHe g.I l).take i)=out at *
 have o:=aOt (G:=G) g l[i] w;rw[v]at o;generalize(aW g.I l[i]).toNat=p at *
 generalize l[i]=x at *
 simp only[go_sem,aP,aT e,g0];apply cX o;have u:decide ((p:Int)<0)=false:=decide_eq_false o_;simp only[go_sem,u];have f:=aPK a g.I out p;refine jG (λs=>s=⟨0,[(1,ids l),(2,.ptr 0 0),(5,.ls 1 (ivs a)),(6,.own 1),(7,iv i),(8,iv p),(9,iv (aOK a g.I out p))],[some (.box g.A),some (.arr 1 (nrs out))]⟩) ?_ ?_;refine cO (λn s=>∃k:Nat,n=out.length-k/\k<=out.length/\(∀j,j<k->ahM a g.I (out.getD j 0) p=true)/\s=⟨0,[(1,ids l),(2,.ptr 0 0),(5,.ls 1 (ivs a)),(6,.own 1),(7,iv i),(8,iv p),(9,iv k)],[some (.box g.A),some (.arr 1 (nrs out))]⟩) out.length
  ⟨0,rfl,pR _,λj z=>o_,m_⟩ ?_
 rintro n s ⟨k,aa,V,z,rfl⟩;by_cases c:k<out.length;have M:(nrs out)[k]?=some [iv (out.getD k 0:Nat)]:=by rw[gE,rH,jN c];rfl
 have N:out.getD k 0<g.L.length:=by rw[rH,jN c];exact b _ (eQ c)
 have F:p<g.L.length:=o_;have X:=fQ k o_;simp only[go_sem,aP,aT c,c,M];apply cX (aQN g a w J _ p N F);simp only[go_sem];refine aL (λh=>?_) (λh=>?_);simp only[go_sem,X]
 exact⟨out.length-(k+1),o_,k+1,rfl,o_,λj ab=>by
  rcases eD j k with h1|h1;exact z j h1;obtain rfl:j=k:=o_
  exact h,rfl⟩
 simp only[go_sem];rw[show aOK a g.I out p=k from aPu V z (.inr h)];simp only[go_sem,aP,aS c];rw[show aOK a g.I out p=k from aPu V z (.inl o_)];rintro s rfl;have U:=aQa a g.I out p;unfold aOL;generalize aOK a g.I out p=q at *
 simp only[go_sem,aP,eC,vY,dZ,Kj f,f,QO,pQ,pR,(o_:q*8<=140737488355328),(a_:q<=maxLen),(a_:q+1<=maxLen),(o_:(q+1)*8<=140737488355328),
  (o_:q+(out.length-q)=out.length),B,(o_:(q+1+(out.length-q))*8<=140737488355328),(a_:q+1+(out.length-q)<=maxLen),cN,eB,bZ,QN,aC0,fG,uP]
 intro _;rw[sG o_];simp only[go_sem,aP,aS (bP _)];rintro s rfl;have d:=d l.length (cN _);have b:=b l.length;rw[sG o_]at d b;generalize aM1 a g.I (aHe g.I l)=out at *
 simp only[go_sem];refine aQ out.length (λi=>⟨0,[(2,.ptr 0 0),(6,.own 1),(11,.own 2),(12,iv i)],[some (.box g.A),some (.arr 1 (nrs out)),some (.arr 3 (((out.take i).map λi=>g.I.getD i default).map Id.A))]⟩) (λ_=>True) ?_ trivial ?_ ?_;simp only[go_sem,uQ,uP];intro i e _;have B:=fQ i o_;have M:(nrs out)[i]?=some [iv (out[i]:Nat)]:=aO _ out i e;have N:out[i]<g.L.length:=b _ (eQ e);have W:(g.I.map Id.A)[out[i]]?=some (g.I.getD out[i] default).A:=z_;have ac:out[i]<g.I.length:=o_;rw[lB e,bZ,bZ];have C:(out.take i).length=i:=dc;obtain⟨x,y⟩:∃x,x=g.I.getD out[i] default:=⟨_,rfl⟩
 rw[<-y]at W;generalize out[i]=q at *
 generalize out.take i=O at *
 simp only[go_sem,aP,aT e,e,M,W,C,B,(a_:i+1<=maxLen),(o_:(i+1)*24<=140737488355328)];rw[y];intro _;rw[dE];simp only[go_sem,aP,aS (bP _)]
def Hj(I:D_)(l:B_):D_:=(l.take 4).map λn=>I.getD (pX n I.length).toNat default
def qI(g:GM)(l:B_):D_:=if l=[]\/g.L=[] then jI g.I else Fd g (Hj g.I l)
def aE6(I:D_)(l:B_)(i:Nat)(h:i<l.length)(a:i<4):Hj I (l.take (i+1))=Hj I (l.take i)++[I.getD (pX l[i] I.length).toNat default]:=by unfold Hj;rw[Mj,Mj,(o_:min 4 (i+1)=i+1),(o_:min 4 i=i),<-aBV h,bZ];rfl
def Ot(I:D_)(l:B_):(Hj I l).length<=4:=by grind[Hj,List.length_map,List.length_take]
def BJ(n:Int)(m:Int)(a:0<m):0<=pX n m/\pX n m<m:=by unfold pX;exact⟨Int.emod_nonneg _ o_,Int.emod_lt_of_pos _ a⟩
def aB4 (g:GM) (d:g.ok) (l:B_) (J:l.length<=2^63-1) (v:∀n∈l,mZ n):aA PQ G aJc [.ag g.A,rG l] [] λr T=>(r=ids (qI g l)/\T=[]/\(l=[]\/g.L=[]))\/(r=.own 0/\T=[some (.arr 3 ((qI g l).map Id.A))]):=by
 apply aC LJ;have hI:=d.i;by_cases h1:l=[]
 subst h1;simp only[go_sem,gQ,undef];apply cX (JG g d);simp only[go_sem,qI,true_or,true_and];have t:0<l.length:=H3.2 h1;have p:((l.length:Int)==0)=false:=by simpa using h1
 by_cases h2:g.L=[]
 have E:((g.I.length:Int)==0)=true:=by rw[hI,h2];rfl
 have j:((g.L.length:Int)==0)=true:=by rw[h2];rfl
 simp only[go_sem,aP,p,j];apply cX (JG g d);simp only[go_sem,qI,h2,or_true];simp;have w:0<g.L.length:=H3.2 h2;have E:((g.I.length:Int)==0)=false:=t_;have j:((g.L.length:Int)==0)=false:=ou;have D:qI g l=Fd g (Hj g.I l):=by grind[qI]
 rw[D];have H:=d.n;simp only[go_sem,aP,p,j];refine jG (λs=>s=⟨0,[(2,.ptr 0 0),(5,.own 1)],[some (.box g.A),some (.arr 3 ((Hj g.I l).map Id.A))]⟩) ?_ ?_;refine aQ (min l.length 4) (λi=>⟨0,[(1,rG l),(2,.ptr 0 0),(5,.own 1),(6,iv i)],[some (.box g.A),some (.arr 3 ((Hj g.I (l.take i)).map Id.A))]⟩) (λ_=>True) ?_ trivial ?_ ?_;rfl;intro i u _;have a:i<l.length:=o_;have f:i<4:=o_;have q:=fQ i o_;have B:(l.map λn=>[iv n])[i]?=some [iv l[i]]:=aO _ l i a;have c:=v l[i] (eQ a);have F:decide ((i:Int)<4)=true:=decide_eq_true o_;have b:=Ot g.I (l.take i);rw[aE6 g.I l i a f];generalize l[i]=x at *
 generalize Hj g.I (l.take i)=O at *
 have M:=BJ x g.I.length o_;have o:(g.I.map Id.A)[(pX x g.I.length).toNat]?=some (g.I.getD (pX x g.I.length).toNat default).A:=t_;have K:(pX x g.I.length).toNat<g.I.length:=o_;have e:((pX x g.I.length).toNat:Int)=pX x g.I.length:=o_;simp only[go_sem,aP,aT a,F,B];apply cX (Dl x g.I.length c.1 c.2 o_ o_);rw[<-e];generalize(pX x g.I.length).toNat=k at *
 obtain⟨y,m⟩:∃y,y=g.I.getD k default:=⟨_,rfl⟩
 rw[<-m]at o;simp only[go_sem,aP,o,bZ,fG,uP,q,(a_:O.length+1<=maxLen),(o_:(O.length+1)*24<=140737488355328)];rw[m];intro _;rcases eD 4 l.length with z|z;have h:min l.length 4=4:=o_;have C:Hj g.I (l.take 4)=Hj g.I l:=by grind[Hj]
 rw[h,C];simp only[go_sem,aP,show decide ((4:Int)<(l.length:Int))=true from decide_eq_true o_];have h:min l.length 4=l.length:=o_;rw[h,dE];simp only[go_sem,aP,aS (bP _),undef];rintro s rfl;have b:=Ot g.I l;simp only[go_sem];apply cH (aB _) rfl rfl (XG g (Hj g.I l) d o_);rintro r N ⟨rfl,rfl⟩;refine⟨w_,s8,?_⟩;simp only[go_sem];exact .inr trivial
def aE7(g:GM)(c:g.ok)(l:B_)(a:l.length<=2^63-1)(b:∀n∈l,mZ n):aA PQ G aJc [.ag g.A,rG l] [] λr T=>r=ids (qI g l)/\T=[]:=by refine(aB4 g c l a b).fin [0] ?_;rintro r d (⟨rfl,rfl,_⟩|⟨rfl,rfl⟩);simp only[go_sem,gQ,List.getElem?_nil];simp only[go_sem,gQ]
def XS(out:D_)(x:Id):(Ps out x).Perm (out++[x]):=by
 unfold Ps;have e:out=out.take (Ha x out out.length)++out.drop (Ha x out out.length):=(LC _ _).symm;generalize Ha x out out.length=p at *
 refine List.Perm.trans ?_ (List.Perm.append_right [x] (List.Perm.of_eq e.symm));rw[eB,eB];exact YB _ List.perm_append_comm
def VC(l:D_):∀out,(l.foldl Ps out).Perm (out++l):=by
 induction l with
 |nil=>intro out;simp|cons x l ih=>
  intro out;refine(ih (Ps out x)).trans ?_;have:=List.Perm.append_right l (XS out x);simpa using this
def dQ(l:D_):(jI l).Perm l:=by have:=VC l [];simpa[jI]using this
def aE9{I:D_}{p:Nat->Bool}{n:Nat}(c:n<=I.length):∀x∈Le I p n,x∈I:=by intro x a;unfold Le at a;obtain⟨i,b,rfl⟩:=dF.1 a;have:=uM.1 (gR.1 b).1;rw[rH,jN o_];exact eQ _
def XT{I:D_}{p:Nat->Bool}{n:Nat}(d:n<=I.length)(hI:I.Nodup):(Le I p n).Nodup:=by unfold Le;rw[List.Nodup,Mh];refine(aBT.filter p).imp_of_mem ?_;intro i j c b a e;have h1:=uM.1 (gR.1 c).1;have h2:=uM.1 (gR.1 b).1;rw[rH,jN o_,rH,jN o_]at e;exact a ((C9 hI).1 od)
def RD {I:D_}:∀(l out:D_),(∀x∈out,x∈I)->∀x∈l.foldl (vL I) out,x∈I|[],_,h=>h| y::l,out,h=>RD l _ (by
   intro x a;unfold vL at a;split at a;rename_i b;simp only[zJ,decide_eq_true_eq]at b;rcases cG.1 a with a|a;exact h x a;rw[cA.1 a];exact(Cz I y).1 b.1
   exact h x a)
def K3{I:D_}:∀(l out:D_),out.Nodup->(l.foldl (vL I) out).Nodup|[],_,h=>h| y::l,out,h=>K3 l _ (by
   unfold vL;split;rename_i c;simp only[zJ,decide_eq_true_eq,EX,decide_eq_false_iff_not]at c;rw[vQ];refine⟨h,s_,?_⟩;intro a f b d e;rw[cA.1 d]at e;exact c.2 (e ▸ f)
   exact h)
def RE {I c:D_}:∀(l out:D_),(∀x∈out,x∈I)->∀x∈l.foldl (uD I c) out,x∈I|[],_,h=>h| y::l,out,h=>RE l _ (by
   intro x a;unfold uD at a;split at a;rename_i b;simp only[zJ,decide_eq_true_eq]at b;rcases cG.1 a with a|a;exact h x a;rw[cA.1 a];exact(Cz I y).1 b.1
   exact h x a)
section
variable{g:GM}
def aEa(b:g.I.length=g.L.length)(l:D_):∀x∈rV g l,x∈g.I:=λx a=>aE9 o_ x ((dQ _).mem_iff.1 a)
def XU(b:g.I.length=g.L.length)(a:g.I.Nodup)(l:D_):(rV g l).Nodup:=(dQ _).nodup_iff.2 (XT o_ a)
def Fg(b:g.I.length=g.L.length)(l:D_):∀x∈Fd g l,x∈g.I:=λx a=>RD l _ (aEa b l) x ((dQ _).mem_iff.1 a)
def XV(b:g.I.length=g.L.length)(a:g.I.Nodup)(l:D_):(Fd g l).Nodup:=(dQ _).nodup_iff.2 (K3 l _ (XU b a l))
def aEb(l:D_):(rV g l).length<=g.L.length:=by rw[rV,(dQ _).length_eq];exact JF _ _ _
def Ou(l:D_):(Fd g l).length<=g.L.length+l.length:=by have h1:=aEb (g:=g) l;have h2:=GN g.I l (rV g l);rw[Fd,(dQ _).length_eq];omega
def KF(l:D_):∀x∈yV g l,x∈g.I:=λx a=>RE l [] s_ x ((dQ _).mem_iff.1 a)
def XW(b:g.I.length=g.L.length)(l:B_):∀x∈qI g l,x∈g.I:=by intro x a;unfold qI at a;split at a;exact(dQ _).mem_iff.1 a;exact Fg b _ x a
def Sy(b:g.I.length=g.L.length)(a:g.I.Nodup)(l:B_):(qI g l).Nodup:=by unfold qI;split;exact(dQ _).nodup_iff.2 a;exact XV b a _
def XX(a:g.ok)(l:B_):(qI g l).length<=g.L.length+4:=by unfold qI;split;rw[(dQ _).length_eq,a.i];omega;have:=Ou (g:=g) (Hj g.I l);have:=Ot g.I l;omega
end
def Ov{o:OpM}(h:jB o=0):o.Seq<=2147483647/\o.At<=2147483647:=by
 unfold jB at h;split at h;simp at h;split at h;simp at h;split at h;simp at h;rename_i a;have:fP o=true:=by cases e:fP o<;>simp_all
 unfold fP oI at this;simp only[zJ,decide_eq_true_eq]at this;omega
def Reach.seqb{cs:List CardM}{g:GM}(h:Reach cs g):∀x∈g.I,x.b<=2147483647:=by
 induction h with
 |new=>simp| @add g o f i d ih=>
  by_cases h:(dV g o).1=0;have a:=Ff h;rw[yE a h];intro x c;rcases cG.1 c with c|c;exact ih x c;rw[cA.1 c];exact(Ov a.check).1;have e:(addM g o).1=g:=by rw[addM,if_pos h]
  rw[e];exact ih
@[go_sem] def OpM.g16(o:OpM):o.A[16]?=some (iv o.Of.a):=fI rfl rfl
structure RM.ok(r:RM):Prop where
 c:r.Cards.length<=1000
 i:r.In.length<=100000
 g:r.Gone.length<=100000
 l:r.L.length<=100000
 v:r.V.length<=100000
 mg:∀m∈r.L,m.Guards.length<=1000
theorem RM.A_def(r:RM):r.A=[.ls 5 (r.Cards.map CardM.A),rG r.In,rG r.Gone,.ls 11 (r.L.map MM.A),iv r.Back,.ls 6 (r.V.map VM.A)]:=fI rfl rfl
def MM.A_def(m:MM):m.A=[iv m.N,iv m.Role,.v (.bool m.Is),iv m.ID.a,iv m.ID.b,.v (.int .u64 m.ID.c),rG m.Guards,iv m.Need,iv m.Wait,.v (.bool m.Obj),iv m.Last]:=fI rfl rfl
def aN8{α:Type}(p:α->Bool)(l:List α):qX p l<(l.length:Int):=by
 unfold qX
 cases h:l.findIdx? p with
 |none=>simp only;omega|some i=>
  have:=(Ad.1 h).1;simp only;omega
def ZP{α:Type}{p:α->Bool}{l:List α}(h:0<=qX p l):∃i:Nat,qX p l=(i:Int)/\∃a:i<l.length,p l[i]=true:=by
 unfold qX at h⊢
 cases e:l.findIdx? p with
 |none=>rw[e]at h;simp at h|some i=>
  obtain⟨h1,h2,_⟩:=Ad.1 e;grind
def nH{α:Type}[Inhabited α]{l:List α}{i:Nat}(h:i<l.length):l.getD i default=l[i]:=t_
def aHf(r:RM)(d:Int)(l:r.ok):aA PQ G aE2 [.ag r.A,iv d] [] λx T=>x=iv (eI r d)/\T=[]:=by
 apply aC aOY;have m:=l.c;simp only[go_sem,RM.A_def];refine aQ r.Cards.length (λi=>⟨0,[(1,iv d),(2,.ptr 0 0),(5,iv i)],[some (.box r.A)]⟩) (λi=>∀j(a:j<r.Cards.length),j<i->(r.Cards[j].Device==d)=false) ?_ F_ ?_ ?_;rfl;intro i b f;have g:(r.Cards.map CardM.A)[i]?=some [iv r.Cards[i].Device,iv r.Cards[i].Member,uv r.Cards[i].Lead,uv r.Cards[i].Keep,uv r.Cards[i].Sign]:=aO _ r.Cards i b;simp only[go_sem,RM.A_def,aP,aT b,g];refine aL (λh=>?_) (λh=>?_)<;>simp only[go_sem,g,fQ i o_];have e:r.Cards.find? (λc=>c.Device==d)=some r.Cards[i]:=aBG.2 ⟨h,i,b,rfl,λj a=>by simp[f j o_ a]⟩;simp only[eI,e];grind[RM.A_def];intro f;have e:r.Cards.find? (λc=>c.Device==d)=none:=Eb.2 λx k=>by obtain⟨j,a,rfl⟩:=CU k;simp[f j a a]
 simp only[go_sem,RM.A_def,aP,aS (bP _),eI,e]
def aFd(r:RM)(n:Int)(d:r.ok):aA PQ G aE3 [.ag r.A,iv n] [] λx T=>x=iv (jL r n)/\T=[]:=by refine aC aN4 ?_;have f:=d.l;simp only[go_sem,RM.A_def];refine aQ r.L.length (λi=>⟨0,[(1,iv n),(2,.ptr 0 0),(5,iv i)],[some (.box r.A)]⟩) (λi=>∀j(a:j<r.L.length),j<i->(r.L[j].N==n)=false) ?_ F_ ?_ ?_;rfl;intro i b c;have e:(r.L.map MM.A)[i]?=some r.L[i].A:=aO _ r.L i b;simp only[go_sem,RM.A_def,aP,aT b,e,MM.A_def];refine aL (λh=>?_) (λh=>?_)<;>simp only[go_sem,fQ i o_];unfold jL;rw[mC b c h];grind[RM.A_def];intro c;simp only[go_sem,RM.A_def,aP,aS (bP _)];unfold jL;rw[lD λj a=>c j a a]
def Ox{r:RM}{n:Int}(h:0<=jL r n):∃i:Nat,jL r n=(i:Int)/\∃a:i<r.L.length,(r.L[i].N==n)=true:=ZP h
def aP1(r:RM)(n:Int)(c:r.ok):aA PQ G aJI [.ag r.A,iv n] [] λx T=>x=iv (sD r n)/\T=[]:=by refine aC aOp ?_;have a:=aFd (G:=G) r n c;simp only[go_sem,RM.A_def]at a⊢;apply cX a;simp only[go_sem];refine aL (λh=>?_) (λh=>?_);simp only[go_sem];grind[sD];have h0:¬jL r n<0:=of_decide_eq_false h;obtain⟨i,e,b,_⟩:=Ox (o_:0<=jL r n);have d:(r.L.map MM.A)[i]?=some r.L[i].A:=aO _ r.L i b;rw[sD,if_neg h0,e];simp only[go_sem,d,MM.A_def];rw[nH b]
def aQO(r:RM)(d:Int)(a:r.ok):aA PQ G aMu [.ag r.A,iv d] [] λx T=>x=.v (.bool (aB6 r d))/\T=[]:=by refine aC aOH ?_;unfold aB6;have h1:=a.i;have h2:=a.g;simp only[go_sem,RM.A_def];apply cX (aKc r.In d o_);cases b:decide (d∈r.In);simp only[go_sem];apply cX (aKc r.Gone d o_);simp only[go_sem,EH];simp only[go_sem,undef,EI]
def aMB(r:RM)(d:Int)(b:r.ok):aA PQ G aIK [.ag r.A,iv d] [] λx T=>x=.v (.bool (lZ r d))/\T=[]:=by refine aC aNI ?_;unfold lZ;have a:=aQO (G:=G) r d b;have c:=aHf (G:=G) r d b;simp only[go_sem,RM.A_def]at a c⊢;apply cX a;simp only[go_sem];apply cX c;simp only[go_sem];cases h1:decide (0<eI r d)<;>cases h2:aB6 r d<;>simp only[go_sem,undef,lI,sF,lR,mF]
def aLX(r:RM)(x:Id)(g:r.ok):aA PQ G aH5 [.ag r.A,.ag x.A] [] λy T=>y=iv (pZ r x)/\T=[]:=by
 apply aC aNP;have m:=g.l;simp only[go_sem,RM.A_def];refine aQ r.L.length (λi=>⟨0,[(2,.ptr 0 0),(3,.ptr 1 0),(5,iv i)],[some (.box r.A),some (.box x.A)]⟩) (λi=>∀j(a:j<r.L.length),j<i->(r.L[j].Is&&decide (r.L[j].ID=x))=false) ?_ F_ ?_ ?_;rfl;intro i b c;have d:(r.L.map MM.A)[i]?=some r.L[i].A:=aO _ r.L i b;have f:=Id.beq r.L[i].ID x;have e:=fQ i o_;have k:(r.L[i].Is&&decide (r.L[i].ID=x))=false->∀j(a:j<r.L.length),j<i+1->(r.L[j].Is&&decide (r.L[j].ID=x))=false:=f_;cases h1:r.L[i].Is;simp only[go_sem,RM.A_def,aP,aT b,d,MM.A_def,Id.A_def,h1,undef,e];simp_all;cases h2:decide (r.L[i].ID=x);simp only[go_sem,RM.A_def,aP,aT b,d,MM.A_def,Id.A_def,h1,f,h2,e];simp_all;simp only[go_sem,RM.A_def,aP,aT b,d,MM.A_def,Id.A_def,h1,f,h2];unfold pZ;rw[mC b c (by rw[h1,h2];rfl)];intro c;simp only[go_sem,RM.A_def,aP,aS (bP _)];unfold pZ;rw[lD λj a=>c j a a]
def Hm{r:RM}{x:Id}(h:0<=pZ r x):∃i:Nat,pZ r x=(i:Int)/\∃a:i<r.L.length,(r.L[i].Is&&decide (r.L[i].ID=x))=true:=ZP h
def aNS(r:RM)(o:OpM)(b:r.ok):aA PQ G aJu [.ag r.A,.ag o.A] [] λy T=>y=.tup [iv (kD r o).1,iv (kD r o).2]/\T=[]:=by
 apply aC aN6;have a:=aLX (G:=G) r o.Of b;simp only[go_sem,RM.A_def]at a⊢;apply cX a;simp only[go_sem];refine aL (λh=>?_) (λh=>?_);simp only[go_sem];grind[kD];have h0:¬pZ r o.Of<0:=of_decide_eq_false h;obtain⟨i,e,c,_⟩:=Hm (o_:0<=pZ r o.Of);have f:(r.L.map MM.A)[i]?=some r.L[i].A:=aO _ r.L i c;have j:=b.mg _ (eQ c);have d:=aKc (G:=G) r.L[i].Guards o.By o_;have g:kD r o=if(!decide (o.By∈r.L[i].Guards))=true then(-1,14) else((i:Int),0):=by grind[kD,Int.toNat_natCast]
 rw[g];simp only[go_sem,e,f,MM.A_def];apply cX d;cases k:decide (o.By∈r.L[i].Guards)<;>simp only[go_sem]
def aP2(r:RM)(o:OpM)(m:Int)(a:Bool)(c:r.ok):aA PQ G aK6 [.ag r.A,.ag o.A,iv m,.v (.bool a)] [] λy T=>y=iv (JI r o m a)/\T=[]:=by
 apply aC aMz;have h1:=aKc (G:=G) r.In o.Device (by have:=c.i;omega);have h2:=aHf (G:=G) r o.Device c;have h3:=aFd (G:=G) r o.Member c;simp only[go_sem,RM.A_def]at h1 h2 h3⊢;unfold JI;by_cases b:o.Device=0;rw[if_neg R_];simp only[go_sem,b];apply cX h3;simp only[go_sem];refine aL (λh=>?_) (λh=>?_);simp only[go_sem];simp_all;rw[if_neg (of_decide_eq_false h)];cases a;cases d:(o.Member !=m)<;>simp only[go_sem,d];simp only[go_sem,undef];have e:(o.Device !=0)=true:=R_;rw[if_pos b];simp only[go_sem,e];apply cX h1;cases f:decide (o.Device∈r.In);simp only[go_sem];simp only[go_sem];cases a;simp only[go_sem];apply cX h2;cases d:(eI r o.Device !=m)<;>simp only[go_sem,d];simp only[go_sem,undef]
def aP3 (l:B_) (w:l.length<=100000):aA PQ G aLv [rG l] [] λr T=>r=.own 0/\T=[some (.arr 1 ((C0 l).map λn=>[iv n]))]:=by
 apply aC aN5;have c:∀i,i<=l.length->(C0 (l.take i)).length=i:=λi f=>by rw[aLV,eC];omega
 simp only[go_sem];refine aQ l.length (λi=>⟨0,[(0,rG l),(3,.own 0),(4,iv i)],[some (.arr 1 ((C0 (l.take i)).map λn=>[iv n]))]⟩) (λ_=>True) ?_ trivial ?_ ?_;simp only[go_sem,uQ];rfl;intro i f _;have o:=fQ i o_;have m:(l.map λn=>[iv n])[i]?=some [iv l[i]]:=aO _ l i f;have b:C0 (l.take (i+1))=Sz (C0 (l.take i)) l[i]:=by unfold C0;rw[GO _ _ l i f]
 have c:=c i o_;rw[b];generalize C0 (l.take i)=out at *
 generalize l[i]=x at *
 have d:=aRS out x;simp only[go_sem,aP,aT f];refine jG (λs=>s=⟨0,[(0,rG l),(3,.own 0),(4,iv i),(5,iv (kR out x))],[some (.arr 1 (out.map λn=>[iv n]))]⟩) ?_ ?_;refine cO (λn s=>∃k:Nat,n=out.length-k/\k<=out.length/\(∀j,j<k->decide (out.getD j 0<=x)=true)/\s=⟨0,[(0,rG l),(3,.own 0),(4,iv i),(5,iv k)],[some (.arr 1 (out.map λn=>[iv n]))]⟩) out.length
  ⟨0,rfl,pR _,λj e=>o_,m_⟩ ?_
 rintro n s ⟨k,t,g,e,rfl⟩;by_cases a:k<out.length;have v:(out.map λn=>[iv n])[k]?=some [iv (out.getD k 0)]:=by rw[gE,rH,jN a];rfl
 have p:=fQ k o_;simp only[go_sem,aP,aT a,a,v,m];refine aL (λh=>?_) (λh=>?_);simp only[go_sem,p]
 exact⟨out.length-(k+1),o_,k+1,rfl,o_,λj u=>by
  rcases eD j k with h1|h1;exact e j h1;obtain rfl:j=k:=o_
  exact h,rfl⟩
 simp only[go_sem];rw[show kR out x=k from aOM g e (.inr h)];simp only[go_sem,aP,aS a,undef];rw[show kR out x=k from aOM g e (.inl o_)];rintro s rfl;unfold Sz;generalize kR out x=q at *
 simp only[go_sem,aP,eC,vY,dZ,Kj d,d,QO,pQ,pR,m,(o_:q*8<=140737488355328),(a_:q<=maxLen),(a_:q+1<=maxLen),(o_:(q+1)*8<=140737488355328),
  (o_:q+(out.length-q)=out.length),o,(o_:(q+1+(out.length-q))*8<=140737488355328),(a_:q+1+(out.length-q)<=maxLen),cN,eB,bZ,QN,aC0,fG,uP]
 intro _;rw[sG o_];simp only[go_sem,aP,aS (bP _)]
def VM.A_def(v:VM):v.A=[iv v.Of.a,iv v.Of.b,.v (.int .u64 v.Of.c),iv v.By,iv v.Device,iv v.At]:=fI rfl rfl
def aP4{α:Type}(p:α->Bool)(l:List α)(i:Nat)(h:i<l.length):(l.take (i+1)).filter p=(l.take i).filter p++(if p l[i] then [l[i]] else []):=by rw[lB h,Mf];grind
def aQP (r:RM) (n d:Int) (B:r.ok) (g:∀m∈r.L,m.Is=true->1<=m.Need/\m.Need<=1000):aA PQ G aMv [.ag r.A,iv n,iv d] [] λy T=>y=.tup [iv (Ll r n d).1,iv (Ll r n d).2]/\T=[]:=by
 apply aC aOI;have C:=aFd (G:=G) r n B;have I:=B.v;simp only[go_sem,RM.A_def]at C⊢;apply cX C;simp only[go_sem];refine aL (λh=>?_) (λh=>?_);simp only[go_sem];grind[Ll];have h0:¬jL r n<0:=of_decide_eq_false h;obtain⟨i,e,E,_⟩:=Ox (o_:0<=jL r n);have O:(r.L.map MM.A)[i]?=some r.L[i].A:=aO _ r.L i E;have F:Ll r n d=if(!r.L[i].Is)=true then(0,4) else if((XZ r r.L[i].ID d).length:Int)<r.L[i].Need then(0,26) else
   if(r.L[i].Obj&&decide ((XZ r r.L[i].ID d).getD 0 0<=r.L[i].Last))=true then(0,28) else(IntKind.i64.wrap ((XZ r r.L[i].ID d).getD (r.L[i].Need-1).toNat 0+r.L[i].Wait),0):=by
  grind[Ll,Int.toNat_natCast]
 rw[F];have s:=g _ (eQ E);clear F g;simp only[go_sem,e,O,MM.A_def];cases b:r.L[i].Is;simp only[go_sem];obtain⟨S,R⟩:=s b;generalize r.L[i]=m at *
 simp only[go_sem];refine aQ r.V.length (λk=>⟨0,[(2,iv d),(3,.ptr 0 0),(9,.ptr 1 0),(10,.own 2),(11,iv k)],[some (.box [.ls 5 (r.Cards.map CardM.A),rG r.In,rG r.Gone,.ls 11 (r.L.map MM.A),iv r.Back,.ls 6 (r.V.map VM.A)]),some (.box m.A),some (.arr 1 ((((r.V.take k).filter λv=>decide (v.Of=m.ID)&&(v.Device==d)).map (·.At)).map λn=>[iv n]))]⟩) (λ_=>True) ?_ trivial ?_ ?_;simp only[go_sem,MM.A_def,b,uQ];intro k j _;have p:=fQ k o_;have u:(r.V.map VM.A)[k]?=some r.V[k].A:=aO _ r.V k j;rw[aP4 _ r.V k j];have D:((r.V.take k).filter λv=>decide (v.Of=m.ID)&&(v.Device==d)).length<=k:=uR (List.length_filter_le _ _) dc;generalize((r.V.take k).filter λv=>decide (v.Of=m.ID)&&(v.Device==d))=out at *
 generalize r.V[k]=v at *
 have t:=Id.beq v.Of m.ID;have Q:out.length+1<=maxLen:=a_;have P:(out.length+1)*8<=140737488355328:=o_;cases h1:decide (v.Of=m.ID);simp only[go_sem,aP,aT j,u,MM.A_def,VM.A_def,b,t,h1,undef,p];cases h2:(v.Device==d);simp only[go_sem,aP,aT j,u,MM.A_def,VM.A_def,b,t,h1,h2,p];simp only[go_sem,aP,aT j,u,MM.A_def,VM.A_def,b,t,h1,h2,p,Q,P];intro _;rw[dE];have N:(r.V.filter λv=>decide (v.Of=m.ID)&&(v.Device==d)).length<=100000:=uR (List.length_filter_le _ _) I;have K:=aP3 (G:=G) ((r.V.filter λv=>decide (v.Of=m.ID)&&(v.Device==d)).map (·.At)) (by rw[aP];exact N);have o:XZ r m.ID d=C0 ((r.V.filter λv=>decide (v.Of=m.ID)&&(v.Device==d)).map (·.At)):=rfl;rw[o];generalize(r.V.filter λv=>decide (v.Of=m.ID)&&(v.Device==d)).map (·.At)=l at *
 simp only[go_sem,aP,aS (bP _),MM.A_def,b];apply cH (aB _) rfl rfl K;rintro y W ⟨rfl,rfl⟩;refine⟨w_,by simp only[cA,forall_eq,xH,dF];rintro e ⟨a,_,rfl⟩ c M;exact⟨_,cA.1 M⟩,?_⟩;have J:=aLV l;generalize C0 l=f at *
 simp only[go_sem,aP];refine aL (λh1=>?_) (λh1=>?_);simp only[go_sem,of_decide_eq_true h1];have h1:=of_decide_eq_false h1;have w1:IntKind.i64.wrap (m.Need-1)=m.Need-1:=aJ o_ o_;have q:(m.Need-1).toNat<f.length:=o_;have z:0<=m.Need-1:=o_;have x:0<f.length:=o_;have H:(f.map λn=>[iv n])[0]?=some [iv (f.getD 0 0)]:=by rw[gE,rH,jN x];rfl
 have w:(f.map λn=>[iv n])[(m.Need-1).toNat]?=some [iv (f.getD (m.Need-1).toNat 0)]:=by rw[gE,rH,jN q];rfl
 cases U:m.Obj;simp only[go_sem,aP,undef,w1,q,z,w,h1];simp only[go_sem,aP,x,H,ge_iff_le];refine aL (λh2=>?_) (λh2=>?_);simp only[go_sem,h1,h2];simp only[go_sem,aP,w1,q,z,w,h1,h2]
def RM.need(r:RM):Prop:=∀m∈r.L,m.Is=true->1<=m.Need/\m.Need<=1000
def aMe (r:RM) (o:OpM) (c:r.ok) (a:o.Kind=11\/o.Kind=13) (b:r.need):aA PQ G aJJ [.ag r.A,.ag o.A] [] λy T=>y=iv (C1 r o)/\T=[]:=by
 apply aC aMc;have m:=aNS (G:=G) r o c;have h1:=aHf (G:=G) r o.Device c;have h2:=aHf (G:=G) r o.Old c;have h3:=aKc (G:=G) r.In o.Old (by have:=c.i;omega);have g:=aMB (G:=G) r o.Device c;have f:=λn=>aQP (G:=G) r n o.Device c b;simp only[go_sem,RM.A_def]at m h1 h2 g f⊢;apply cX m;simp only[go_sem];refine aL (λp=>?_) (λp=>?_);simp only[go_sem];grind[C1];have t:(kD r o).2=0:=by simpa using p
 obtain⟨i,e,l⟩:∃i:Nat,(kD r o).1=(i:Int)/\i<r.L.length:=by rw[kD]at t⊢;by_cases h0:pZ r o.Of<0;simp_all;obtain⟨i,e,l,_⟩:=Hm (o_:0<=pZ r o.Of);grind
 have u:(r.L.map MM.A)[i]?=some r.L[i].A:=aO _ r.L i l;have q:C1 r o=if(o.Kind==11&&eI r o.Device !=r.L[i].N)=true then 16 else
   if(o.Kind==13&&(!decide (o.Old∈r.In)||eI r o.Old !=r.L[i].N||eI r o.Device !=r.L[i].N))=true then 17 else
   if(!lZ r o.Device)=true then 17 else if(o.Kind==11)=true then 0 else
   if((Ll r r.L[i].N o.Device).2==0&&decide (o.At<(Ll r r.L[i].N o.Device).1))=true then 27 else(Ll r r.L[i].N o.Device).2:=by
  grind[C1,Int.toNat_natCast]
 rw[q];have f:=f r.L[i].N;clear q;simp only[go_sem,e,u,MM.A_def];generalize r.L[i].N=n at *
 generalize Ll r n o.Device=h at *
 rcases a with a|a;simp only[go_sem,a];apply cX h1;cases d:(eI r o.Device !=n);simp only[go_sem,a,d,undef];apply cX g;cases k:lZ r o.Device;simp only[go_sem,a];simp only[go_sem,a];simp only[go_sem,a,d];simp only[go_sem,a,undef];apply cX h3;cases w:decide (o.Old∈r.In);simp only[go_sem,a,undef];simp only[go_sem];apply cX h2;cases d:(eI r o.Old !=n);simp only[go_sem,d];apply cX h1;cases k:(eI r o.Device !=n);simp only[go_sem,k];apply cX g;cases v:lZ r o.Device;simp only[go_sem,a];simp only[go_sem,a];apply cX f;cases s:(h.2==0);simp only[go_sem,a,s,undef];simp only[go_sem,s];refine aL (λj=>?_) (λj=>?_);simp only[go_sem,a,j];simp only[go_sem,a,j];simp only[go_sem,a,k];simp only[go_sem,a,d,undef]
def aPS(p:Int->Bool)(l:B_)(i:Nat)(h:i<l.length):(l.take (i+1)).all p=((l.take i).all p&&p l[i]):=by rw[lB h,YK];simp
def aQQ (r:RM) (o:OpM) (x:Id) (g:r.ok) (ho:o.ok) (k:r.need):aA PQ G aMp [.ag r.A,.ag o.A,.ag x.A] [] λy T=>y=iv (mT r o)/\T=[]:=by
 apply aC aOE;have z:=aHf (G:=G) r o.By g;have Q:=aKc (G:=G) r.In o.By (by have:=g.i;omega);have u:=aP1 (G:=G) r (eI r o.By) g;have F:=aMB (G:=G) r o.Device g;have B:=aHf (G:=G) r o.Device g;have w:=λb=>aP2 (G:=G) r o (eI r o.By) b g;have D:=aFd (G:=G) r o.Member g;have C:=aHf (G:=G) r o.Of.a g;have v:=aFd (G:=G) r (eI r o.By) g;have E:=g.i;have ac:=ho.guards.1;unfold mT;generalize hm:eI r o.By=m at *
 simp only[go_sem,RM.A_def]at z u F B w D C v⊢;apply cX z;cases W:(o.Kind==1);rotate_left;simp only[go_sem,W];cases m0:(m==0);by_cases c1:0<r.In.length;have K:decide ((r.In.length:Int)>0)=true:=decide_eq_true o_;simp only[go_sem,aP,K,undef];rw[if_pos (.inl c1)];have K:decide ((r.In.length:Int)>0)=false:=decide_eq_false o_;by_cases c2:0<r.Gone.length;have R:decide ((r.Gone.length:Int)>0)=true:=decide_eq_true o_;simp only[go_sem,aP,K,R];rw[if_pos (.inr c2)];have R:decide ((r.Gone.length:Int)>0)=false:=decide_eq_false o_;simp only[go_sem,aP,K,R];rw[if_neg (λh=>h.elim c1 c2)];simp only[go_sem];simp only[go_sem,W];apply cX Q;cases hb:decide (o.By∈r.In);simp only[go_sem];simp only[go_sem];apply cX u;generalize ab:sD r m=M at *
 cases U:(o.Kind==2);rotate_left;simp only[go_sem,U];apply cX F;cases S:lZ r o.Device;simp only[go_sem];simp only[go_sem];cases X:(M==3);simp only[go_sem];apply cX B;cases I:(eI r o.Device !=m);simp only[go_sem,I];simp only[go_sem,I];simp only[go_sem,undef];simp only[go_sem,U];cases k3:(o.Kind==3);rotate_left;simp only[go_sem];apply cX (w _);simp only[go_sem];simp only[go_sem];cases k5:(o.Kind==5);rotate_left;simp only[go_sem];cases X:(M==3);simp only[go_sem];simp only[go_sem];apply cX D;simp only[go_sem];refine aL (λh=>?_) (λh=>?_);simp only[go_sem];rw[if_pos (of_decide_eq_true h)];simp only[go_sem];rw[if_neg (of_decide_eq_false h)];simp only[go_sem];cases k6:(o.Kind==6);rotate_left;simp only[go_sem];apply cX u;simp only[go_sem];refine aL (λh=>?_) (λh=>?_);simp only[go_sem];rw[if_pos (of_decide_eq_true h)];simp only[go_sem];rw[if_neg (of_decide_eq_false h)];simp only[go_sem];cases k8:(o.Kind==8);rotate_left;simp only[go_sem];cases X:(M==3);simp only[go_sem];apply cX C;cases I:(eI r o.Of.a !=m);simp only[go_sem,I];simp only[go_sem,I];simp only[go_sem,undef];simp only[go_sem];cases k9:(o.Kind==9);rotate_left;simp only[go_sem];refine aQ o.Guards.length (λi=>⟨0,[(3,.ptr 0 0),(4,.ptr 1 0),(10,iv i)],[some (.box [.ls 5 (r.Cards.map CardM.A),rG r.In,rG r.Gone,.ls 11 (r.L.map MM.A),iv r.Back,.ls 6 (r.V.map VM.A)]),some (.box o.A)]⟩) (λi=>(o.Guards.take i).all (λd=>decide (d∈r.In))=true) ?_ s_ ?_ ?_;simp only[go_sem];intro i E J;have Y:=fQ i o_;have q:(o.Guards.map λn=>[iv n])[i]?=some [iv o.Guards[i]]:=aO _ o.Guards i E;have hh:=aKc (G:=G) r.In o.Guards[i] o_;have hd:=aPS (λd=>decide (d∈r.In)) o.Guards i E;simp only[go_sem,aP,aT E,q];apply cX hh;cases S:decide (o.Guards[i]∈r.In);simp only[go_sem];rw[if_neg];intro s;rw[oD]at s;have:=s _ (eQ E);rw[S]at this;exact absurd this d_;simp only[go_sem,Y];rw[hd,J,S];rfl;intro J;rw[dE]at J;simp only[go_sem,aP,aS (bP _),J];simp only[go_sem];have O:(o.Kind==10||o.Kind==12)=true\/((o.Kind==10)=false/\(o.Kind==12)=false):=by cases(o.Kind==10)<;>cases(o.Kind==12)<;>simp
 rcases O with P|⟨f,c⟩
 have H:∀b:Bool,(o.Kind==10)=b->b=false->(o.Kind==12)=true:=by intro b h1 h2;rw[h1,h2]at P;simpa using P
 have aa:∀Z:St,True:=λ_=>trivial;rw[if_pos P];cases f:(o.Kind==10);have c:=H _ f rfl;simp only[go_sem,c];apply cX v;simp only[go_sem];refine aL (λh=>?_) (λh=>?_);simp only[go_sem];rw[if_pos (of_decide_eq_true h)];have h0:¬jL r m<0:=of_decide_eq_false h;obtain⟨i,e,l,_⟩:=Ox (o_:0<=jL r m);have q:(r.L.map MM.A)[i]?=some r.L[i].A:=aO _ r.L i l;have p:=Id.beq r.L[i].ID o.Of;rw[if_neg h0,e,nI,nH l];cases c1:r.L[i].Is;simp only[go_sem,q,MM.A_def,c1,undef,Id.A_def];cases c2:decide (r.L[i].ID=o.Of);simp only[go_sem,q,MM.A_def,c1,p,c2,Id.A_def];simp only[go_sem,q,MM.A_def,c1,p,c2,Id.A_def];simp only[go_sem];apply cX v;simp only[go_sem];refine aL (λh=>?_) (λh=>?_);simp only[go_sem];rw[if_pos (of_decide_eq_true h)];have h0:¬jL r m<0:=of_decide_eq_false h;obtain⟨i,e,l,_⟩:=Ox (o_:0<=jL r m);have q:(r.L.map MM.A)[i]?=some r.L[i].A:=aO _ r.L i l;have p:=Id.beq r.L[i].ID o.Of;rw[if_neg h0,e,nI,nH l];cases c1:r.L[i].Is;simp only[go_sem,q,MM.A_def,c1,undef,Id.A_def];cases c2:decide (r.L[i].ID=o.Of);simp only[go_sem,q,MM.A_def,c1,p,c2,Id.A_def];simp only[go_sem,q,MM.A_def,c1,p,c2,Id.A_def];simp only[go_sem,f,c];cases N:(o.Kind==11);cases t:(o.Kind==13);simp only[go_sem,t,f,c];have j:=aMe (G:=G) r o g (.inr W_) k;simp only[go_sem,RM.A_def]at j;simp only[go_sem,t];apply cX j;simp only[go_sem,f,c];have j:=aMe (G:=G) r o g (.inl (by simpa using N)) k;simp only[go_sem,RM.A_def]at j;simp only[go_sem];apply cX j;simp only[go_sem,f,c]
structure RP where
 root:Nat
 c:Nat
 i:Nat
 w:Nat
 m:Nat
 ms:List (Nat×Nat×Nat)
abbrev iK(d:Int):List Value:=[.int .i64 d]
def tK(l:B_)(bs:V_)(a:Nat):AObj:=.map false (l.map iK) (l.map λ_=>.v (.bool true)) bs a
structure Bs(n:Nat)(bs:List Nat)(cl:Nat):Prop where
 len:bs.length=n
 nd:bs.Nodup
 lt:∀b∈bs,b<cl
def KO(l:List VM)(bs:V_)(a:Nat):AObj:=.map true (l.map λv=>[.int .i64 v.By,.int .i64 v.Device]) (l.map λv=>iv v.At) bs a
def CR(m:MM)(v:Nat):O_:=[iv m.ID.a,iv m.ID.b,.v (.int .u64 m.ID.c),rG m.Guards,iv m.Need,iv m.Wait,.mp v,.v (.bool m.Obj),iv m.Last]
structure MemAt(T:aK)(V:List VM)(p:Nat×Nat×Nat)(m:MM):Prop where
 mem:T[p.1]?=some (some (.box [iv m.Role,if m.Is then .ptr p.2.1 0 else .v (.pointer none)]))
 grd:m.Is=true->T[p.2.1]?=some (some (.box (CR m p.2.2)))
 vch:m.Is=true->∃l bs cl,T[p.2.2]?=some (some (KO l bs cl))/\Bs l.length bs cl/\(∀v,v∈l↔v∈V/\v.Of=m.ID)/\(l.map λv=>(v.By,v.Device)).Nodup
def G1(p:Nat×Nat×Nat)(m:MM):V_:=if m.Is then [p.1,p.2.1,p.2.2] else [p.1]
def MT(s:RP)(r:RM)(k:Nat):V_:=match s.ms[k]?,r.L[k]? with|some p,some m=>G1 p m|_,_=>[]
def RP.five(s:RP):V_:=[s.root,s.c,s.i,s.w,s.m]
structure FPr(s:RP)(r:RM):Prop where
 five:s.five.Nodup
 off:∀k,∀x∈MT s r k,x∉s.five
 own:∀k,(MT s r k).Nodup
 inj:∀k k' x,x∈MT s r k->x∈MT s r k'->k=k'
def aB7(s:RP)(r:RM)(x:Nat):Prop:=x∈s.five\/∃k,x∈MT s r k
structure RollAt(T:aK)(s:RP)(r:RM):Prop where
 root:T[s.root]?=some (some (.box [.mp s.c,.mp s.i,.mp s.w,.mp s.m,iv r.Back]))
 cards:T[s.c]?=some (some (.map false (r.Cards.map λc=>iK c.Device) (r.Cards.map λc=>.ag c.A) (List.range r.Cards.length) r.Cards.length))
 inn:∃bs cl,T[s.i]?=some (some (tK r.In bs cl))/\Bs r.In.length bs cl
 was:∃l bs cl,T[s.w]?=some (some (tK l bs cl))/\Bs l.length bs cl/\(∀d,d∈l↔d∈r.In\/d∈r.Gone)/\(l=[]↔r.In=[]/\r.Gone=[])/\l.Nodup
 mems:∃bs cl,T[s.m]?=some (some (.map false (r.L.map λm=>iK m.N) (s.ms.map λp=>.ptr p.1 0) bs cl))/\Bs r.L.length bs cl
 mslen:s.ms.length=r.L.length
 each:∀k(h:k<r.L.length)(h2:k<s.ms.length),MemAt T r.V s.ms[k] r.L[k]
 nd:FPr s r
@[go_sem] def aRT(d:Int):LF false [.int .i64] (iv d)=some (iK d):=fI (by simp[LF,rJ,iK]) rfl
@[go_sem] def aG2(d e:Int):rJ [.int .i64] (iK d) (iK e)=some (d==e):=fI (by simp[rJ]) rfl
def iW(d:Int):∀(l:B_)(i:Nat),eR [.int .i64] (iK d) (l.map iK) i=some ((l.findIdx? λy=>d==y).map (· + i))
 |[],_=>rfl
 | y::l,i=>by
  simp only[fG,eR,aG2,List.findIdx?_cons];have:=iW d l (i+1);cases d==y;simp only[this,jJ,if_false]
  cases l.findIdx? (λy=>d==y) with
  |none=>rfl
  |some j=>simp;omega
  simp
def MU{l:B_}{d:Int}(h:d∉l):(l.findIdx? λy=>d==y)=none:=f_
def aG3{l:B_}{d:Int}(h:d∈l):∃j,(l.findIdx? λy=>d==y)=some j/\j<l.length:=by
 cases e:l.findIdx? (λy=>d==y) with
 |none=>exact absurd (Md.1 e d h) s_|some j=>exact⟨j,rfl,(Ad.1 e).1⟩
def aG4(l:List CardM)(d:Int):(l.map (·.Device)).findIdx? (λy=>d==y)=l.findIdx? λc=>c.Device==d:=by rw[List.findIdx?_map];congr 1;grind
section
variable{T:aK}{s:RP}{r:RM}
def kE(h:RollAt T s r)(d:Int):aA PQ G bR [.ptr s.root 0,iv d] T λx o=>x=iv (eI r d)/\o=T:=by
 apply eH JK;have h1:=h.root;have h2:=h.cards;have a:=iW d (r.Cards.map (·.Device)) 0;rw[rI,aG4]at a;have n:(iK∘λc:CardM=>c.Device)=λc=>iK c.Device:=rfl;rw[n]at a
 cases e:r.Cards.findIdx? (λc=>c.Device==d) with
 | none=>
  rw[e]at a;simp only[xD]at a;have b:eI r d=0:=by grind[eI]
  rw[b];simp only[go_sem,h1,h2,a,dE]
 | some j=>
  rw[e]at a;simp only[iX,mG]at a;obtain⟨l,g,f⟩:=Ad.1 e;have b:eI r d=r.Cards[j].Member:=by unfold eI;rw[(aBG (p:=λc:CardM=>c.Device==d)).2 ⟨g,j,l,rfl,λk i=>by simpa using f k i⟩]
  have m:(r.Cards.map λc=>AV.ag c.A)[j]?=some (.ag r.Cards[j].A):=t_;rw[b];simp only[go_sem,h1,h2,a,m];simp only[go_sem,CardM.A_def,dE]
def K4(l:B_)(d:Int):(∃j,(l.findIdx? λy=>d==y)=some j/\j<l.length/\d∈l)\/((l.findIdx? λy=>d==y)=none/\d∉l):=by by_cases h:d∈l;obtain⟨j,e,a⟩:=aG3 h;simp_all;grind
def aEg(l:List MM)(n:Int):(l.map (·.N)).findIdx? (λy=>n==y)=l.findIdx? λm=>m.N==n:=by rw[List.findIdx?_map];congr 1;grind
def rW(h:RollAt T s r)(d:Int):aA PQ G iL [.ptr s.root 0,iv d] T λx f=>x=.v (.bool (lZ r d))/\f=T:=by
 apply eH Fi;have h1:=h.root;obtain⟨l,bs,n,h2,_,k,_⟩:=h.was;have a:=iW d l 0;unfold tK at h2;have g:aB6 r d=decide (d∈l):=by simp_all[aB6]
 simp only[go_sem];apply jA (kE h d);rintro x f ⟨rfl,rfl⟩;unfold lZ;rw[g];cases c:decide (0<eI r d);simp only[go_sem,gt_iff_lt,c,undef,lR,dE];rcases K4 l d with⟨j,e,m,b⟩|⟨e,b⟩
 rw[e]at a;simp only[iX,mG]at a;have i:(l.map λ_=>AV.v (.bool true))[j]?=some (.v (.bool true)):=t_;simp only[go_sem,gt_iff_lt,c,h1,h2,a,i,dE,decide_eq_true b];rw[e]at a;simp only[xD]at a;simp only[go_sem,gt_iff_lt,c,h1,h2,a,dE,decide_eq_false b]
def B5(h:RollAt T s r)(n:Int):aA PQ G nL [.ptr s.root 0,iv n] T λx l=>x=iv (sD r n)/\l=T:=by
 apply eH Gi;have h1:=h.root;obtain⟨bs,o,h2,_⟩:=h.mems;have a:=iW n (r.L.map (·.N)) 0;rw[rI,aEg]at a;have k:(iK∘λc:MM=>c.N)=λc=>iK c.N:=rfl;rw[k]at a
 cases e:r.L.findIdx? (λm=>m.N==n) with
 | none=>
  rw[e]at a;simp only[xD]at a;have b:sD r n=0:=by grind[sD,jL,qX]
  rw[b];simp only[go_sem,h1,h2,a,dE]
 | some j=>
  rw[e]at a;simp only[iX,mG]at a;obtain⟨f,_,_⟩:=Ad.1 e;have d:j<s.ms.length:=by rw[h.mslen];exact f
  have g:=(h.each j f d).mem;have b:sD r n=r.L[j].Role:=by grind[sD,jL,qX,Int.toNat_natCast]
  have i:(s.ms.map λp=>AV.ptr p.1 0)[j]?=some (.ptr s.ms[j].1 0):=t_;rw[b];simp only[go_sem,h1,h2,a,i,g,dE]
end
end Hud
