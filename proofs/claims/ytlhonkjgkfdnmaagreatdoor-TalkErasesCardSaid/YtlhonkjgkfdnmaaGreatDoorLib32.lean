import Derived.Test.YtlhonkjgkfdnmaaGreatDoorLib19
import Derived.Test.YtlhonkjgkfdnmaaGreatDoorLib28
import Derived.Test.YtlhonkjgkfdnmaaGreatDoorLib29
import Derived.Test.YtlhonkjgkfdnmaaGreatDoorLib30
import Derived.Test.YtlhonkjgkfdnmaaGreatDoorLib31
set_option linter.all false
set_option maxHeartbeats 40000000
namespace Hud
open Go
variable{G:L_}
def Su(g:PGM)(x:Id):Int:=if x∈g.I then(g.nd x).lv else 0
def P0(g:PGM)(x y:Id):Bool:=decide (Su g x<Su g y)||(decide (Su g x=Su g y)&&x.lt y)
def aFP{g:PGM}{x y:Id}(h:P0 g x y=false)(k:P0 g y x=false):x=y:=by
 simp only[P0,YE,aBM,decide_eq_false_iff_not]at h k;have e:Su g x=Su g y:=o_;exact Id.lt_total (h.2.resolve_left o_) (k.2.resolve_left o_)
def aAX{g:PGM}{x y:Id}(h:P0 g x y=true):P0 g y x=false:=by
 simp only[P0,Ec,zJ,decide_eq_true_eq,YE,aBM,decide_eq_false_iff_not]at h⊢;rcases h with h|⟨h1,h2⟩
 omega;exact⟨o_,.inr (Id.lt_asymm h2)⟩
def XE{g:PGM}{x y z:Id}(h:P0 g y x=false)(k:P0 g z y=false):P0 g z x=false:=by simp only[P0,YE,aBM,decide_eq_false_iff_not]at h k⊢;refine⟨o_,?_⟩;by_cases e:Su g z=Su g x;exact .inr (Id.nlt_trans (k.2.resolve_left o_) (h.2.resolve_left o_));exact .inl e
def eO(g:PGM)(l:D_):D_:=l.mergeSort λx y=>!(P0 g y x)
def mE(g:PGM)(l:D_):(eO g l).Perm l:=H4 l _
def aDM(g:PGM)(l:D_):(eO g l).length=l.length:=(mE g l).length_eq
def U4(g:PGM)(l:D_):(eO g l).Pairwise λx y=>P0 g y x=false:=by
 have:=List.pairwise_mergeSort (le:=λx y=>!(P0 g y x)) (λa b c h1 h2=>by simp only[EX]at *;exact XE h1 h2)
  (λa b=>by
   cases h:P0 g b a with
   |false=>simp|true=>simp[aAX h]) l
 refine this.imp λh=>?_;simpa using h
def aJd {g:PGM}:∀{l m:D_},l.Perm m->l.Pairwise (λx y=>P0 g y x=false)->m.Pairwise (λx y=>P0 g y x=false)->l=m
 |[],m,a,_,_=>(List.nil_perm.1 a).symm ▸ rfl
 |x::l,[],a,_,_=>absurd a.length_eq s_
 | x::l,y::m,a,h1,h2=>by
  obtain⟨i,h⟩:=H5.1 h1;obtain⟨f,d⟩:=H5.1 h2;have e:x=y:=by have c:x∈y::m:=a.mem_iff.1 s_;have b:y∈x::l:=a.mem_iff.2 s_;rcases cS.1 c with e|c;exact e;rcases cS.1 b with e|b;exact e.symm;exact aFP (f x c) (i y b)
  subst e;rw[aJd (List.perm_cons x |>.1 a) h d]
def B2(g:PGM)(x y:Id):Int:=nF [wG (Su g x) (Su g y),if x.lt y then -1 else if y.lt x then 1 else 0]
def U5{g:PGM}{x y:Id}(h:P0 g x y=true):B2 g x y=-1:=by simp only[P0,Ec,zJ,decide_eq_true_eq]at h;grind[B2,wG,nF]
def aDN{g:PGM}{x y:Id}(h:P0 g y x=true):B2 g x y=1:=by
 simp only[P0,Ec,zJ,decide_eq_true_eq]at h;rcases h with h|⟨h1,h2⟩
 grind[B2,wG,nF];simp[B2,wG,nF,h1,h2,Id.lt_asymm h2]
theorem aDO(g:PGM)(x:Id):B2 g x x=0:=by simp[B2,wG,nF,Id.lt_irrefl]
def aKk(n:ND)(h:n.W.length=4):n.A[34]?=some (iv n.lv):=by simp_all[ND.A,OpM.len,oC,Id.A]
def RA{g:PGM}{x:Id}{j:Nat}(h:g.I.findIdx? (λy=>decide (y=x))=some j):g.nd x=g.nodes.getD j XD:=by simp[PGM.nd,PGM.at,h]
def GL(g:PGM)(f:g.ok)(x:Id):aA PQ G nC [.ptr 0 0,.ag x.A] (TG 0 g) λr T=>r=iv (Su g x)/\T=TG 0 g:=by
 apply aC Dk;have l:=AL x;have a:=qH x g.I 0;by_cases b:x∈g.I;obtain⟨j,h1,h2,_⟩:=dG b;have d:=RA h1;rw[h1]at a;have h:=yC g.I.length j h2;have e:j<g.nodes.length:=by grind[PGM.I]
 have i:(g.nodes.map ND.A)[j]?=some (g.nd x).A:=h_;have c:=(Q9 f x).1;have k:=aKk (g.nd x) c;have m:=ND.Alen (g.nd x) c;simp only[iX,mG]at a;simp only[Su,if_pos b];generalize(g.nd x)=n at *
 simp only[go_sem,TG,MG,a,h,aP,e,i,k];rw[eG b]at a;simp only[xD]at a;simp only[go_sem,TG,MG,a,Su,if_neg b]
def RB(g:PGM)(b:g.ok)(x y:Id):aA PQ G lL [.ag [.ptr 0 0],.ag x.A,.ag y.A] (TG 0 g) λr T=>r=iv (B2 g x y)/\T=TG 0 g:=by refine aC EP ?_;simp only[go_sem,TG,MG];apply cX (Cm x y);simp only[go_sem];refine aL (λh=>?_) (λh=>?_);rotate_left;simp only[go_sem];apply cX (Cm y x);simp only[go_sem];refine aL (λh2=>?_) (λh2=>?_);simp only[go_sem];apply aG [0,1,2] (aB _) d_ s_ i_ y_ (GL g b x);rintro r a ⟨rfl,rfl⟩;simp only[go_sem,TG,MG];apply aG [0,1,2] (aB _) d_ s_ i_ y_ (GL g b y);rintro r a ⟨rfl,rfl⟩;simp only[go_sem,TG,MG];apply cX (kB _ _);simp only[go_sem];apply cH (aB _) rfl rfl (AC [wG (Su g x) (Su g y),1] (by simp[maxLen]));rintro r a ⟨rfl,rfl⟩;refine⟨x_,s_,?_⟩;simp only[go_sem,B2,h,h2,jJ];simp only[go_sem];apply aG [0,1,2] (aB _) d_ s_ i_ y_ (GL g b x);rintro r a ⟨rfl,rfl⟩;simp only[go_sem,TG,MG];apply aG [0,1,2] (aB _) d_ s_ i_ y_ (GL g b y);rintro r a ⟨rfl,rfl⟩;simp only[go_sem,TG,MG];apply cX (kB _ _);simp only[go_sem];apply cH (aB _) rfl rfl (AC [wG (Su g x) (Su g y),0] (by simp[maxLen]));rintro r a ⟨rfl,rfl⟩;refine⟨x_,s_,?_⟩;simp only[go_sem,B2,h,h2,jJ];simp only[go_sem];apply aG [0,1,2] (aB _) d_ s_ i_ y_ (GL g b x);rintro r a ⟨rfl,rfl⟩;simp only[go_sem,TG,MG];apply aG [0,1,2] (aB _) d_ s_ i_ y_ (GL g b y);rintro r a ⟨rfl,rfl⟩;simp only[go_sem,TG,MG];apply cX (kB _ _);simp only[go_sem];apply cH (aB _) rfl rfl (AC [wG (Su g x) (Su g y),-1] (by simp[maxLen]));rintro r a ⟨rfl,rfl⟩;refine⟨x_,s_,?_⟩;simp only[go_sem,B2,h,jJ]
def K2{g:PGM}{l:D_}(c:l.Nodup):(eO g l).Pairwise λx y=>P0 g x y=true:=by
 have h1:=U4 g l;have h2:(eO g l).Pairwise (· ≠ ·):=(mE g l).nodup_iff.2 c;refine(h1.and h2).imp ?_;rintro x y ⟨a,b⟩
 cases h:P0 g x y with
 |true=>rfl|false=>exact absurd (aFP h a) b
def aFQ{g:PGM}(j:g.ok){l:D_}(i:l.Nodup):rF G g (Gf (eO g l)) lL (eO g l).length:=by
 intro a b d c;have e:=QD.1 (K2 (g:=g) i);have ea:Gf (eO g l) a=(eO g l)[a]:=by simp[Gf,rH,d]
 have k:Gf (eO g l) b=(eO g l)[b]:=by simp[Gf,rH,c]
 have f:B2 g (Gf (eO g l) a) (Gf (eO g l) b)=XA a b:=by rw[ea,k];unfold XA;rcases aGJ a b with h|h|h;rw[if_pos h,U5 (e a b d c h)];grind[aDO];rw[if_neg o_,if_pos h,aDN (e b a c d h)]
 have:=RB (G:=G) g j (Gf (eO g l) a) (Gf (eO g l) b);simp_all
def aDP(g:PGM)(c:g.ok)(l:D_)(a:l.Nodup)(b:l.length<=60000):aA PQ G mJ [.ptr 0 0,ids l] (TG 0 g) λr T=>r=.own 3/\T=TG 0 g++[some (.arr 3 ((eO g l).map Id.A))]:=by refine aC LS ?_;simp only[go_sem,TG,MG];apply kM (MO l o_);simp only[go_sem];apply aG [3,0,1,2] (aB _) d_ s_ f_ y_ (aIc ((mE g l).nodup_iff.2 a) (mE g l).symm b (aFQ c a));rintro r d ⟨rfl,rfl⟩;simp only[go_sem,TG,MG]
def ZK(g:PGM)(c:g.ok)(l:D_)(a:l.Nodup)(b:l.length<=60000):aA PQ G mJ [.ptr 0 0,ids l] (TG 0 g) λr T=>r=ids (eO g l)/\T=TG 0 g:=by refine(aDP g c l a b).fin [3] ?_;rintro r d ⟨rfl,rfl⟩;simp only[go_sem,TG,MG]
def P1:O_:=[iv 0,iv 0,iv 0,iv 0,.v (.slice none 0 0),iv 0,iv 0,iv 0,iv 0,.v (.slice none 0 0),iv 0,iv 0,.v (.int .u64 0),iv 0,.v (.slice none 0 0),.v (.slice none 0 0),iv 0,iv 0,.v (.int .u64 0),.v (.slice none 0 0),iv 0,iv 0,.v (.slice none 0 0),.v (.int .u64 0),.v (.slice none 0 0),.v (.int .u64 0),.v (.int .u64 0)]
def ndT(n:ND):n.A.take 27=n.o.A:=Y_
def aFR{g:PGM}(c:g.ok){x:Id}(b:x∈g.I):(g.nd x).o.ok:=by
 obtain⟨j,h1,h2,_⟩:=dG b;have a:j<g.nodes.length:=by grind[PGM.I]
 rw[RA h1,rH,jN a];exact c.ops _ (eQ a)
def aDQ(g:PGM)(c:g.ok)(x:Id)(b:x∈g.I):aA PQ G bY [.ptr 0 0,.ag x.A] (TG 0 g) λr T=>r=.tup [.ag (g.nd x).o.A,.v (.bool true)]/\T=TG 0 g:=by
 apply aC yZ;have p:=AL x;have a:=qH x g.I 0;obtain⟨j,h1,h2,_⟩:=dG b;have e:=RA h1;rw[h1]at a;have i:=yC g.I.length j h2;have f:j<g.nodes.length:=by grind[PGM.I]
 have k:(g.nodes.map ND.A)[j]?=some (g.nd x).A:=h_;have h:=(Q9 c x).1;have m:=ND.Alen (g.nd x) h;have l:=ndT (g.nd x);have d:=aFR c b;simp only[iX,mG]at a;generalize(g.nd x)=n at *
 simp only[go_sem,TG,MG,a,i,aP,f,k,m,l];apply cX (ZH n.o d);simp only[go_sem]
def aAY(g:PGM)(x:Id)(b:x∉g.I):aA PQ G bY [.ptr 0 0,.ag x.A] (TG 0 g) λr T=>r=.tup [.ag P1,.v (.bool false)]/\T=TG 0 g:=by refine aC yZ ?_;have c:=AL x;have a:=qH x g.I 0;rw[eG b]at a;simp only[xD]at a;simp only[go_sem,TG,MG,a,P1]
def oH(g:PGM)(x y:Id):Bool:=decide (x∈g.I)&&(decide (y∈g.I)&&qK (g.nd y).W (g.at x))
def XF(es:N_)(j p:Nat)(c post:O_)(q:c.length=p)(W:V_)(n:Nat)(d:Hu W)(w:n<256)(t:es[j]?=some (c++(oC W++post))):aA PQ G pE [.elt 0 35 j p,iv n] [some (.arr 35 es)] λr T=>r=.v (.bool (qK W n))/\T=[some (.arr 35 es)]:=by
 apply aC Ar;have l:bV .quo (.int .i64 (n:Int)) (.int .i64 64)=some (.int .i64 ((n/64:Nat):Int)):=J6 n 64 d_ o_;have q2:bV .rem (.int .i64 (n:Int)) (.int .i64 64)=some (.int .i64 ((n%64:Nat):Int)):=J7 n 64 d_;have s:n%64<64:=zM _ d_;have h:n/64<4:=o_;have f:=AJ d (n/64);have k:=Q4 (W.getD (n/64) 0) (n%64) s f;have u:bV .and (.int .u64 ((W.getD (n/64) 0/2^(n%64):Nat):Int)) (.int .u64 1)=some (.int .u64 ((W.getD (n/64) 0/2^(n%64) &&& 1:Nat):Int)):=J5 _ 1 (QJ (Ml _ _) f) d_;have t1:=K0 (W.getD (n/64) 0) (n%64);have i:=Sq c (oC W) post (n/64) (by rw[aP,d.1];exact h);rw[Dw W (n/64) (by rw[d.1];exact h),q]at i;have o:(0:Int)<=((n/64:Nat):Int):=o_;have m:((n/64:Nat):Int)<4:=o_;have g:qK W n=(W.getD (n/64) 0).testBit (n%64):=rfl;rw[g,<-t1];clear t1 g;generalize n/64=a at *
 generalize n%64=b at *
 generalize c++(oC W++post)=e at *
 simp only[go_sem,↓l,↓q2,↓k,↓u,o,m,i,t,Bb,pQ]
def aDR (g:PGM) (i:g.ok) (x y:Id):aA PQ G eZ [.ptr 0 0,.ag x.A,.ag y.A] (TG 0 g) λr T=>r=.v (.bool (oH g x y))/\T=TG 0 g:=by
 apply aC Cv;have s:=AL x;have q:=AL y;have b:=qH x g.I 0;have a:=qH y g.I 0;by_cases h1:x∈g.I;obtain⟨j,m,p,_⟩:=dG h1;have l:=yC g.I.length j p;rw[m]at b;simp only[iX,mG]at b;by_cases h2:y∈g.I;obtain⟨k,d,e,_⟩:=dG h2;have h:=yC g.I.length k e;rw[d]at a;simp only[iX,mG]at a;have f:k<g.nodes.length:=by grind[PGM.I]
 have z:j<g.nodes.length:=by grind[PGM.I]
 have w:=i.n;have u:(g.nodes.map ND.A)[k]?=some ((g.nd y).o.A++(g.nd y).id.A++(oC (g.nd y).W++[iv (g.nd y).lv])):=by rw[gE,jN f,RA d,rH,jN f];rfl
 have c:oH g x y=qK (g.nd y).W j:=by unfold oH;rw[decide_eq_true h1,decide_eq_true h2,show g.at x=j by simp[PGM.at,m]];rfl
 rw[c];have t:=XF (G:=G) (g.nodes.map ND.A) k 30 ((g.nd y).o.A++(g.nd y).id.A) [iv (g.nd y).lv] (by rw[dZ,OpM.len];rfl) (g.nd y).W j (Q9 i y) o_ u;simp only[go_sem,TG,MG,b,a,l,h,aP,f];apply aG [2] (aB _) d_ s_ rfl rfl t;rintro r B ⟨rfl,rfl⟩;simp only[go_sem];rw[eG h2]at a;simp only[xD]at a;have c:oH g x y=false:=by grind[oH]
 rw[c];simp only[go_sem,TG,MG,b,a,l];rw[eG h1]at b;simp only[xD]at b;have c:oH g x y=false:=by grind[oH]
 rw[c];by_cases h2:y∈g.I;obtain⟨k,d,e,_⟩:=dG h2;have h:=yC g.I.length k e;rw[d]at a;simp only[iX,mG]at a;simp only[go_sem,TG,MG,b,a,h];rw[eG h2]at a;simp only[xD]at a;simp only[go_sem,TG,MG,b,a]
def aAZ(g:PGM)(a:g.ok):aA PQ G kJ [.ptr 0 0] (TG 0 g) λr T=>r=.ls 5 (g.cards.map CardM.A)/\T=TG 0 g:=by refine aC D0 ?_;have b:=a.cn;simp only[go_sem,TG,MG];apply cX (BB _ M_);simp only[go_sem]
def U6(cs:List CardM)(o:OpM)(d:Int):Bool :=
 if o.Kind==13 then d==o.Old else if o.Device !=0 then d==o.Device else(gM cs d).2&&((gM cs d).1.Member==o.Member)
def Oh(cs:List CardM)(a b:OpM):Bool :=
 if a.Kind==3||a.Kind==13 then !((a.Kind==13&&b.Kind==12)&&decide (a.Of=b.Of))&&U6 cs a b.By else
 if a.Kind==12 then(b.Kind==13&&decide (b.Of=a.Of))&&decide (a.At<=b.At) else false
def lA(g:PGM)(x y:Id):Bool :=
 decide (x∈g.I)&&(decide (y∈g.I)&&(!decide (x=y)&&(!oH g y x&&(!oH g x y&&Oh g.cards (g.nd x).o (g.nd y).o))))
def aFS(g:PGM)(c:g.ok)(o:OpM)(d:Int):aA PQ G Bj [.ptr 0 0,.ag o.A,iv d] (TG 0 g) λr T=>r=.v (.bool (U6 g.cards o d))/\T=TG 0 g:=by refine aC Oe ?_;unfold U6;have b:=ZI (G:=G) g d (by have:=c.cn;omega);simp only[go_sem,TG,MG]at b⊢;cases f:(o.Kind==13);cases a:(o.Device !=0);simp only[go_sem,a];apply aG [0,1,2] (aB _) d_ s_ i_ i_ b;rintro r h ⟨rfl,rfl⟩;cases e:(gM g.cards d).2;simp only[go_sem,CardM.A_def,undef];simp only[go_sem,CardM.A_def];simp only[go_sem,a];simp only[go_sem]
def VB(cs:List CardM)(d:Int):Int:=if(gM cs d).2 then(gM cs d).1.Member else 0
def inG(g:GM)(x y:Nat):Bool:=(g.In.getD x []).getD y false
def aOF(cs:List CardM)(a b:OpM):Bool :=
 if a.Kind==3&&a.Device !=0 then b.By==a.Device else if a.Kind==3 then VB cs b.By==a.Member
 else if a.Kind==13 then b.By==a.Old&&(b.Kind !=12||!decide (b.Of=a.Of)) else a.Kind==12&&(b.Kind==13&&(decide (a.Of=b.Of)&&decide (a.At<=b.At)))
def aPR(g:GM)(x y:Nat):Bool:=!(decide (x=y)||(inG g x y||inG g y x))&&aOF g.Cards (g.L.getD x default) (g.L.getD y default)
def XP(g:GM)(d:Int)(a:g.ok):aA PQ G DS [.ag g.A,iv d] [] λr T=>r=iv (VB g.Cards d)/\T=[]:=by
 apply aC Lg;have e:=Uv (G:=G) g d a;unfold VB;generalize gM g.Cards d=c at *
 obtain⟨c,b⟩:=c;simp only[go_sem];apply aU (aB _) rfl e (by simp only[CardM.A_def];rfl);cases b;simp only[go_sem,CardM.A_def];simp only[go_sem,CardM.A_def]
def aOG(g:GM)(x y:Id):Bool:=decide (0<=aW g.I x)&&(decide (0<=aW g.I y)&&aPR g (aW g.I x).toNat (aW g.I y).toNat)
def aOH{cs f:List CardM}(m:∀d,gM cs d=gM f d){a b:OpM}(l:a.Kind=3->a.Device=0->a.Member≠0):Oh cs a b=aOF f a b:=by
 unfold Oh aOF U6 VB;rw[m];generalize gM f b.By=c;obtain⟨c,h⟩:=c;by_cases g:a.Kind=3;have e:(a.Kind==13)=false:=by rw[g];rfl
 by_cases j:a.Device=0;have:=l g j;cases h;simp[g,j,Ne.symm this];simp[g,j];simp[g,j];by_cases e:a.Kind=13;have k:decide (a.Of=b.Of)=decide (b.Of=a.Of):=by rw[decide_eq_decide];exact eq_comm
 simp only[e,k,bne];cases b.By==a.Old<;>cases b.Kind==12<;>cases decide (b.Of=a.Of)<;>simp;by_cases i:a.Kind=12;simp[i];grind;simp[g,e,i]
def aPS(L:List OpM):Prop:=∀o∈L,o.Kind=3->o.Device=0->o.Member≠0
def aNi{p:PGM}{g:GM}(s:Sim p g){x:Id}{j:Nat}(h:p.I.findIdx? (λy=>decide (y=x))=some j)(b:j<g.L.length):(p.nd x).o=g.L.getD j default/\∀k,k<256->qK (p.nd x).W k=inG g j k:=by
 rw[RA h];have c:p.nodes.length=g.L.length:=by rw[<-s.l,aP]
 refine⟨?_,λk a=>s.w j b k a⟩;rw[<-s.l,rH,rH,gE,jN o_];rfl
def aMe{p:PGM}{g:GM}(s:Sim p g)(e:g.L.length<=200){x y:Id}{j k:Nat}(c:p.I.findIdx? (λz=>decide (z=x))=some j)(b:p.I.findIdx? (λz=>decide (z=y))=some k)(f:j<g.L.length)(d:k<g.L.length)(mx:x∈p.I)(a:y∈p.I):oH p x y=inG g k j:=by unfold oH;rw[decide_eq_true mx,decide_eq_true a,show p.at x=j by simp[PGM.at,c],(aNi s b d).2 j o_];rfl
def aOI {p:PGM} {g:GM} (s:Sim p g) (q:g.L.length<=200) (r:aPS g.L) (x y:Id):lA p x y=aOG g x y:=by
 have w:p.I.length=g.L.length:=by rw[PGM.I,<-s.l,aP,aP]
 unfold lA aOG aW qX;rw[<-s.i];by_cases mx:x∈p.I;by_cases a:y∈p.I;obtain⟨j,f,v,_,o⟩:=dG mx;obtain⟨k,b,u,_,m⟩:=dG a;have d:j<g.L.length:=o_;have n:k<g.L.length:=o_;rw[f,b,decide_eq_true mx,decide_eq_true a,aMe s q f b d n mx a,aMe s q b f n d a mx,(aNi s f d).1,(aNi s b n).1];have h:decide (x=y)=decide (j=k):=by rw[decide_eq_decide];constructor;rintro rfl;rw[f]at b;exact Option.some.inj b;rintro rfl;rw[<-o,<-m]
 rw[aOH s.c (λh3 t=>r _ (by rw[rH,jN d];exact eQ d) h3 t)];simp only[h,aPR,nI,Int.natCast_nonneg,decide_true,mF];cases decide (j=k)<;>cases inG g k j<;>cases inG g j k<;>rfl;have e:=eG a;rw[e,decide_eq_false a];simp;have e:=eG mx;rw[e,decide_eq_false mx];simp
def Hj(I:D_)(l:B_):D_:=(l.take 4).map λn=>I.getD (pX n I.length).toNat default
def qI(g:GM)(l:B_):D_:=if l=[]\/g.L=[] then jI g.I else Fd g (Hj g.I l)
def aE6(I:D_)(l:B_)(i:Nat)(h:i<l.length)(a:i<4):Hj I (l.take (i+1))=Hj I (l.take i)++[I.getD (pX l[i] I.length).toNat default]:=by unfold Hj;rw[Mj,Mj,(o_:min 4 (i+1)=i+1),(o_:min 4 i=i),<-aBV h,bZ];rfl
def Ot(I:D_)(l:B_):(Hj I l).length<=4:=by grind[Hj,List.length_map,List.length_take]
def BJ(n:Int)(m:Int)(a:0<m):0<=pX n m/\pX n m<m:=by unfold pX;exact⟨Int.emod_nonneg _ o_,Int.emod_lt_of_pos _ a⟩
def aB4 (g:GM) (d:g.ok) (l:B_) (J:l.length<=2^63-1) (v:∀n∈l,mZ n):aA PQ G zR [.ag g.A,rG l] [] λr T=>(r=ids (qI g l)/\T=[]/\(l=[]\/g.L=[]))\/(r=.own 0/\T=[some (.arr 3 ((qI g l).map Id.A))]):=by
 apply aC LJ;have hI:=d.i;by_cases h1:l=[]
 subst h1;simp only[go_sem,gQ,undef];apply cX (JG g d);simp only[go_sem,qI,true_or,true_and];have t:0<l.length:=H3.2 h1;have p:((l.length:Int)==0)=false:=by simpa using h1
 by_cases h2:g.L=[]
 have E:((g.I.length:Int)==0)=true:=by rw[hI,h2];rfl
 have j:((g.L.length:Int)==0)=true:=by rw[h2];rfl
 simp only[go_sem,aP,p,j];apply cX (JG g d);simp only[go_sem,qI,h2,or_true];simp;have w:0<g.L.length:=H3.2 h2;have E:((g.I.length:Int)==0)=false:=h_;have j:((g.L.length:Int)==0)=false:=d6;have D:qI g l=Fd g (Hj g.I l):=by grind[qI]
 rw[D];have H:=d.n;simp only[go_sem,aP,p,j];refine jG (λs=>s=⟨0,[(2,.ptr 0 0),(5,.own 1)],[some (.box g.A),some (.arr 3 ((Hj g.I l).map Id.A))]⟩) ?_ ?_;refine aQ (min l.length 4) (λi=>⟨0,[(1,rG l),(2,.ptr 0 0),(5,.own 1),(6,iv i)],[some (.box g.A),some (.arr 3 ((Hj g.I (l.take i)).map Id.A))]⟩) (λ_=>True) ?_ trivial ?_ ?_;rfl;intro i u _;have a:i<l.length:=o_;have f:i<4:=o_;have q:=fQ i o_;have B:(l.map λn=>[iv n])[i]?=some [iv l[i]]:=aO _ l i a;have c:=v l[i] (eQ a);have F:decide ((i:Int)<4)=true:=decide_eq_true o_;have b:=Ot g.I (l.take i);rw[aE6 g.I l i a f];generalize l[i]=x at *
 generalize Hj g.I (l.take i)=O at *
 have M:=BJ x g.I.length o_;have o:(g.I.map Id.A)[(pX x g.I.length).toNat]?=some (g.I.getD (pX x g.I.length).toNat default).A:=h_;have K:(pX x g.I.length).toNat<g.I.length:=o_;have e:((pX x g.I.length).toNat:Int)=pX x g.I.length:=o_;simp only[go_sem,aP,aT a,F,B];apply cX (Dl x g.I.length c.1 c.2 o_ o_);rw[<-e];generalize(pX x g.I.length).toNat=k at *
 obtain⟨y,m⟩:∃y,y=g.I.getD k default:=⟨_,rfl⟩
 rw[<-m]at o;simp only[go_sem,aP,o,bZ,fG,uP,q,(g_:O.length+1<=maxLen),(o_:(O.length+1)*24<=140737488355328)];rw[m];intro _;rcases eD 4 l.length with z|z;have h:min l.length 4=4:=o_;have C:Hj g.I (l.take 4)=Hj g.I l:=by grind[Hj]
 rw[h,C];simp only[go_sem,aP,show decide ((4:Int)<(l.length:Int))=true from decide_eq_true o_];have h:min l.length 4=l.length:=o_;rw[h,dE];simp only[go_sem,aP,aS (bP _),undef];rintro s rfl;have b:=Ot g.I l;simp only[go_sem];apply cH (aB _) rfl rfl (XG g (Hj g.I l) d o_);rintro r N ⟨rfl,rfl⟩;refine⟨x_,by simp only[cA,forall_eq,xH];exact MR _,?_⟩;simp only[go_sem];exact .inr trivial
def aE7(g:GM)(c:g.ok)(l:B_)(a:l.length<=2^63-1)(b:∀n∈l,mZ n):aA PQ G zR [.ag g.A,rG l] [] λr T=>r=ids (qI g l)/\T=[]:=by refine(aB4 g c l a b).fin [0] ?_;rintro r d (⟨rfl,rfl,_⟩|⟨rfl,rfl⟩);simp only[go_sem,gQ,List.getElem?_nil];simp only[go_sem,gQ]
def XS(out:D_)(x:Id):(Ps out x).Perm (out++[x]):=by
 unfold Ps;have e:out=out.take (Ha x out out.length)++out.drop (Ha x out out.length):=(LC _ _).symm;generalize Ha x out out.length=p at *
 refine List.Perm.trans ?_ (List.Perm.append_right [x] (List.Perm.of_eq e.symm));rw[eB,eB];exact YB _ List.perm_append_comm
def VC(l:D_):∀out,(l.foldl Ps out).Perm (out++l):=by
 induction l with
 |nil=>intro out;simp|cons x l ih=>
  intro out;refine(ih (Ps out x)).trans ?_;have:=List.Perm.append_right l (XS out x);simpa using this
def dQ(l:D_):(jI l).Perm l:=by have:=VC l [];simpa[jI]using this
def aE9{I:D_}{p:Nat->Bool}{n:Nat}(c:n<=I.length):∀x∈Le I p n,x∈I:=by intro x a;unfold Le at a;obtain⟨i,b,rfl⟩:=dF.1 a;have:=uM.1 (gR.1 b).1;rw[rH,jN o_];exact eQ _
def XT{I:D_}{p:Nat->Bool}{n:Nat}(d:n<=I.length)(hI:I.Nodup):(Le I p n).Nodup:=by unfold Le;rw[List.Nodup,Mh];refine(aBT.filter p).imp_of_mem ?_;intro i j c b a e;have h1:=uM.1 (gR.1 c).1;have h2:=uM.1 (gR.1 b).1;rw[rH,jN o_,rH,jN o_]at e;exact a ((C9 hI).1 X_)
def RD {I:D_}:∀(l out:D_),(∀x∈out,x∈I)->∀x∈l.foldl (vL I) out,x∈I|[],_,h=>h| y::l,out,h=>RD l _ (by
   intro x a;unfold vL at a;split at a;rename_i b;simp only[zJ,decide_eq_true_eq]at b;rcases cG.1 a with a|a;exact h x a;rw[cA.1 a];exact(Cz I y).1 b.1
   exact h x a)
def K3{I:D_}:∀(l out:D_),out.Nodup->(l.foldl (vL I) out).Nodup|[],_,h=>h| y::l,out,h=>K3 l _ (by
   unfold vL;split;rename_i c;simp only[zJ,decide_eq_true_eq,EX,decide_eq_false_iff_not]at c;rw[vQ];refine⟨h,s_,?_⟩;intro a f b d e;rw[cA.1 d]at e;exact c.2 (e ▸ f)
   exact h)
def RE {I c:D_}:∀(l out:D_),(∀x∈out,x∈I)->∀x∈l.foldl (uD I c) out,x∈I|[],_,h=>h| y::l,out,h=>RE l _ (by
   intro x a;unfold uD at a;split at a;rename_i b;simp only[zJ,decide_eq_true_eq]at b;rcases cG.1 a with a|a;exact h x a;rw[cA.1 a];exact(Cz I y).1 b.1
   exact h x a)
section
variable{g:GM}
def aEa(b:g.I.length=g.L.length)(l:D_):∀x∈rV g l,x∈g.I:=λx a=>aE9 o_ x ((dQ _).mem_iff.1 a)
def XU(b:g.I.length=g.L.length)(a:g.I.Nodup)(l:D_):(rV g l).Nodup:=(dQ _).nodup_iff.2 (XT o_ a)
def Fg(b:g.I.length=g.L.length)(l:D_):∀x∈Fd g l,x∈g.I:=λx a=>RD l _ (aEa b l) x ((dQ _).mem_iff.1 a)
def XV(b:g.I.length=g.L.length)(a:g.I.Nodup)(l:D_):(Fd g l).Nodup:=(dQ _).nodup_iff.2 (K3 l _ (XU b a l))
def aEb(l:D_):(rV g l).length<=g.L.length:=by rw[rV,(dQ _).length_eq];exact JF _ _ _
def Ou(l:D_):(Fd g l).length<=g.L.length+l.length:=by have h1:=aEb (g:=g) l;have h2:=GN g.I l (rV g l);rw[Fd,(dQ _).length_eq];omega
def KF(l:D_):∀x∈yV g l,x∈g.I:=λx a=>RE l [] s_ x ((dQ _).mem_iff.1 a)
def XW(b:g.I.length=g.L.length)(l:B_):∀x∈qI g l,x∈g.I:=by intro x a;unfold qI at a;split at a;exact(dQ _).mem_iff.1 a;exact Fg b _ x a
def Sy(b:g.I.length=g.L.length)(a:g.I.Nodup)(l:B_):(qI g l).Nodup:=by unfold qI;split;exact(dQ _).nodup_iff.2 a;exact XV b a _
def XX(a:g.ok)(l:B_):(qI g l).length<=g.L.length+4:=by unfold qI;split;rw[(dQ _).length_eq,a.i];omega;have:=Ou (g:=g) (Hj g.I l);have:=Ot g.I l;omega
end
def Ov{o:OpM}(h:jB o=0):o.Seq<=2147483647/\o.At<=2147483647:=by
 unfold jB at h;split at h;simp at h;split at h;simp at h;split at h;simp at h;rename_i a;have:fP o=true:=by cases e:fP o<;>simp_all
 unfold fP oI at this;simp only[zJ,decide_eq_true_eq]at this;omega
def Reach.seqb{cs:List CardM}{g:GM}(h:Reach cs g):∀x∈g.I,x.b<=2147483647:=by
 induction h with
 |new=>simp| @add g o f i d ih=>
  by_cases h:(dV g o).1=0;have a:=Ff h;rw[yE a h];intro x c;rcases cG.1 c with c|c;exact ih x c;rw[cA.1 c];exact(Ov a.check).1;have e:(addM g o).1=g:=by rw[addM,if_pos h]
  rw[e];exact ih
@[go_sem] def OpM.g16(o:OpM):o.A[16]?=some (iv o.Of.a):=fI rfl rfl
structure RM.ok(r:RM):Prop where
 c:r.Cards.length<=1000
 i:r.In.length<=100000
 g:r.Gone.length<=100000
 l:r.L.length<=100000
 v:r.V.length<=100000
 mg:∀m∈r.L,m.Guards.length<=1000
def RM.A_def(r:RM):r.A=[.ls 5 (r.Cards.map CardM.A),rG r.In,rG r.Gone,.ls 11 (r.L.map MM.A),iv r.Back,.ls 6 (r.V.map VM.A)]:=fI rfl rfl
def MM.A_def(m:MM):m.A=[iv m.N,iv m.Role,.v (.bool m.Is),iv m.ID.a,iv m.ID.b,.v (.int .u64 m.ID.c),rG m.Guards,iv m.Need,iv m.Wait,.v (.bool m.Obj),iv m.Last]:=fI rfl rfl
def ZP{α:Type}{p:α->Bool}{l:List α}(h:0<=qX p l):∃i:Nat,qX p l=(i:Int)/\∃a:i<l.length,p l[i]=true:=by
 unfold qX at h⊢
 cases e:l.findIdx? p with
 |none=>rw[e]at h;simp at h|some i=>
  obtain⟨h1,h2,_⟩:=Ad.1 e;grind
def nH{α:Type}[Inhabited α]{l:List α}{i:Nat}(h:i<l.length):l.getD i default=l[i]:=h_
def Ox{r:RM}{n:Int}(h:0<=jL r n):∃i:Nat,jL r n=(i:Int)/\∃a:i<r.L.length,(r.L[i].N==n)=true:=ZP h
def Hm{r:RM}{x:Id}(h:0<=pZ r x):∃i:Nat,pZ r x=(i:Int)/\∃a:i<r.L.length,(r.L[i].Is&&decide (r.L[i].ID=x))=true:=ZP h
def VM.A_def(v:VM):v.A=[iv v.Of.a,iv v.Of.b,.v (.int .u64 v.Of.c),iv v.By,iv v.Device,iv v.At]:=fI rfl rfl
def RM.need(r:RM):Prop:=∀m∈r.L,m.Is=true->1<=m.Need/\m.Need<=1000
structure RP where
 root:Nat
 c:Nat
 i:Nat
 w:Nat
 m:Nat
 ms:List (Nat×Nat×Nat)
abbrev iK(d:Int):List Value:=[.int .i64 d]
def tK(l:B_)(bs:V_)(cl:Nat):AObj:=.map false (l.map iK) (l.map λ_=>.v (.bool true)) bs cl
structure Bs(n:Nat)(bs:List Nat)(cl:Nat):Prop where
 len:bs.length=n
 nd:bs.Nodup
 lt:∀b∈bs,b<cl
def KO(l:List VM)(bs:V_)(cl:Nat):AObj:=.map true (l.map λv=>[.int .i64 v.By,.int .i64 v.Device]) (l.map λv=>iv v.At) bs cl
def CR(m:MM)(v:Nat):O_:=[iv m.ID.a,iv m.ID.b,.v (.int .u64 m.ID.c),rG m.Guards,iv m.Need,iv m.Wait,.mp v,.v (.bool m.Obj),iv m.Last]
structure MemAt(T:aK)(V:List VM)(p:Nat×Nat×Nat)(m:MM):Prop where
 mem:T[p.1]?=some (some (.box [iv m.Role,if m.Is then .ptr p.2.1 0 else .v (.pointer none)]))
 grd:m.Is=true->T[p.2.1]?=some (some (.box (CR m p.2.2)))
 vch:m.Is=true->∃l bs cl,T[p.2.2]?=some (some (KO l bs cl))/\Bs l.length bs cl/\(∀v,v∈l↔v∈V/\v.Of=m.ID)/\(l.map λv=>(v.By,v.Device)).Nodup
def G1(p:Nat×Nat×Nat)(m:MM):V_:=if m.Is then [p.1,p.2.1,p.2.2] else [p.1]
def MT(s:RP)(r:RM)(k:Nat):V_:=match s.ms[k]?,r.L[k]? with|some p,some m=>G1 p m|_,_=>[]
def RP.five(s:RP):V_:=[s.root,s.c,s.i,s.w,s.m]
structure FPr(s:RP)(r:RM):Prop where
 five:s.five.Nodup
 off:∀k,∀x∈MT s r k,x∉s.five
 own:∀k,(MT s r k).Nodup
 inj:∀k k' x,x∈MT s r k->x∈MT s r k'->k=k'
def aB7(s:RP)(r:RM)(x:Nat):Prop:=x∈s.five\/∃k,x∈MT s r k
structure RollAt(T:aK)(s:RP)(r:RM):Prop where
 root:T[s.root]?=some (some (.box [.mp s.c,.mp s.i,.mp s.w,.mp s.m,iv r.Back]))
 cards:T[s.c]?=some (some (.map false (r.Cards.map λc=>iK c.Device) (r.Cards.map λc=>.ag c.A) (List.range r.Cards.length) r.Cards.length))
 inn:∃bs cl,T[s.i]?=some (some (tK r.In bs cl))/\Bs r.In.length bs cl
 was:∃l bs cl,T[s.w]?=some (some (tK l bs cl))/\Bs l.length bs cl/\(∀d,d∈l↔d∈r.In\/d∈r.Gone)/\(l=[]↔r.In=[]/\r.Gone=[])/\l.Nodup
 mems:∃bs cl,T[s.m]?=some (some (.map false (r.L.map λm=>iK m.N) (s.ms.map λp=>.ptr p.1 0) bs cl))/\Bs r.L.length bs cl
 mslen:s.ms.length=r.L.length
 each:∀k(h:k<r.L.length)(h2:k<s.ms.length),MemAt T r.V s.ms[k] r.L[k]
 nd:FPr s r
@[go_sem] def aQS(d:Int):LF false [.int .i64] (iv d)=some (iK d):=fI (by simp[LF,rJ,iK]) rfl
@[go_sem] def aG2(d e:Int):rJ [.int .i64] (iK d) (iK e)=some (d==e):=fI (by simp[rJ]) rfl
def iW(d:Int):∀(l:B_)(i:Nat),eR [.int .i64] (iK d) (l.map iK) i=some ((l.findIdx? λy=>d==y).map (· + i))
 |[],_=>rfl
 | y::l,i=>by
  simp only[fG,eR,aG2,List.findIdx?_cons];have:=iW d l (i+1);cases d==y;simp only[this,jJ,if_false]
  cases l.findIdx? (λy=>d==y) with
  |none=>rfl
  |some j=>simp;omega
  simp
def MU{l:B_}{d:Int}(h:d∉l):(l.findIdx? λy=>d==y)=none:=m_
def aG3{l:B_}{d:Int}(h:d∈l):∃j,(l.findIdx? λy=>d==y)=some j/\j<l.length:=by
 cases e:l.findIdx? (λy=>d==y) with
 |none=>exact absurd (Md.1 e d h) s_|some j=>exact⟨j,rfl,(Ad.1 e).1⟩
def aG4(l:List CardM)(d:Int):(l.map (·.Device)).findIdx? (λy=>d==y)=l.findIdx? λc=>c.Device==d:=by rw[List.findIdx?_map];congr 1;grind
section
variable{T:aK}{s:RP}{r:RM}
def kE(h:RollAt T s r)(d:Int):aA PQ G bR [.ptr s.root 0,iv d] T λx o=>x=iv (eI r d)/\o=T:=by
 apply eH JK;have h1:=h.root;have h2:=h.cards;have a:=iW d (r.Cards.map (·.Device)) 0;rw[rI,aG4]at a;have n:(iK∘λc:CardM=>c.Device)=λc=>iK c.Device:=rfl;rw[n]at a
 cases e:r.Cards.findIdx? (λc=>c.Device==d) with
 | none=>
  rw[e]at a;simp only[xD]at a;have b:eI r d=0:=by grind[eI]
  rw[b];simp only[go_sem,h1,h2,a,dE]
 | some j=>
  rw[e]at a;simp only[iX,mG]at a;obtain⟨l,g,f⟩:=Ad.1 e;have b:eI r d=r.Cards[j].Member:=by unfold eI;rw[(aBG (p:=λc:CardM=>c.Device==d)).2 ⟨g,j,l,rfl,λk i=>by simpa using f k i⟩]
  have m:(r.Cards.map λc=>AV.ag c.A)[j]?=some (.ag r.Cards[j].A):=h_;rw[b];simp only[go_sem,h1,h2,a,m];simp only[go_sem,CardM.A_def,dE]
def K4(l:B_)(d:Int):(∃j,(l.findIdx? λy=>d==y)=some j/\j<l.length/\d∈l)\/((l.findIdx? λy=>d==y)=none/\d∉l):=by by_cases h:d∈l;obtain⟨j,e,a⟩:=aG3 h;simp_all;grind
def aEg(l:List MM)(n:Int):(l.map (·.N)).findIdx? (λy=>n==y)=l.findIdx? λm=>m.N==n:=by rw[List.findIdx?_map];congr 1;grind
def rW(h:RollAt T s r)(d:Int):aA PQ G iL [.ptr s.root 0,iv d] T λx f=>x=.v (.bool (lZ r d))/\f=T:=by
 apply eH Fi;have h1:=h.root;obtain⟨l,bs,n,h2,_,k,_⟩:=h.was;have a:=iW d l 0;unfold tK at h2;have g:aB6 r d=decide (d∈l):=by simp_all[aB6]
 simp only[go_sem];apply jA (kE h d);rintro x f ⟨rfl,rfl⟩;unfold lZ;rw[g];cases c:decide (0<eI r d);simp only[go_sem,gt_iff_lt,c,undef,lR,dE];rcases K4 l d with⟨j,e,m,b⟩|⟨e,b⟩
 rw[e]at a;simp only[iX,mG]at a;have i:(l.map λ_=>AV.v (.bool true))[j]?=some (.v (.bool true)):=h_;simp only[go_sem,gt_iff_lt,c,h1,h2,a,i,dE,decide_eq_true b];rw[e]at a;simp only[xD]at a;simp only[go_sem,gt_iff_lt,c,h1,h2,a,dE,decide_eq_false b]
def B5(h:RollAt T s r)(n:Int):aA PQ G nL [.ptr s.root 0,iv n] T λx l=>x=iv (sD r n)/\l=T:=by
 apply eH Gi;have h1:=h.root;obtain⟨bs,o,h2,_⟩:=h.mems;have a:=iW n (r.L.map (·.N)) 0;rw[rI,aEg]at a;have k:(iK∘λc:MM=>c.N)=λc=>iK c.N:=rfl;rw[k]at a
 cases e:r.L.findIdx? (λm=>m.N==n) with
 | none=>
  rw[e]at a;simp only[xD]at a;have b:sD r n=0:=by grind[sD,jL,qX]
  rw[b];simp only[go_sem,h1,h2,a,dE]
 | some j=>
  rw[e]at a;simp only[iX,mG]at a;obtain⟨f,_,_⟩:=Ad.1 e;have d:j<s.ms.length:=by rw[h.mslen];exact f
  have g:=(h.each j f d).mem;have b:sD r n=r.L[j].Role:=by grind[sD,jL,qX,Int.toNat_natCast]
  have i:(s.ms.map λp=>AV.ptr p.1 0)[j]?=some (.ptr s.ms[j].1 0):=h_;rw[b];simp only[go_sem,h1,h2,a,i,g,dE]
end
def aMf{P:Program}{G:L_}{f:FuncId}{z:HFun}{H:List (Nat×Option Nat×Nat)}(E:tF P f H=some z){args:O_}{T:aK}{R:AV}(I:∀{h:GH}{φ:Nat->Value}{m n:Nat}{u:Value},Rp h φ m R u->Rp h φ n R u)
 (A:aF8 P G z args T λr d=>r=R/\d.take T.length=T):aA P G f args T λr d=>r=R/\d=T:=by
 have q:∀{h:GH}{φ:Nat->Value}{w w':World}{v:Value},Inv h φ w T->CS h φ T w (λr d=>r=R/\d.take T.length=T) v w'->CS h φ T w (λr d=>r=R/\d=T) v w':=by
  rintro h φ w w' v hI ⟨r,d,L,p,⟨rfl,B⟩,c,g,C⟩;have l:∀i o,T[i]?=some (some o)->d[i]?=some (some o):=λi o e=>by rw[<-B,BT]at e;split at e;exact e;simp at e
  refine⟨_,T,L,p,⟨rfl,rfl⟩,?_,?_,I C⟩;exact⟨c.os,c.tape,c.output,c.size,c.frame,c.le,c.gfr,c.phi,λi o b D F=>c.org i o b (l i o D) F,cN _,c.drawn⟩;exact⟨g.gh,λi o e=>GP (g.obj i o (l i o e)) (hI.obj i o e),λi j y x b t s=>g.dis i j y x b (l i y t) (l j x s)⟩
 intro h φ w k J hI K;rcases fT E A h φ w k J hI K with⟨a,b⟩|⟨v,w',a,b⟩
 exact .inl ⟨a,b.mono λe w' ⟨v,t,s⟩=>⟨v,t,q hI s⟩⟩;grind
def aKn{a b:Value}{h:GH}{φ:Nat->Value}{m n:Nat}{u:Value}(e:Rp h φ m (.tup [.v a,.v b]) u):Rp h φ n (.tup [.v a,.v b]) u:=by grind[Rp,cC]
def aF{T X:aK}{i:Nat}{o:Option AObj}(h:T[i]?=some o):(T++X)[i]?=some o:=m_
def RollAt.app{T X:aK}{s:RP}{r:RM}(h:RollAt T s r):RollAt (T++X) s r where
 root:=aF h.root
 cards:=aF h.cards
 inn:=let⟨bs,c,a,b⟩:=h.inn;⟨bs,c,aF a,b⟩
 was:=let⟨l,bs,c,a,b⟩:=h.was;⟨l,bs,c,aF a,b⟩
 mems:=let⟨bs,c,a,b⟩:=h.mems;⟨bs,c,aF a,b⟩
 mslen:=h.mslen
 each:=λk h1 h2=>let m:=h.each k h1 h2
  ⟨aF m.mem,λe=>aF (m.grd e),λe=>let⟨l,bs,c,a,b⟩:=m.vch e;⟨l,bs,c,aF a,b⟩⟩
 nd:=h.nd
def kU{T:aK}{i:Nat}{o:AObj}(h:T[i]?=some (some o)):cR T i=some o:=by simp[cR,h]
def aD{T:aK}{a:Option AObj}{X:aK}:(T++a::X)[T.length]?=some a:=s_
def aR{T:aK}{a b:Option AObj}{X:aK}:(T++a::b::X)[T.length+1]?=some b:=s_
def eJ{T:aK}{a b c:Option AObj}{X:aK}:(T++a::b::X).set (T.length+1) c=T++a::c::X:=s_
def aH{T X:aK}:(T++X).take T.length=T:=s_
def VD{T:aK}{i j a la:Nat}{aAD:V_}{ag:Bool}{ks:List C_}{vs:O_}{bs:V_}{cl:Nat}{K:AV->aK->Prop}(f:cR T i=some (.mit (some j) a aAD la))(g:cR T j=some (.map ag ks vs bs cl))(h1:a<=la)(h2:∀b∈bs,b<a)(l1:ks.length=bs.length)(l2:vs.length=bs.length)
 (c:(∀b∈bs,b∈aAD)->K (.v (.tuple #[.bool false])) T)
 (d:∀e(h:e<bs.length),bs[e]∉aAD->K (.tup [.v (.bool true),.v (iY ag (ks[e]'o_)),vs[e]'o_]) (T.set i (some (.mit (some j) a (aAD++[bs[e]]) cl)))):@aCA T (.ptr i 0) ⟨K⟩:=by
 grind[aCA]
def VE{bs:V_}(h:bs.Nodup){e:Nat}(b:e<bs.length):bs.findIdx? (λy=>y==bs[e])=some e:=by rw[Ad];refine⟨b,s_,λj c=>?_⟩;simp only[beq_iff_eq];intro a;have:=(C9 h).1 a;omega
def Vt(x:Id)(m:MM):Bool:=m.Is&&decide (m.ID=x)
def RM.uniq(r:RM):Prop:=∀(i j:Nat)(b:i<r.L.length)(a:j<r.L.length),r.L[i].Is=true->r.L[j].Is=true->r.L[i].ID=r.L[j].ID->i=j
def Lm(r:RM)(x:Id):Int:=if pZ r x<0 then 0 else(r.L.getD (pZ r x).toNat default).N
section
variable{T:aK}{s:RP}{r:RM}
def aB8{x:Id}(u:r.uniq){i:Nat}(b:i<r.L.length)(h:Vt x r.L[i]=true):Lm r x=r.L[i].N:=by
 have h0:pZ r x=(i:Int):=by
  refine mC b (λj d c=>?_) h
  cases a:(r.L[j].Is&&decide (r.L[j].ID=x)) with
  |false=>rfl|true=>
   simp only[Vt,zJ,decide_eq_true_eq]at h a;have:=u i j b d h.1 a.1 (h.2.trans a.2.symm);omega
 grind[Lm,Int.toNat_natCast]
def aB9{x:Id}(h:∀i(a:i<r.L.length),Vt x r.L[i]=false):Lm r x=0:=by have h0:pZ r x=-1:=lD h;rw[Lm,h0];rfl
def AN (h:RollAt T s r) (u:r.uniq) (x:Id):aA PQ G qE [.ptr s.root 0,.ag x.A] T λy T'=>y=iv (Lm r x)/\T'=T:=by
 apply eH Fk;have h1:=h.root;obtain⟨bs,g,h2,a⟩:=h.mems;have a1:=λX:aK=>aF (X:=X) h1;have M:=λX:aK=>aF (X:=X) h2;simp only[go_sem,a1,M]
 refine kL (λn P=>∃aAD:V_,aAD.Nodup/\(∀b∈aAD,b∈bs)/\n=bs.length-aAD.length/\(∀i(f:i<r.L.length),bs.getD i 0∈aAD->Vt x r.L[i]=false) /\
  P=⟨T.length,[(11,.ptr (T.length+1) 0),(3,.ptr T.length 0)],T++[some (.box x.A),some (.mit (some s.m) g aAD g)]⟩) bs.length ⟨[],s_,s_,rfl,s_,?_⟩ ?_
 simp;rintro n P ⟨aAD,E,l,hn,S,rfl⟩;simp only[go_sem];have b2:=λX:aK=>kU (M X);have t:=h.mslen;refine VD (i:=T.length+1) (j:=s.m) (kU aR) (b2 _) (cN _) a.lt (by simp[a.len]) (by simp[a.len,t]) (λw=>?_) λe K D=>?_;simp only[go_sem,aH];rw[aB9 λi f=>S i f (w _ ?_)];rw[rH,jN (by rw[a.len];exact f)];simp;have v:e<r.L.length:=by rw[<-a.len];exact K
 have J:e<s.ms.length:=o_;have I:=VE a.nd K;have Y:(r.L.map λm=>iK m.N)[e]?=some (iK r.L[e].N):=h_;have W:(s.ms.map λp=>AV.ptr p.1 0)[e]?=some (.ptr s.ms[e].1 0):=h_;have z:=h.each e v J;have C:=λX:aK=>aF (X:=X) z.mem;have B:=Id.beq r.L[e].ID x;have O:Vt x r.L[e]=false->∃m,m<n/\∃k:V_,k.Nodup/\(∀b∈k,b∈bs)/\m=bs.length-k.length/\(∀i(f:i<r.L.length),bs.getD i 0∈k->Vt x r.L[i]=false) /\
   (⟨T.length,[(11,.ptr (T.length+1) 0),(3,.ptr T.length 0)],T++[some (.box x.A),some (.mit (some s.m) g (aAD++[bs[e]]) g)]⟩:St)=⟨T.length,[(11,.ptr (T.length+1) 0),(3,.ptr T.length 0)],T++[some (.box x.A),some (.mit (some s.m) g k g)]⟩:=by
  intro V;have q:(aAD++[bs[e]]).Nodup:=vQ.2 ⟨E,s_,λx U y R Z=>D (by rw[cA]at R;rw[<-R,<-Z];exact U)⟩;have o:∀b∈aAD++[bs[e]],b∈bs:=λb B=>(cG.1 B).elim (l b) λh=>by rw[cA.1 h];exact eQ K
  have F:=List.Nodup.length_le_of_subset q o;rw[dZ,GT]at F;refine⟨bs.length-(aAD++[bs[e]]).length,by rw[dZ,GT];omega,_,q,o,rfl,λi f z=>?_,rfl⟩;rcases cG.1 z with h1|h1;exact S i f h1;have H:i<bs.length:=by rw[a.len];exact f
  have h2:=cA.1 h1;rw[rH,jN H]at h2;have:=(C9 a.nd).1 (show bs[i]=bs[e] from h2);subst this;exact V
 simp only[go_sem,eJ,aR,M,Ke,I,Y,W,iY];cases c:r.L[e].Is;simp only[go_sem,C,c,undef];simp_all[Vt];have Q:=λX:aK=>aF (X:=X) (z.grd c);cases d:decide (r.L[e].ID=x);simp only[go_sem,aD,C,Q,c,CR,B,d,Id.A_def];simp_all[Vt];simp only[go_sem,aD,C,Q,c,CR,B,d,Id.A_def,aH];rw[aB8 u v (by rw[Vt,c,d];rfl)]
def vO(h:RollAt T s r)(n:Int):aA PQ G kA [.ptr s.root 0,iv n] T λx a=>x=.v (.bool (sD r n==3))/\a=T:=by refine eH Fl ?_;simp only[go_sem];apply jA (B5 h n);rintro x a ⟨rfl,rfl⟩;simp only[go_sem,dE]
def aBa(r:RM)(o:OpM)(n:Int):Int:=if jL r n<0 then 25 else if !(r.L.getD (jL r n).toNat default).Is||!decide ((r.L.getD (jL r n).toNat default).ID=o.Of) then 25 else 0
def yX(h:RollAt T s r)(n:Int):(∃bs d j,T[s.m]?=some (some (.map false (r.L.map λm=>iK m.N) (s.ms.map λp=>.ptr p.1 0) bs d))/\eR [.int .i64] (iK n) (r.L.map λm=>iK m.N) 0=some (some j)/\jL r n=(j:Int) /\
   ∃(f:j<r.L.length)(a:j<s.ms.length),(s.ms.map λp=>AV.ptr p.1 0)[j]?=some (.ptr s.ms[j].1 0)/\MemAt T r.V s.ms[j] r.L[j]/\r.L[j].N=n) \/
  (∃bs d,T[s.m]?=some (some (.map false (r.L.map λm=>iK m.N) (s.ms.map λp=>.ptr p.1 0) bs d))/\eR [.int .i64] (iK n) (r.L.map λm=>iK m.N) 0=some none/\jL r n=-1):=by
 obtain⟨bs,d,h2,_⟩:=h.mems;have b:=iW n (r.L.map (·.N)) 0;rw[rI,aEg]at b;have i:(iK∘λc:MM=>c.N)=λc=>iK c.N:=rfl;rw[i]at b
 cases e:r.L.findIdx? (λm=>m.N==n) with
 |none=>
  grind[jL,qX]
 |some j=>
  rw[e]at b;simp only[iX,mG]at b;obtain⟨f,g,_⟩:=Ad.1 e;have a:j<s.ms.length:=by rw[h.mslen];exact f
  exact .inl ⟨bs,d,j,h2,b,by unfold jL qX;rw[e],f,a,by rw[gE,jN a];rfl,h.each j f a,kv⟩
def Oy(h:RollAt T s r)(o:OpM)(n:Int):aA PQ G mB [.ptr s.root 0,.ag o.A,iv n] T λx u=>x=iv (aBa r o n)/\u=T:=by
 apply eH Hp;unfold aBa;have e:=λX:aK=>aF (X:=X) h.root;rcases yX h n with⟨bs,t,j,h2,c,g,q,p,i,m,_⟩|⟨bs,t,h2,c,g⟩
 have d:=λX:aK=>aF (X:=X) h2;have f:=λX:aK=>aF (X:=X) m.mem;have l:=Id.beq r.L[j].ID o.Of;rw[g,if_neg o_,nI,nH q];cases a:r.L[j].Is;simp only[go_sem,e,d,c,i,f,a,undef,aH];have k:=λX:aK=>aF (X:=X) (m.grd a);cases b:decide (r.L[j].ID=o.Of);simp only[go_sem,e,d,c,i,f,k,a,CR,l,b,aD,Id.A_def,aH];simp only[go_sem,e,d,c,i,f,k,a,CR,l,b,aD,Id.A_def,aH];have d:=λX:aK=>aF (X:=X) h2;rw[g];simp only[go_sem,e,d,c,undef,aH]
structure RM.wf(r:RM):Prop where
 uniq:r.uniq
 nn:∀(i j:Nat)(hi:i<r.L.length)(hj:j<r.L.length),r.L[i].N=r.L[j].N->i=j
 pos:∀m∈r.L,m.N≠0
 mg:∀m∈r.L,m.Guards.length<=1000
 need:r.need
def gP(r:RM)(o:OpM):Int×Int:=if(kD r o).2=0 then(Lm r o.Of,0) else(0,(kD r o).2)
def Hr(r:RM)(x:Id):(pZ r x=-1/\Lm r x=0)\/∃(i:Nat)(a:i<r.L.length),pZ r x=(i:Int)/\Vt x r.L[i]=true/\Lm r x=r.L[i].N:=by by_cases h0:pZ r x<0;grind[Lm,pZ,qX];obtain⟨i,e,a,h1⟩:=Hm (o_:0<=pZ r x);exact .inr ⟨i,a,e,h1,by rw[Lm,e,if_neg o_,nI,nH a]⟩
def lO{r:RM}{o:OpM}{i:Nat}(a:i<r.L.length)(e:pZ r o.Of=(i:Int)):kD r o=if(!decide (o.By∈r.L[i].Guards))=true then(-1,14) else((i:Int),0):=by grind[kD,Int.toNat_natCast]
def aEh(l:B_)(x:Int)(e:l.length<=100000):aA PQ G nN [rG l,iv x] [] λr T=>r=iv (qX (λy=>x==y) l)/\T=[]:=by refine aC BH ?_;simp only[go_sem,aP];refine aQ l.length (λi=>⟨0,[(0,rG l),(1,iv x),(7,iv l.length),(8,iv i)],[]⟩) (λi=>∀j(a:j<l.length),j<i->(x==l[j])=false) ?_ W_ ?_ ?_;simp only[go_sem];intro i b c;have d:(l.map λn=>[iv n])[i]?=some [iv l[i]]:=aO _ l i b;simp only[go_sem,aT b,d];cases h1:(x==l[i]);simp only[go_sem,fQ i o_];grind;simp only[go_sem];rw[mC b c h1];intro c;simp only[go_sem,aS (bP _)];rw[lD λj a=>c j a a]
def VF(l:B_)(x:Int)(a:l.length<=100000):aA PQ G iN [rG l,iv x] [] λr T=>r=.v (.bool (decide (x∈l)))/\T=[]:=by refine aC yD ?_;simp only[go_sem];apply cX (aEh l x a);simp only[go_sem,ge_iff_le,mN];grind
def xB(h:RollAt T s r)(w:r.wf)(o:OpM):aA PQ G lM [.ptr s.root 0,.ag o.A] T λy t=>y=.tup [iv (gP r o).1,iv (gP r o).2]/\t=T:=by
 apply aMf EU (λe=>aKn e);have K:=λX:aK=>aF (X:=X) h.root;have M:=AN (G:=G) h w.uniq o.Of;have d:=λX:aK=>AN (G:=G) (h.app (X:=X)) w.uniq o.Of;simp only[go_sem,aD];apply jA (d _);rintro y t ⟨rfl,rfl⟩;rcases Hr r o.Of with⟨q,p⟩|⟨i,c,q,p,n⟩
 have E:kD r o=(-1,25):=by grind[kD]
 have f:gP r o=(0,25):=by rw[gP,E];rfl
 rw[f];simp only[go_sem,p,aH];have F:=w.pos _ (eQ c);have f:gP r o=if decide (o.By∈r.L[i].Guards)=true then(r.L[i].N,0) else(0,14):=by rw[gP,lO c q,n];grind
 have b:r.L[i].Is=true:=by simp_all[Vt,zJ]
 have h0:(r.L[i].N==0)=false:=by simpa using F
 have B:=w.mg _ (eQ c);have a:=VF (G:=G) r.L[i].Guards o.By o_;rcases yX h r.L[i].N with⟨bs,I,j,h2,k,g,D,C,H,l,z⟩|⟨bs,I,h2,k,g⟩
 have:=w.nn j i D c z;subst this;have J:=λX:aK=>aF (X:=X) h2;have v:=λX:aK=>aF (X:=X) l.mem;have u:=λX:aK=>aF (X:=X) (l.grd b);rw[f];simp only[go_sem,n,h0,K,J,k,H,v,u,b,CR,aD];apply cX a;cases O:decide (o.By∈r.L[j].Guards);simp only[go_sem,aH];simp only[go_sem,aH];exfalso;have x:jL r r.L[i].N=-1:=g;unfold jL at x;have:=mN (λm:MM=>m.N==r.L[i].N) r.L;grind
end
section
variable{T:aK}{s:RP}{r:RM}
def a1P(r:RM)(o:OpM)(m:Int):Int:=if(!lZ r o.Device)=true then 17 else if(!(sD r m==3)&&eI r o.Device !=m)=true then 14 else 0
def a3P(r:RM)(o:OpM)(m:Int):Int:=if(!(sD r m==3))=true then 14 else if jL r o.Member<0 then 16 else 0
def a4P(r:RM)(m:Int):Int:=if sD r m<2 then 14 else 0
def a5P(r:RM)(o:OpM)(m:Int):Int:=if(!(sD r m==3)&&eI r o.Of.a !=m)=true then 14 else 0
def a7P(r:RM)(o:OpM):Int:=if(gP r o).2≠0 then(gP r o).2 else if(eI r o.Device !=(gP r o).1)=true then 16 else if(!lZ r o.Device)=true then 17 else 0
def aIj(h:RollAt T s r)(o:OpM)(m:Int):aA PQ G wS [.ptr s.root 0,.ag o.A,iv m] T λx a=>x=iv (a1P r o m)/\a=T:=by refine eH KG ?_;unfold a1P;simp only[go_sem,aD];apply jA (rW h.app o.Device);rintro y a ⟨rfl,rfl⟩;cases d:lZ r o.Device;simp only[go_sem,aH];simp only[go_sem];apply jA (vO h.app m);rintro y a ⟨rfl,rfl⟩;cases c:(sD r m==3);simp only[go_sem,aD];apply jA (kE h.app o.Device);rintro y a ⟨rfl,rfl⟩;cases b:(eI r o.Device !=m);simp only[go_sem,b,aH];simp only[go_sem,b,aH];simp only[go_sem,undef,aH]
def aIk (h:RollAt T s r) (o:OpM) (m:Int):aA PQ G wT [.ptr s.root 0,.ag o.A,iv m] T λx k=>x=iv (JI r o m (sD r m==3))/\k=T:=by
 apply eH KH;unfold JI;have i:=λX:aK=>aF (X:=X) h.root;obtain⟨bs,C,hI,_⟩:=h.inn;have q:=λX:aK=>aF (X:=X) hI;unfold tK at q;have c:=iW o.Device r.In 0;by_cases g:o.Device=0;have d:(o.Device !=0)=false:=kv;rw[if_neg kv];rcases yX h o.Member with⟨p,n,j,h2,b,a,w,u,l,B,_⟩|⟨p,n,h2,b,a⟩
 have t:=λX:aK=>aF (X:=X) h2;rw[a,if_neg o_];simp only[go_sem,aD,d,i,t,b,l];apply jA (vO h.app m);rintro y k ⟨rfl,rfl⟩;cases z:(sD r m==3);cases f:(o.Member !=m);simp only[go_sem,f,aH];simp only[go_sem,f,aH];simp only[go_sem,undef,aH];have t:=λX:aK=>aF (X:=X) h2;rw[a,if_pos d_];simp only[go_sem,aD,d,i,t,b,aH];have d:(o.Device !=0)=true:=kv;rw[if_pos g];rcases K4 r.In o.Device with⟨j,e,w,a⟩|⟨e,a⟩
 rw[e]at c;simp only[iX,mG]at c;have l:(r.In.map λ_=>AV.v (.bool true))[j]?=some (.v (.bool true)):=h_;simp only[go_sem,aD,d,i,q,c,l];apply jA (kE h.app o.Device);rintro y k ⟨rfl,rfl⟩;simp only[go_sem];apply jA (vO h.app m);rintro y k ⟨rfl,rfl⟩;rw[decide_eq_true a];cases z:(sD r m==3);cases f:(eI r o.Device !=m);simp only[go_sem,f,aH];simp only[go_sem,f,aH];simp only[go_sem,undef,aH];rw[e]at c;simp only[xD]at c;simp only[go_sem,aD,d,i,q,c,aH,decide_eq_false a]
def aIl (h:RollAt T s r) (o:OpM) (m:Int):aA PQ G wU [.ptr s.root 0,.ag o.A,iv m] T λx g=>x=iv (a3P r o m)/\g=T:=by
 apply eH KI;unfold a3P;have f:=λX:aK=>aF (X:=X) h.root;simp only[go_sem];apply jA (vO h.app m);rintro y g ⟨rfl,rfl⟩;cases q:(sD r m==3);simp only[go_sem,aH];rcases yX h o.Member with⟨d,c,j,h2,a,b,l,i,k,n,_⟩|⟨d,c,h2,a,b⟩
 have e:=λX:aK=>aF (X:=X) h2;have p:(!(jL r o.Member==-1))=true:=by rw[b];simp
 simp only[go_sem,aD,f,e,a,k,aH];simp_all;have e:=λX:aK=>aF (X:=X) h2;simp only[go_sem,b,aD,f,e,a,aH]
def aIm(h:RollAt T s r)(o:OpM)(m:Int):aA PQ G wV [.ptr s.root 0,.ag o.A,iv m] T λx a=>x=iv (a4P r m)/\a=T:=by refine eH KJ ?_;unfold a4P;simp only[go_sem];apply jA (B5 h.app m);rintro y a ⟨rfl,rfl⟩;simp only[go_sem];refine aL (λh1=>?_) (λh1=>?_);simp only[go_sem,aH,of_decide_eq_true h1];simp only[go_sem,aH,of_decide_eq_false h1]
def aIn(h:RollAt T s r)(o:OpM)(m:Int):aA PQ G wW [.ptr s.root 0,.ag o.A,iv m] T λx b=>x=iv (a5P r o m)/\b=T:=by refine eH KK ?_;unfold a5P;simp only[go_sem];apply jA (vO h.app m);rintro y b ⟨rfl,rfl⟩;cases d:(sD r m==3);simp only[go_sem,aD];apply jA (kE h.app o.Of.a);rintro y b ⟨rfl,rfl⟩;cases c:(eI r o.Of.a !=m);simp only[go_sem,c,aH];simp only[go_sem,c,aH];simp only[go_sem,undef,aH]
def aIo(h:RollAt T s r)(w:r.wf)(o:OpM)(m:Int):aA PQ G wY [.ptr s.root 0,.ag o.A,iv m] T λx b=>x=iv (a7P r o)/\b=T:=by
 apply eH KM;unfold a7P;simp only[go_sem,aD];apply jA (xB h.app w o);rintro y b ⟨rfl,rfl⟩;generalize gP r o=g at *
 cases a:(g.2 !=0);have c:g.2=0:=ov;rw[if_neg ox];simp only[go_sem,a,aD];apply jA (kE h.app o.Device);rintro y b ⟨rfl,rfl⟩;cases d:(eI r o.Device !=g.1);simp only[go_sem,d,aD];apply jA (rW h.app o.Device);rintro y b ⟨rfl,rfl⟩;cases e:lZ r o.Device;simp only[go_sem,aH];simp only[go_sem,aH];simp only[go_sem,d,aH];have c:g.2≠0:=ov;rw[if_pos c];simp only[go_sem,a,aH]
end
def aBb(y x:Int)(out:B_):Sz (y::out) x=if y<=x then y::Sz out x else x::y::out:=by unfold Sz kR;by_cases h:y<=x;simp_all;simp_all;omega
def K5(x:Int):∀{out:B_},out.Pairwise (· <= ·)->(Sz out x).Pairwise (· <= ·)|[],_=>by simp[Sz,kR]| y::out,h=>by rw[H5]at h;rw[aBb];by_cases b:y<=x;rw[if_pos b,H5];refine⟨λz a=>?_,K5 x h.2⟩;rcases cS.1 ((RF out x).mem_iff.1 a) with rfl|a;exact b;exact h.1 z a;grind[List.pairwise_cons]
def JL:∀(l:B_){out:B_},out.Pairwise (· <= ·)->(l.foldl Sz out).Pairwise (· <= ·)|[],_,h=>h|x::l,_,h=>JL l (K5 x h)
def RG:∀{l m:B_},l.Perm m->l.Pairwise (· <= ·)->m.Pairwise (· <= ·)->l=m
 |[],m,c,_,_=>c.nil_eq
 |x::l,[],c,_,_=>absurd c.symm.nil_eq s_
 | x::l,y::m,c,h1,h2=>by
  rw[H5]at h1 h2;have e:x=y:=by have a:y∈x::l:=c.mem_iff.2 EV;have b:x∈y::m:=c.mem_iff.1 EV;grind
  subst e;rw[RG (List.perm_cons x |>.1 c) h1.2 h2.2]
def VG{l:B_}{m:V_}(a:(m.map λn:Nat=>(n:Int)).Perm l)(b:m.Pairwise (· <= ·)):C0 l=m.map λn:Nat=>(n:Int):=by refine RG ((Hl l).trans a.symm) (JL l .nil) ?_;grind
def K6 {f:VM->Bool} {aAD:V_}:∀{L:List (VM×Nat)}{p:VM×Nat},(L.map (·.2)).Nodup->p∈L->p.2∉aAD ->
 (L.filter λq=>decide (q.2∈aAD++[p.2])&&f q.1).Perm (if f p.1=true then p::L.filter (λq=>decide (q.2∈aAD)&&f q.1) else L.filter λq=>decide (q.2∈aAD)&&f q.1)
 | q::L,p,b,a,c=>by
  rw[fG,BU]at b;rcases cS.1 a with rfl|a;have e:(L.filter λq=>decide (q.2∈aAD++[p.2])&&f q.1)=L.filter λq=>decide (q.2∈aAD)&&f q.1:=by refine List.filter_congr λq g=>?_;grind
  simp_all[List.filter_cons];have d:q.2≠p.2:=λh=>b.1 (by rw[h];exact List.mem_map_of_mem (f:=(·.2)) a);have ih:=K6 (f:=f) b.2 a c;grind
def dH{T:aK}{a b c:Option AObj}{X:aK}:(T++a::b::c::X)[T.length+2]?=some c:=s_
def cU{T:aK}{a c:Option AObj}{X:aK}:(T++a::X).set T.length c=T++c::X:=s_
def dD{T:aK}{a b c d:Option AObj}{X:aK}:(T++a::b::c::X).set (T.length+2) d=T++a::b::d::X:=s_
def aZ{T X:aK}{k:Nat}:(T++X)[T.length+k]?=X[k]?:=m_
def cP{T X:aK}{k:Nat}{c:Option AObj}:(T++X).set (T.length+k) c=T++X.set k c:=s_
structure RM.wv(r:RM):Prop where
 nd:(r.V.map λv=>(v.Of,v.By,v.Device)).Nodup
 pos:∀v∈r.V,0<=v.At
 few:∀x d,(r.V.filter λv=>decide (v.Of=x)&&(v.Device==d)).length<=12
section
variable{T:aK}{s:RP}{r:RM}
def Xb (h:RollAt T s r) (w:r.need) (Q:r.wv) (n d:Int):aA PQ G yR [.ptr s.root 0,iv n,iv d] T λy T'=>y=.tup [iv (Ll r n d).1,iv (Ll r n d).2]/\T'=T:=by
 apply aMf Hq (λe=>aKn e);have a1:=λX:aK=>aF (X:=X) h.root;rcases yX h n with⟨al,ak,j,h2,t,hm,hj,ao,gv,P,_⟩|⟨al,ak,h2,t,hm⟩
 ·have a2:=λX:aK=>aF (X:=X) h2;have m1:=λX:aK=>aF (X:=X) P.mem;have W:Ll r n d=if(!r.L[j].Is)=true then(0,4) else if((XZ r r.L[j].ID d).length:Int)<r.L[j].Need then(0,26) else
    if(r.L[j].Obj&&decide ((XZ r r.L[j].ID d).getD 0 0<=r.L[j].Last))=true then(0,28) else(IntKind.i64.wrap ((XZ r r.L[j].ID d).getD (r.L[j].Need-1).toNat 0+r.L[j].Wait),0):=by
   grind[Ll,Int.toNat_natCast]
  rw[W];clear W;cases p:r.L[j].Is;simp only[go_sem,h.root,h2,t,gv,P.mem,p];simp
  ·have E:=λX:aK=>aF (X:=X) (P.grd p);obtain⟨l,bs,g,hv,m,hl,ae⟩:=P.vch p;have U:=λX:aK=>aF (X:=X) hv;simp only[KO]at U;simp only[go_sem,h.root,h2,t,gv,P.mem,E,p,CR,U];have ar:=m.len;have K:l.Nodup:=List.Pairwise.of_map (S:=(· ≠ ·)) _ (λa b h e=>h (congrArg _ e)) ae;have ac:r.V.Nodup:=List.Pairwise.of_map (S:=(· ≠ ·)) _ (λa b h e=>h (congrArg _ e)) Q.nd;have N:(l.filter λv=>v.Device==d).Perm (r.V.filter λv=>decide (v.Of=r.L[j].ID)&&(v.Device==d)):=by refine(aBH (K.filter _) (ac.filter _)).2 λv=>?_;grind
   have ah:(l.filter λv=>v.Device==d).length<=12:=by rw[N.length_eq];exact Q.few _ _
   refine kL (λn st=>∃(aAD:V_)(out:B_),aAD.Nodup/\(∀b∈aAD,b∈bs)/\n=bs.length-aAD.length/\out.Perm (((l.zip bs).filter λq=>decide (q.2∈aAD)&&(q.1.Device==d)).map (·.1.At)) /\
    ∃(X:aK)(k:Nat),X[k]?=some (some (.arr 1 (out.map λn=>[iv n])))/\X[1]?=some (some (.mit (some s.ms[j].2.2) g aAD g)) /\
    ∃S,(S=[(36,.ptr (T.length+1) 0),(10,.own (T.length+k)),(9,.ptr s.ms[j].2.1 0),(2,iv d)]\/S=[(10,.own (T.length+k)),(36,.ptr (T.length+1) 0),(9,.ptr s.ms[j].2.1 0),(2,iv d)])/\st=⟨T.length,S,T++X⟩) bs.length ⟨[],[],s_,s_,rfl,s_,[some (.arr 1 []),some (.mit (some s.ms[j].2.2) g [] g)],0,rfl,rfl,_,.inl rfl,?_⟩ ?_
   simp;rintro n st ⟨aAD,out,ad,H,hn,hJ,X,k,x1,x2,S,hS,rfl⟩;obtain⟨kl,xk⟩:=sV.1 x1;rcases hS with rfl|rfl
   all_goals simp only[go_sem]
   all_goals have b2:=λX:aK=>kU (U X)
   all_goals refine VD (i:=T.length+1) (j:=s.ms[j].2.2) (kU (by rw[aZ];exact x2)) (b2 _) (cN _) m.lt (by simp[m.len]) (by simp[m.len]) (λO=>?_) λe he I=>?_
   iterate 2
    simp only[go_sem]
    have o:out.Perm ((r.V.filter λv=>decide (v.Of=r.L[j].ID)&&(v.Device==d)).map (·.At)):=by
     refine hJ.trans (List.Perm.trans (.of_eq ?_) (N.map _));have e1:(l.zip bs).map (·.1)=l:=by rw[List.map_fst_zip];omega
     conv=>rhs;rw[<-e1]
     rw[List.filter_map,rI];refine congrArg _ (List.filter_congr λq hq=>?_);have:q.2∈aAD:=O _ (List.of_mem_zip (show(q.1,q.2)∈l.zip bs from hq)).2;simp[this]
    have z:out.length<=12:=by rw[o.length_eq,aP];exact Q.few _ _
    obtain⟨R,rfl⟩:∃R:V_,out=R.map λn:Nat=>(n:Int):=by refine⟨out.map Int.toNat,?_⟩;rw[rI];refine(List.map_id' _).symm.trans (LD λx hx=>?_);obtain⟨v,hv,rfl⟩:=dF.1 (o.mem_iff.1 hx);have:=Q.pos v (gR.1 hv |>.1);simp_all;omega
    rw[aP]at z
    refine aG (args2:=[.own 0]) (T2:=[some (.arr 1 (nl R))]) [T.length+k] (aB _) s_ c_ ?_ ?_ (aEi R z) ?_
    simp only[go_sem]
    simp only[go_sem,aZ,x1]
    rfl
    rintro y T' ⟨c,⟨hp,hs⟩,rfl⟩
    have au:XZ r r.L[j].ID d=c.map λn:Nat=>(n:Int):=VG ((hp.map _).trans o) hs
    obtain⟨n1,n2⟩:=w _ (eQ hj) p
    have M:(XZ r r.L[j].ID d).length=c.length:=h_
    have C:(X.set k (some (.arr 1 (nl c))))[k]?=some (some (.arr 1 (nl c))):=h_
    generalize hZ:X.set k (some (.arr 1 (nl c)))=Z at C
    have q:∀i,i<c.length->(nl c)[i]?=some [iv ((XZ r r.L[j].ID d).getD i 0)]:=h_
    simp only[go_sem,cP,hZ,aZ,C,E,CR,aP,<-M]
    refine aL (λh1=>?_) (λh1=>?_)
    simp only[go_sem,of_decide_eq_true h1,aH]
    have h1:=of_decide_eq_false h1
    have w1:IntKind.i64.wrap (r.L[j].Need-1)=r.L[j].Need-1:=aJ o_ o_
    have n4:0<=r.L[j].Need-1:=o_
    have n3:(r.L[j].Need-1).toNat<c.length:=o_
    have n5:0<c.length:=o_
    have q0:=q 0 n5
    have q1:=q (r.L[j].Need-1).toNat n3
    simp only[go_sem,h1]
    cases ho:r.L[j].Obj
    simp only[go_sem,aP,ho,undef,w1,n3,n4,q1,E,CR,h1,aZ,C,aH]
    simp only[go_sem,aP,ho,n5,q0,ge_iff_le,E,CR,aZ,C]
    refine aL (λh2=>?_) (λh2=>?_)
    simp only[go_sem,h1,h2,aH]
    simp only[go_sem,aP,w1,n3,n4,q1,E,CR,h1,ho,h2,aZ,C,aH]
    have aq:e<l.length:=o_
    have aj:=VE m.nd he
    have gk:(l.map λv=>[Value.int .i64 v.By,Value.int .i64 v.Device])[e]?=some [Value.int .i64 l[e].By,Value.int .i64 l[e].Device]:=h_
    have gw:(l.map λv=>iv v.At)[e]?=some (iv l[e].At):=h_
    have aa:(l[e],bs[e])∈l.zip bs:=by grind[List.mem_iff_getElem,List.length_zip]
    have ab:(l.zip bs).map (·.2)=bs:=by rw[List.map_snd_zip];omega
    have ap:=(K6 (f:=λv=>v.Device==d) (by rw[ab];exact m.nd) aa I).map (·.1.At)
    have z:out.length<=12:=by
     refine uR ?_ ah;rw[hJ.length_eq,aP];have e1:(l.zip bs).map (·.1)=l:=by rw[List.map_fst_zip];omega
     have e3:(l.filter λv=>v.Device==d).length=((l.zip bs).filter λq=>q.1.Device==d).length:=by
      conv=>lhs;rw[<-e1]
      rw[List.filter_map,aP];rfl
     rw[e3,<-List.countP_eq_length_filter,<-List.countP_eq_length_filter];exact List.countP_mono_left λq _ h=>by simp only[zJ]at h;exact h.2
    have c1:out.length+1<=maxLen:=g_
    have c2:(out.length+1)*8<=140737488355328:=o_
    have A:(aAD++[bs[e]]).Nodup:=vQ.2 ⟨ad,s_,λx hx y hy e'=>I (by rw[cA]at hy;rw[<-hy,<-e'];exact hx)⟩
    have u:∀b∈aAD++[bs[e]],b∈bs:=λb hb=>(cG.1 hb).elim (H b) λh=>by rw[cA.1 h];exact eQ he
    have af:=List.Nodup.length_le_of_subset A u
    rw[dZ,GT]at af
    have ai:k≠1:=m_
    have B:(X.set 1 (some (some (.mit (some s.ms[j].2.2) g (aAD++[bs[e]]) g):Option AObj)).join)[1]?=some (some (.mit (some s.ms[j].2.2) g (aAD++[bs[e]]) g)):=m_
    have yk:(X.set 1 (some (.mit (some s.ms[j].2.2) g (aAD++[bs[e]]) g)))[k]?=some (some (.arr 1 (out.map λn=>[iv n]))):=m_
    replace B:(X.set 1 (some (.mit (some s.ms[j].2.2) g (aAD++[bs[e]]) g)))[1]?=some (some (.mit (some s.ms[j].2.2) g (aAD++[bs[e]]) g)):=B
    generalize hY:X.set 1 (some (.mit (some s.ms[j].2.2) g (aAD++[bs[e]]) g))=Y at B yk
    have D:=λZ:aK=>aF (X:=Z) yk
    have am:=(sV.1 yk).1
    have an:¬Y.length=k:=o_
    simp only[go_sem,cP,hY,aZ,B,U,Ke,aj,gk,gw,iY,eB,dZ,aD,cU]
    have F:∀b,(l[e].Device==d)=b->(((l.zip bs).filter λq=>decide (q.2∈aAD++[bs[e]])&&(q.1.Device==d)).map (·.1.At)).Perm (if b=true then l[e].At::out else out):=m_
    have J:bs.length-(aAD++[bs[e]]).length<n:=p_
    cases hd:(l[e].Device==d)
    simp only[go_sem]
    exact⟨_,J,_,out,A,u,rfl,(F _ hd).symm,_,k,D _,aF B,_,s_,rfl⟩
    simp only[go_sem,aP,c1,c2,aZ,cP,D,eB,jC,dM,dZ]
    refine⟨_,J,_,out++[l[e].At],A,u,rfl,(List.perm_append_singleton _ _).trans (F _ hd).symm,_,Y.length+2,?_,?_,_,.inr rfl,rfl⟩
    rw[Mc s_]
    simp
    rw[mY s_,List.getElem?_set_ne ai]
    exact aF B
 have a2:=λX:aK=>aF (X:=X) h2;have W:Ll r n d=(0,4):=by rw[Ll,if_pos (by rw[hm];decide)]
 rw[W];simp only[go_sem,h.root,h2,t,undef,dE]
end
def RJ{T X:aK}:(T++X).take (T.length+X.length)=T++X:=sG s_
section
variable{T:aK}{s:RP}{r:RM}
def Xc(f:Nat)(cs:O_)(m:Int->Bool)(l:B_)(k:l.length<2^63-1)(h:∀x∈l,aA PQ G f (iv x::cs) T λr d=>r=.v (.bool (m x))/\d=T):
 aA PQ G gY [rG l,.cl f cs] T λr d=>r=iv (qX m l)/\d=T:=by
 apply eH nU;simp only[go_sem,aP];refine O7 l.length (λi=>⟨T.length,[(8,iv i),(7,iv l.length),(0,rG l),(1,.cl f cs)],T⟩) (λi=>∀j(a:j<l.length),j<i->m l[j]=false) ?_ W_ ?_ ?_;rfl;intro i b c;have g:(l.map λn=>[iv n])[i]?=some [iv l[i]]:=aO _ l i b;simp only[go_sem,aT b,g];apply cI (h _ (eQ b))
 cases e:m l[i]with
 |false=>
  simp only[go_sem,fQ i o_];grind
 |true=>
  simp only[go_sem];rw[mC b c e];simp
 intro c;simp only[go_sem,aS (bP _)];rw[lD λj a=>c j a a];simp
def Xd(f:Nat)(cs:O_)(m:Int->Bool)(l:B_)(b:l.length<2^63-1)(h:∀x∈l,aA PQ G f (iv x::cs) T λr a=>r=.v (.bool (m x))/\a=T):
 aA PQ G dI [rG l,.cl f cs] T λr a=>r=.v (.bool (l.any m))/\a=T:=by
 apply eH lV;simp only[go_sem];apply cI (Xc f cs m l b h);simp only[go_sem,ge_iff_le,mN];simp
def a6P(r:RM)(o:OpM):Int:=if o.Guards.all (λd=>decide (d∈r.In))=true then 0 else 17
def aIt(h:RollAt T s r)(o:OpM)(m:Int)(q:o.Guards.length<=1000):aA PQ G wX [.ptr s.root 0,.ag o.A,iv m] T λx k=>x=iv (a6P r o)/\k=T:=by
 apply eH KL;unfold a6P;have i:∀(X:aK)(b:Nat),(T++X)[b]?=some (some (.box [.ptr s.root 0]))->∀d∈o.Guards,aA PQ G tQ [iv d,.ptr b 0] (T++X) λl k=>l=.v (.bool (!decide (d∈r.In)))/\k=T++X:=by
  intro X b c d _;apply eH Ho;have h1:=(h.app (X:=X)).root;obtain⟨bs,t,h2,_⟩:=(h.app (X:=X)).inn;have a:=iW d r.In 0;unfold tK at h2;rcases K4 r.In d with⟨j,e,p,g⟩|⟨e,g⟩
  rw[e]at a;simp only[iX,mG]at a;have n:(r.In.map λ_=>AV.v (.bool true))[j]?=some (.v (.bool true)):=h_;simp only[go_sem,c,h1,h2,a,n,RJ,decide_eq_true g];rw[e]at a;simp only[xD]at a;simp only[go_sem,c,h1,h2,a,RJ,decide_eq_false g]
 simp only[go_sem,aR,eB,jC,dM];apply cI (Xd tQ _ (λd=>!decide (d∈r.In)) o.Guards o_ (i _ T.length aD));have f:(o.Guards.any λd=>!decide (d∈r.In))=!(o.Guards.all λd=>decide (d∈r.In)):=m_;cases c:(o.Guards.all λd=>decide (d∈r.In));rw[c]at f;simp only[go_sem,f,aH];rw[c]at f;simp only[go_sem,f,aH]
def a8P(r:RM)(o:OpM):Int :=
 if(gP r o).2≠0 then(gP r o).2 else
 if(!decide (o.Old∈r.In)||eI r o.Old !=(gP r o).1)=true then 17 else
 if(!lZ r o.Device||eI r o.Device !=(gP r o).1)=true then 17 else
 if((Ll r (gP r o).1 o.Device).2==0&&decide (o.At<(Ll r (gP r o).1 o.Device).1))=true then 27 else(Ll r (gP r o).1 o.Device).2
def aIu(h:RollAt T s r)(w:r.wf)(p:r.wv)(o:OpM)(m:Int):aA PQ G wZ [.ptr s.root 0,.ag o.A,iv m] T λx y=>x=iv (a8P r o)/\y=T:=by
 apply eH KN;unfold a8P;have n:=λX:aK=>aF (X:=X) h.root;obtain⟨bs,B,hI,_⟩:=h.inn;have g:=λX:aK=>aF (X:=X) hI;unfold tK at g;have b:=iW o.Old r.In 0;simp only[go_sem,aD];apply cI (xB h.app w o);generalize gP r o=q at *
 cases c:(q.2 !=0);rotate_left;simp only[go_sem,c,aH];simp_all;have u:q.2=0:=ox;rw[if_neg (by simpa using u)];rcases K4 r.In o.Old with⟨j,e,z,a⟩|⟨e,a⟩
 rotate_left;rw[e]at b;simp only[xD]at b;simp only[go_sem,c,n,g,b,aD,decide_eq_false a,undef,aH];rw[e]at b;simp only[iX,mG]at b;have t:(r.In.map λ_=>AV.v (.bool true))[j]?=some (.v (.bool true)):=h_;simp only[go_sem,c,n,g,b,t,aD];apply cI (kE h.app _);cases l:(eI r o.Old !=q.1);rotate_left;simp only[go_sem,l,decide_eq_true a,lI,EH,EB,aH];simp only[go_sem,l,aD];apply cI (rW h.app _);cases C:lZ r o.Device;simp only[go_sem,undef,decide_eq_true a,lI,EH,EB,aH];simp only[go_sem,aD];apply cI (kE h.app _);cases k:(eI r o.Device !=q.1);rotate_left;simp only[go_sem,k,decide_eq_true a,lI,EH,EB,aH];simp only[go_sem,k,aD];apply cI (Xb h.app w.need p _ _);generalize Ll r q.1 o.Device=d at *
 cases i:(d.2==0);simp only[go_sem,i,undef,decide_eq_true a,lI,EH,EB,aH];simp only[go_sem,i,aD];refine aL (λf=>?_) (λf=>?_);simp only[go_sem,f,decide_eq_true a,lI,EH,EB,aH];simp only[go_sem,f,decide_eq_true a,lI,EH,EB,aH]
end
end Hud
