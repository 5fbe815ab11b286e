import Derived.Test.YtlhonkjgkfdnmaaGreatDoorLib21
set_option linter.all false
set_option maxHeartbeats 40000000
namespace Hud
open Go
variable{G:L_}
def Sm:V_:=[110,111,110,99,101]
def vW:V_:=[115,105,103,110]
def ZC:V_:=[108,101,97,100]
def ZD:V_:=[107,101,101,112]
def lT:Nat:=2305843009213693950
def CM:Nat->Nat->Nat->Nat->Nat|0,_,_,out=>out|n+1,a,b,out=>if b=0 then out else CM n ((a+a)%lT) (b/2) (if b%2=1 then(out+a)%lT else out)
def J3:∀(n a b out:Nat),b<2^n->out<lT->CM n a b out=(out+a*b)%lT
 |0,a,b,out,g,f=>by
  have:b=0:=kv;subst this;rw[CM,aGN,mG,EZ f]
 | n+1,a,b,out,g,f=>by
  rw[CM];split;rename_i h;subst h;rw[aGN,mG,EZ f];have d:b/2<2^n:=by rw[QM]at g;omega
  have c:0<lT:=d_;have e:a*b=(a+a)*(b/2)+a*(b%2):=by
   have:=QL b 2
   conv=>lhs;rw[<-this]
   rw[Nat.mul_add,<-aBZ];congr 2;omega
  split;rename_i h1;rw[J3 n _ _ _ d (zM _ c),e,h1,Bb];rw[Tc,Mn,CY,Mn,<-CY,<-Tc];congr 1;omega;rename_i h1;have h0:b%2=0:=o_;rw[J3 n _ _ _ d f,e,h0,aGN,mG,Tc,CY,Mn,<-CY,<-Tc]
def He(a b:Nat):Nat:=(a*b)%lT
def vX(a:Nat)(b:V_):Nat:=Px Sm [a,(Sj b).val]
def B1(a:Nat)(b:V_):Fq:=(37:Fq)^vX a b
def I9(a:Nat)(b:V_):Nat:=(vX a b+He (I8 (B1 a b).val ((37:Fq)^a).val b).val a)%lT
def AG(a:V_)(d:Nat):Nat:=Px a [d]
def cM(o:OpM):OpM:={o with SR:=(B1 (AG vW o.By.toNat) o.B).val,SS:=I9 (AG vW o.By.toNat) o.B}
def aAN(o:OpM):(cM o).B=o.B:=by simp only[OpM.B,cM]
def J4(a b:V_):Px a b<2^64:=QJ (Sf a b).2 d_
def Ut(o:OpM)(a:o.ok):aA PQ G Ij [.ag o.A] [] λr T=>r=.ag (C7 o).A/\T=[]:=by refine aC UG ?_;have b:=o.B_len a;simp only[go_sem];apply kM (J2 o a);simp only[go_sem];apply cH (aB _) rfl rfl (Uk _ lOp o.B Y_ Y_ (Az d_) d_ (o.B_ok a) o_);rintro r c ⟨rfl,rfl⟩;refine⟨x_,s_,?_⟩;simp only[go_sem];rfl
def AH:aA PQ G kY [] [] λr T=>r=uv lT/\T=[]:=by refine aC OL ?_;simp only[go_sem,lT];rfl
def c_m(b:V_)(c:xN b)(a:b.length<=1000000):aA PQ G MA [.ls 1 (bl b)] [] λr T=>r=.v (fu (Sj b))/\T=[]:=by refine aC Wz ?_;simp only[go_sem];apply cX (Uk _ Si b Y_ Y_ (Az d_) d_ c a);simp only[go_sem];rfl
def c_e(r a:Nat)(b:V_)(d:r<2^64)(e:a<2^64)(g:xN b)(f:b.length<=1000000):aA PQ G MB [uv r,uv a,.ls 1 (bl b)] [] λx T=>x=.v (fu (I8 r a b))/\T=[]:=by refine aC W0 ?_;simp only[go_sem];apply cX (c_m b g f);simp only[go_sem];refine cH (aB _) rfl rfl (aDc _ aI5 [r,a,(Sj b).val] Y_ Y_ (Az d_) d_ (λn c=>?_) s_) ?_;simp only[cS,pP,or_false]at c;rcases c with rfl|rfl|rfl;exact d;exact e;exact Cr _;rintro x h ⟨rfl,rfl⟩;refine⟨x_,s_,?_⟩;simp only[go_sem];rfl
def GJ(s:Nat)(a:s<2^64):aA PQ G AW [uv s] [] λr T=>r=.v (fu ((37:Fq)^s))/\T=[]:=by refine aC Sd ?_;simp only[go_sem];apply aU (R:=.v (fu ((37:Fq)^s))) (aB _) rfl (Uf (37:Fq) s a) rfl;simp only[go_sem]
def aFF(a b:Nat)(z:a<2^64)(x:b<2^64):aA PQ G E6 [uv a,uv b] [] λr T=>r=uv (He a b)/\T=[]:=by
 apply aC OK;have c:0<lT:=d_;have m:bV .rem (.int .u64 (a:Int)) (.int .u64 (lT:Nat))=some (.int .u64 ((a%lT:Nat):Int)):=mD a lT (Ta c);have l:bV .rem (.int .u64 (b:Int)) (.int .u64 (lT:Nat))=some (.int .u64 ((b%lT:Nat):Int)):=mD b lT (Ta c);simp only[go_sem];apply cX AH;simp only[go_sem,↓m];apply cX AH;simp only[go_sem,↓l];have g:CM 64 (a%lT) (b%lT) 0=He a b:=by rw[J3 64 _ _ _ (QQ (zM _ c) d_) c,pQ,He,<-CY]
 rw[<-g];have k:=zM a c;have j:b%lT<2^64:=QQ (zM _ c) d_;generalize a%lT=a at *
 generalize b%lT=b at *
 clear g z x m l;refine cO (λn s=>∃a' b' out,CM n a' b' out=CM 64 a b 0/\a'<lT/\b'<2^n/\n<=64/\out<lT/\s=⟨0,[(0,uv a'),(1,uv b'),(5,uv out)],[]⟩) 64 ⟨a,b,0,rfl,k,j,cN _,c,?_⟩ ?_;simp only[go_sem];rfl;rintro n s ⟨a',b',out,w,y,f,v,i,rfl⟩;rw[<-w];have B:lT=2305843009213693950:=rfl;by_cases h0:b'=0;subst h0;have t1:decide (((0:Nat):Int)>0)=false:=d_;have A:CM n a' 0 out=out:=by cases n<;>simp[CM]
 rw[A];simp only[go_sem]
 cases n with
 |zero=>exact absurd (kj:b'=0) h0| succ n=>
  have t1:decide ((b':Int)>0)=true:=decide_eq_true o_;have h:b'<2^64:=CV f (Gl d_ v);have t:bV .rem (.int .u64 (b':Int)) (.int .u64 2)=some (.int .u64 ((b'%2:Nat):Int)):=mD b' 2 d_;have o:bV .quo (.int .u64 (b':Int)) (.int .u64 2)=some (.int .u64 ((b'/2:Nat):Int)):=Cp b' 2 d_ h;have p:bV .add (.int .u64 (a':Int)) (.int .u64 (a':Int))=some (.int .u64 ((a'+a':Nat):Int)):=eY a' a' o_;have ra:bV .rem (.int .u64 ((a'+a':Nat):Int)) (.int .u64 (lT:Nat))=some (.int .u64 (((a'+a')%lT:Nat):Int)):=mD (a'+a') lT (Ta c);have u:bV .add (.int .u64 (out:Int)) (.int .u64 (a':Int))=some (.int .u64 ((out+a':Nat):Int)):=eY out a' o_;have q:bV .rem (.int .u64 ((out+a':Nat):Int)) (.int .u64 (lT:Nat))=some (.int .u64 (((out+a')%lT:Nat):Int)):=mD (out+a') lT (Ta c);have d:b'/2<2^n:=by rw[QM]at f;omega
  rw[CM,if_neg h0];simp only[go_sem,t1,↓t];by_cases e:b'%2=1;have t2:(((b'%2:Nat):Int)==1)=true:=by rw[e];rfl
  rw[if_pos e];simp only[go_sem,t2,↓u];apply cX AH;simp only[go_sem,↓q,↓p];apply cX AH;simp only[go_sem,↓ra,↓o];exact⟨n,o_,_,_,_,rfl,zM _ c,d,o_,zM _ c,rfl⟩;have t2:(((b'%2:Nat):Int)==1)=false:=by rw[(o_:b'%2=0)];rfl
  rw[if_neg e];simp only[go_sem,t2,↓p];apply cX AH;simp only[go_sem,↓ra,↓o];exact⟨n,o_,_,_,_,rfl,zM _ c,d,o_,i,rfl⟩
def Uu(a:Nat)(b:V_)(R S:Nat)(h:a<2^64)(l:R<2^64)(k:S<2^64)(j:xN b)(i:b.length<=1000000):aA PQ G E4 [uv a,.ls 1 (bl b),.ag [uv R,uv S]] [] λr T=>r=.v (.bool (BW a b R S))/\T=[]:=by
 apply aC ON;have m:lT=2305843009213693950:=rfl;have g:∀x:Nat,decide ((x:Int)<1)=!decide (1<=x):=λx=>by rw[CT];simp;omega
 have f:∀x:Nat,decide ((lT:Int)<(x:Int))=!decide (x<=2305843009213693950):=λx=>by rw[CT];simp;omega
 have e:decide ((lT:Int)<=(S:Int))=!decide (S<=2305843009213693949):=by rw[CT];simp;omega
 simp only[go_sem,g];cases h1:decide (1<=a);simp only[go_sem,undef,BW,h1,lR];simp only[go_sem];apply cX AH;simp only[go_sem,gt_iff_lt,f];cases h2:decide (a<=2305843009213693950);simp only[go_sem,undef,BW,h1,h2,lR,Ea];simp only[go_sem,g];cases h3:decide (1<=R);simp only[go_sem,undef,BW,h1,h2,h3,lR,Ea];simp only[go_sem];apply cX AH;simp only[go_sem,gt_iff_lt,f];cases c:decide (R<=2305843009213693950);simp only[go_sem,undef,BW,h1,h2,h3,c,lR,Ea];simp only[go_sem];apply cX AH;simp only[go_sem,ge_iff_le,e];cases d:decide (S<=2305843009213693949);simp only[go_sem,BW,h1,h2,h3,c,d,lR,Ea];simp only[decide_eq_true_eq]at h1 h2 h3 c d;have u1:uv a=.v (fu (TP a)):=by simp only[fu,MN (o_:a<2305843009213693951)]
 have u2:uv R=.v (fu (TP R)):=by simp only[fu,MN (o_:R<2305843009213693951)]
 simp only[go_sem];apply aU (R:=.v (fu ((37:Fq)^S))) (aB _) rfl (Uf (37:Fq) S k) rfl;simp only[go_sem];apply cX (c_e R a b l h j i);simp only[go_sem];apply aU (R:=.v (fu (TP a^(I8 R a b).val))) (aB _) rfl (by rw[u1];exact Uf (TP a) (I8 R a b).val (Cr _)) rfl;simp only[go_sem];apply aU (R:=.v (fu (TP R*TP a^(I8 R a b).val))) (aB _) rfl (by rw[u2];exact Ue (TP R) _) rfl;have e:∀x y:Fq,((x.val:Int)==(y.val:Int))=decide (x=y):=λx y=>by rw[CT];simp[Fin.ext_iff];omega
 simp only[go_sem,e,BW];simp[h1,h2,h3,c,d]
def aI7(s:Nat)(b:V_)(d:s<2^64)(g:xN b)(f:b.length<=1000000):aA PQ G HN [uv s,.ls 1 (bl b)] [] λr T=>r=.ag [.v (fu (B1 s b)),uv (I9 s b)]/\T=[]:=by
 apply aC Pv;have a:0<lT:=d_;have j:lT=2305843009213693950:=rfl;simp only[go_sem];apply cX (c_m b g f);simp only[go_sem];refine cH (aB _) rfl rfl (Qy _ Sm [s,(Sj b).val] Y_ Y_ (Az d_) d_ (λn e=>?_) s_) ?_;simp only[cS,pP,or_false]at e;rcases e with rfl|rfl;exact d;exact Cr _;rintro x l ⟨rfl,rfl⟩;refine⟨x_,s_,?_⟩;have k:vX s b<2305843009213693950:=by have:=Sf Sm [s,(Sj b).val];unfold vX;omega
 rw[show Px Sm [s,(Sj b).val]=vX s b from rfl];simp only[go_sem];apply aU (R:=.v (fu (B1 s b))) (aB _) rfl (Uf (37:Fq) (vX s b) o_) rfl;simp only[go_sem];apply cX (GJ s d);simp only[go_sem];apply cX (c_e (B1 s b).val ((37:Fq)^s).val b (Cr _) (Cr _) g f);simp only[go_sem];apply cX (aFF (I8 (B1 s b).val ((37:Fq)^s).val b).val s (Cr _) d);obtain⟨x,c⟩:∃x,x=He (I8 (B1 s b).val ((37:Fq)^s).val b).val s:=⟨_,rfl⟩
 rw[<-c];have h:x<lT:=by rw[c];exact zM _ a
 have i:bV .add (.int .u64 (vX s b:Int)) (.int .u64 (x:Int))=some (.int .u64 ((vX s b+x:Nat):Int)):=eY (vX s b) x o_;have ra:bV .rem (.int .u64 ((vX s b+x:Nat):Int)) (.int .u64 (lT:Nat))=some (.int .u64 (((vX s b+x)%lT:Nat):Int)):=mD (vX s b+x) lT (Ta a);simp only[go_sem,↓i];apply cX AH;simp only[go_sem,↓ra];rw[c];rfl
def AI(S:ByteArray)(a:V_)(d:Nat)(g:lJ S=bl a)(c:S.size=a.length)(f:xN a)(e:a.length<=1000)(h:d<=2^63-1):aA PQ G rP [.v (.string S),iv d] [] λr T=>r=uv (AG a d)/\T=[]:=by refine aC LM ?_;have w1:IntKind.u64.wrap (d:Int)=(d:Int):=bS d o_;simp only[go_sem,w1];refine cH (aB _) rfl rfl (Qy S a [d] g c f e (λn b=>?_) s_) ?_;simp only[cA]at b;subst b;omega;rintro x i ⟨rfl,rfl⟩;refine⟨x_,s_,?_⟩;simp only[go_sem];rfl
def OX(o:OpM)(b:o.ok)(e:0<=o.By):aA PQ G jK [.ag o.A] [] λr T=>r=.ag (cM o).A/\T=[]:=by
 apply aC LL;have f:=o.B_len b;have h1:=(b.ints o.By s_).2;obtain⟨d,a⟩:∃d:Nat,o.By=(d:Int):=⟨o.By.toNat,o_⟩
 have c:o.By.toNat=d:=by rw[a];rfl
 simp only[go_sem];apply aU (R:=uv (AG vW o.By.toNat)) (aB _) rfl (by rw[c,a];exact AI _ vW d Y_ Y_ (Az d_) d_ o_) rfl;simp only[go_sem];apply kM (J2 o b);simp only[go_sem];apply cH (aB _) rfl rfl (aI7 (AG vW o.By.toNat) o.B (J4 _ _) (o.B_ok b) o_);rintro x g ⟨rfl,rfl⟩;refine⟨by simp only[fX,tC];trivial,s_,?_⟩;simp only[go_sem,OpM.A_def,cM]
structure BX where
 To:Fq
 Eph:Fq
 Body:Fq
 Tag:Fq
def BX.A(b:BX):O_:=[.v (fu b.To),.v (fu b.Eph),.v (fu b.Body),.v (fu b.Tag)]

def PF(a:Fq)(m n:Nat):a^(m*n)=(a^m)^n:=by apply Fin.ext;rw[Jy,Jy,Jy,<-Kn,<-IA]
def Xj(n:Nat):(1:Fq)^n=1:=by apply Fin.ext;rw[Jy];show 1^n%PP=1;rw[Nat.one_pow];decide
def Xk:(37:Fq)≠0:=d_
def KW{a:Fq}(h:a≠0):∀n:Nat,a^n≠0|0=>by rw[pw0];exact aNv|n+1=>λe=>by rw[Wd,pw1]at e;rcases aFk e with h1|h1;exact KW h n h1;exact h h1
def ZY(n:Nat):(37:Fq)^(n%lT)=37^n:=by
 conv=>rhs;rw[<-QL n lT,Wd,PF]
 rw[show lT=NN from rfl,aAo Xk,Xj];exact(Fin.one_mul _).symm
def Va(a:Fq):TP a.val=a:=Fin.ext (EZ a.isLt)
def PG{a:Fq}(h:a≠0):1<=a.val:=by rcases JX a.val with e|e;exact absurd (Fin.ext e) h;exact e
def aIF(s:Nat)(b:V_):BW ((37:Fq)^s).val b (B1 s b).val (I9 s b)=true:=by
 have h1:=PG (KW Xk s);have h2:=PG (KW Xk (vX s b));have h3:=((37:Fq)^s).isLt;have f:=((37:Fq)^vX s b).isLt;have c:PP=2305843009213693951:=d_;have e:I9 s b<lT:=zM _ d_;have d:lT=2305843009213693950:=rfl;have a:(37:Fq)^I9 s b=B1 s b*(37^s)^(I8 (B1 s b).val ((37:Fq)^s).val b).val:=by unfold I9;rw[ZY,Wd,He,ZY,QP,PF];rfl
 unfold BW;rw[Va,Va];simp only[zJ,decide_eq_true_eq];refine⟨⟨⟨⟨h1,o_⟩,by unfold B1;exact h2,by unfold B1;omega⟩,o_⟩,a⟩
def PH(n:Nat)(h:n<2^64):((37:Fq)^n).val=Xf PP 64 37 n 1%PP:=by rw[Jy,SP PP 64 37 n 1 w_,Km];rfl
end Hud
