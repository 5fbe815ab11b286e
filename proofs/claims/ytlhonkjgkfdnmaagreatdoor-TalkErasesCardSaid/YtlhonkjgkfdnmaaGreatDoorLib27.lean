import Derived.Test.YtlhonkjgkfdnmaaGreatDoorLib25
import Derived.Test.YtlhonkjgkfdnmaaGreatDoorLib26
set_option linter.all false
set_option maxHeartbeats 40000000
namespace Hud
open Go
variable{G:L_}
def aKc(l:B_)(x:Int)(k:l.length<2^63-1):aA PQ G F7 [rG l,iv x] [] λr T=>r=.v (.bool (decide (x∈l)))/\T=[]:=by
 apply aC Sc;simp only[go_sem];refine aQ l.length (λi=>⟨0,[(0,rG l),(1,iv x),(5,iv i)],[]⟩) (λi=>∀j(a:j<l.length),j<i->l[j]≠x) ?_ W_ ?_ ?_;simp only[go_sem];intro i b c;have g:(l.map λn=>[iv n])[i]?=some [iv l[i]]:=aO _ l i b;simp only[go_sem,aP,aT b,g];refine aL (λh=>?_) (λh=>?_)<;>simp only[go_sem,fQ i o_];grind;grind;intro c;have e:¬x∈l:=λd=>by obtain⟨j,a,f⟩:=CU d;exact c j a a f
 simp only[go_sem,aP,aS (bP _),decide_eq_false e]
def Dt(g:GM)(x:Id)(d:g.ok):aA PQ G oJ [.ag g.A,.ag x.A] [] λr T=>r=iv (aW g.I x)/\T=[]:=by
 apply aC NZ;have f:g.I.length<(2^63-1):=by have:=d.i;have:=d.n;omega
 simp only[go_sem];refine aQ g.I.length (λi=>⟨0,[(2,.ptr 0 0),(3,.ptr 1 0),(5,iv i)],[some (.box g.A),some (.box x.A)]⟩) (λi=>∀j(a:j<g.I.length),j<i->decide (g.I[j]=x)=false) ?_ W_ ?_ ?_;simp only[go_sem];intro i b c;have e:(g.I.map Id.A)[i]?=some g.I[i].A:=aO _ g.I i b;simp only[go_sem,aP,aT b,e];refine aL (λh=>?_) (λh=>?_)<;>simp only[go_sem,fQ i o_];rw[aW,mC b c h];grind;intro c;simp only[go_sem,aP,aS (bP _)];rw[aW,lD λj a=>c j a a]
def Uv(g:GM)(d:Int)(m:g.ok):aA PQ G DT [.ag g.A,iv d] [] λr T=>r=.tup [.ag (gM g.Cards d).1.A,.v (.bool (gM g.Cards d).2)]/\T=[]:=by
 apply aC PW;have n:g.Cards.length<(2^63-1):=by have:=m.cn;omega
 simp only[go_sem];refine aQ g.Cards.length (λi=>⟨0,[(1,iv d),(2,.ptr 0 0),(4,.ptr 1 0),(6,iv i)],[some (.box g.A),some (.box [iv 0,iv 0,AV.v (.int .u64 0),AV.v (.int .u64 0),AV.v (.int .u64 0)])]⟩) (λi=>∀j(a:j<g.Cards.length),j<i->(g.Cards[j].Device==d)=false) ?_ W_ ?_ ?_;simp only[go_sem];intro i b f;have k:(g.Cards.map CardM.A)[i]?=some [iv g.Cards[i].Device,iv g.Cards[i].Member,uv g.Cards[i].Lead,uv g.Cards[i].Keep,uv g.Cards[i].Sign]:=aO _ g.Cards i b;simp only[go_sem,aP,aT b,k];refine aL (λh=>?_) (λh=>?_)<;>simp only[go_sem,k,fQ i o_];have e:g.Cards.find? (λc=>c.Device==d)=some g.Cards[i]:=aBG.2 ⟨h,i,b,rfl,λj a=>by simp[f j o_ a]⟩;simp only[gM,e,CardM.A_def];grind;intro f;have e:g.Cards.find? (λc=>c.Device==d)=none:=Eb.2 λx l=>by obtain⟨j,a,rfl⟩:=CU l;simp[f j a a]
 simp only[go_sem,aP,aS (bP _),gM,e,CardM.A_def];rfl
def aFG(l:V_):Sa l=rG (l.map λn:Nat=>(n:Int)):=s_
def aDr{l:V_}{i:Nat}:decide ((i:Int)∈l.map λn:Nat=>(n:Int))=decide (i∈l):=m_
theorem yB(u:V_)(b:List Bool):(u.foldl (λb k=>b.set k true) b).length=b.length:=by
 induction u generalizing b with
 |nil=>rfl|cons k u ih=>rw[CW,ih,cL]
def Q1(b:List V_)(up:V_)(a:List Bool)(i:Nat):(OG b up a i).length=a.length:=by grind[OG,yB]
def Q2(b:List V_)(up:V_):∀(n:Nat)(a:List Bool),(Kx b up n a).length=a.length|0,_=>rfl|n+1,a=>by rw[Kx,Q2 b up n,Q1]
theorem Cs(g:GM)(up:V_):(oL g up).length=g.L.length:=by rw[oL,Q2,QE]
def JA(u:V_)(b:List Bool)(i:Nat)(h:i<u.length):(u.take (i+1)).foldl (λb k=>b.set k true) b=((u.take i).foldl (λb k=>b.set k true) b).set u[i] true:=by rw[lB h,Hy];rfl
def aI8(l:V_)(i:Nat)(a:l.length<2^63-1):aA PQ G F7 [Sa l,iv i] [] λr T=>r=.v (.bool (decide (i∈l)))/\T=[]:=by rw[aFG,<-aDr];exact aKc _ (i:Int) ov
abbrev VR(a:List Bool):List (List AV):=a.map λb=>[AV.v (.bool b)]
def Sn(a:List Bool)(i:Nat)(b:Bool):(VR a).set i [AV.v (.bool b)]=VR (a.set i b):=s_
def W5 (g:GM) (up:V_) (hg:g.ok) (hu:up.length<=1000):aA PQ G DN [.ag g.A,Sa up] [] λr T=>r=.own 0/\T=[some (.arr 1 (VR (oL g up)))]:=by
 apply aC PZ;have hn:=hg.n;have b1:(g.L.length:Int)*1<=140737488355328:=o_;have b2:(g.L.length:Int)<=(maxLen:Nat):=g_;have hz:(0:Int)<=(g.L.length:Int):=o_;have w1:IntKind.i64.wrap ((g.L.length:Int)-1)=(g.L.length:Int)-1:=aJ o_ o_;simp only[go_sem,aP,b1,b2,hz,w1,Int.le_refl];refine cO (λn s=>∃a:List Bool,a.length=g.L.length/\n<=g.L.length/\Kx g.Up up n a=oL g up/\s=⟨0,[(1,Sa up),(2,.ptr 0 0),(5,.own 1),(6,iv ((n:Int)-1))],[some (.box g.A),some (.arr 1 (VR a))]⟩) g.L.length ⟨List.replicate g.L.length false,s_,cN _,rfl,?_⟩ ?_;simp only[go_sem,YH];rintro n s ⟨a,ha,hnl,hR,rfl⟩
 cases n with
 |zero=>
  have t1:decide ((0:Int)<=((0:Nat):Int)-1)=false:=d_;rw[<-hR];simp only[go_sem,ge_iff_le,Kx]
 | succ i=>
  have e0:(((i+1:Nat):Int)-1)=(i:Int):=o_;have t1:decide ((0:Int)<=(i:Int))=true:=decide_eq_true o_;have w2:IntKind.i64.wrap ((i:Int)-1)=(i:Int)-1:=aJ o_ o_;rw[e0];simp only[go_sem,ge_iff_le];apply cX (aI8 up i o_);obtain⟨a1,ha1⟩:∃a1,a1=(if decide (i∈up) then a.set i true else a):=⟨_,rfl⟩
  have hl1:a1.length=g.L.length:=m_;have hil:i<g.L.length:=o_;have g0:(VR a)[i]?=some [AV.v (.bool (a.getD i false))]:=h_;have g1:(VR a1)[i]?=some [AV.v (.bool (a1.getD i false))]:=h_;have hU:(g.Up.map λl=>[Sa l])[i]?=some [Sa (g.Up.getD i [])]:=by rw[gE,rH,jN (by rw[hg.un];omega)];rfl
  have hUm:g.Up.getD i []∈g.Up:=m_;obtain⟨hul,huk⟩:=hg.up _ hUm;have hstep:OG g.Up up a i=if a1.getD i false then(g.Up.getD i []).foldl (λb k=>b.set k true) a1 else a1:=by rw[ha1];rfl
  rw[Kx,hstep]at hR;have hul2:=hg.un;clear hstep;generalize g.Up.getD i []=u at *
  simp only[go_sem];refine aL (λh=>?_) (λh=>?_);have hs:=Sn a i true;have hai:a1=a.set i true:=by rw[ha1,if_pos h]
  simp only[go_sem,aP,ha,hil,g0,hs,<-hai,hl1,g1];cases hb:a1.getD i false;grind;rw[hb,if_pos rfl]at hR;simp only[go_sem];refine aQ u.length (λj=>⟨0,[(1,Sa up),(2,.ptr 0 0),(5,.own 1),(6,iv i),(7,iv j)],[some (.box g.A),some (.arr 1 (VR ((u.take j).foldl (λb k=>b.set k true) a1)))]⟩) (λ_=>True) ?_ trivial ?_ ?_;simp only[go_sem,uQ,Kk];intro j hj _;have hk:=huk u[j] (eQ hj);have gj:(u.map λn:Nat=>[iv (n:Int)])[j]?=some [iv (u[j]:Nat)]:=aO _ u j hj;have hl2:((u.take j).foldl (λb k=>b.set k true) a1).length=g.L.length:=by rw[yB,hl1]
  rw[JA u a1 j hj,<-Sn];generalize(u.take j).foldl (λb k=>b.set k true) a1=c at *
  generalize u[j]=q at *
  have g2:(VR c)[q]?=some [AV.v (.bool (c.getD q false))]:=m_;simp only[go_sem,aP,hU,aT hj,gj,hl2,hk,g2,fQ j o_];intro _;rw[dE];simp only[go_sem,aP,hU,aS (bP _),w2];grind[yB];have hai:a1=a:=h_;rw[<-hai]at ha g0⊢;simp only[go_sem,aP,hl1,hil,g1];cases hb:a1.getD i false;rw[hb]at hR;simp only[jJ,if_false]at hR;simp only[go_sem,w2];grind;rw[hb,if_pos rfl]at hR;simp only[go_sem];refine aQ u.length (λj=>⟨0,[(1,Sa up),(2,.ptr 0 0),(5,.own 1),(6,iv i),(7,iv j)],[some (.box g.A),some (.arr 1 (VR ((u.take j).foldl (λb k=>b.set k true) a1)))]⟩) (λ_=>True) ?_ trivial ?_ ?_;simp only[go_sem,uQ,Kk];intro j hj _;have hk:=huk u[j] (eQ hj);have gj:(u.map λn:Nat=>[iv (n:Int)])[j]?=some [iv (u[j]:Nat)]:=aO _ u j hj;have hl2:((u.take j).foldl (λb k=>b.set k true) a1).length=g.L.length:=by rw[yB,hl1]
  rw[JA u a1 j hj,<-Sn];generalize(u.take j).foldl (λb k=>b.set k true) a1=c at *
  generalize u[j]=q at *
  have g2:(VR c)[q]?=some [AV.v (.bool (c.getD q false))]:=h_;simp only[go_sem,aP,hU,aT hj,gj,hl2,hk,g2,fQ j o_];intro _;rw[dE];simp only[go_sem,aP,hU,aS (bP _),w2];grind[yB]
def ZE{α:Type}(p:α->Bool)(l:List α)(i:Nat)(h:i<l.length):(l.take (i+1)).any p=((l.take i).any p||p l[i]):=by rw[lB h,List.any_append];simp
def ZF(g:GM)(o:OpM)(a:List Bool)(O:g.ok)(J:o.ok)(S:1<=o.Seq)(N:a.length=g.L.length):aA PQ G E5 [.ag g.A,.ag o.A,wI a] [] λr T=>r=.v (.bool (FT g.L o a))/\T=[]:=by
 apply aC Nh;have U:=O.n;have f:=J.ints o.Seq s_;have w1:IntKind.i64.wrap (o.Seq-1)=o.Seq-1:=aJ (by have:=f.1;omega) (by have:=f.2;omega);obtain⟨z,D⟩:∃z,z=g.L.zip a:=⟨_,rfl⟩
 have l:z.length=g.L.length:=by rw[D];simp[N]
 have Q:FT g.L o a=(z.all (λe=>!(I0 o e)||decide (e.1.Seq<o.Seq))&&((o.Seq==1)||z.any λe=>I0 o e&&e.1.Seq==o.Seq-1)):=by rw[D];rfl
 simp only[go_sem];refine aQ g.L.length (λi=>⟨0,[(2,wI a),(3,.ptr 0 0),(4,.ptr 1 0),(7,.v (.bool ((z.take i).any λe=>I0 o e&&e.1.Seq==o.Seq-1))),(8,iv i)],[some (.box g.A),some (.box o.A)]⟩) (λi=>∀j(t:j<z.length),j<i->(!(I0 o z[j])||decide (z[j].1.Seq<o.Seq))=true) ?_ (by intro j t h;omega) ?_ ?_;simp only[go_sem,uQ,List.any_nil];intro i u B;have F:i<z.length:=o_;have I:(g.L.map OpM.A)[i]?=some g.L[i].A:=aO _ g.L i u;have R:(a.map λb=>[AV.v (.bool b)])[i]?=some [AV.v (.bool a[i])]:=aO _ a i o_;have m:z[i]=(g.L[i],a[i]):=by subst D;simp
 have y:=fQ i o_;have M:i<a.length:=o_;rw[ZE _ z i F];have s:=B;have c:(!(I0 o z[i])||decide (z[i].1.Seq<o.Seq))=true->∀j(t:j<z.length),j<i+1->(!(I0 o z[j])||decide (z[j].1.Seq<o.Seq))=true:=λh j t K=>m_;have d:(!(I0 o z[i])||decide (z[i].1.Seq<o.Seq))=false->FT g.L o a=false:=λh=>m_;rw[m]at c d⊢;have k:I0 o (g.L[i],a[i])=(a[i]&&g.L[i].By==o.By):=rfl;rw[k]at c d⊢;clear B s m k;generalize((z.take i).any λe=>I0 o e&&e.1.Seq==o.Seq-1)=C;generalize a[i]=b at *
 generalize g.L[i]=x at *
 have E:(x.By !=o.By)=!(x.By==o.By):=rfl;simp only[go_sem,aP,aT u,R];cases b;simp only[go_sem,undef,y,lR,EB];exact c rfl;simp only[go_sem,I,E];cases H:(x.By==o.By);simp only[go_sem,y,mF,lR,EB];simp_all;rw[H]at c d;simp only[go_sem,I,ge_iff_le];have P:decide (o.Seq<=x.Seq)=!decide (x.Seq<o.Seq):=m_;rw[P];cases q:decide (x.Seq<o.Seq);rw[q]at d;simp only[go_sem,d rfl];rw[q]at c;simp only[go_sem];cases C;simp only[go_sem,y,I,w1,mF,EH];exact c rfl;simp only[go_sem,undef,y,mF,EI];exact c rfl;intro B;have w:=Bu (p:=λe=>!(I0 o e)||decide (e.1.Seq<o.Seq)) λj t _=>B j t o_;rw[<-l,dE];rw[Q,w,mF];simp only[go_sem,aP,l,aS (bP _)];cases h1:(o.Seq==1);simp only[go_sem,EH];simp only[go_sem,undef,EI]
def AZ(I:D_)(x:Id):aW I x<I.length/\-1<=aW I x:=by
 unfold aW qX
 cases h:I.findIdx? (λy=>decide (y=x)) with
 |none=>simp;omega|some i=>
  obtain⟨h1,_⟩:=Ad.1 h;simp;omega
def CN(g:GM)(o:OpM)(up:V_):Int×V_:=if J0 g o up=false then(6,[]) else if FT g.L o (oL g up)=false then(11,[]) else(0,up)
def BA(g:GM)(o:OpM):Int×V_:=match Pu g.I o.Past with|none=>(10,[])|some a=>CN g o a
def Du(g:GM)(o:OpM):Int×V_ :=
 if 0<=aW g.I (C7 o) then(5,[])
 else if 200<=g.L.length then(3,[])
 else if(gM g.Cards o.By).2=false then(17,[])
 else if BW (gM g.Cards o.By).1.Sign o.B o.SR o.SS=false then(12,[])
 else if(o.Kind==1&&decide (0<g.L.length))=true then(1,[])
 else BA g o
def dV(g:GM)(o:OpM):Int×V_:=if jB o≠0 then(jB o,[]) else Du g o
def Dv{o:OpM}(h:jB o=0):1<=o.Seq/\1<=o.By/\o.By<=12/\0<=o.At:=by unfold jB at h;grind[fP,oI]
def Uw{cs:List CardM}{d:Int}(h:∀c∈cs,c.ok):(gM cs d).1.Sign<2^64:=by unfold gM;split;rename_i c e;exact(h c (Mg e)).2.2.2.2;decide
def aDs (g:GM) (o:OpM) (z:g.ok) (M:o.ok):aA PQ G Bk [.ag g.A,.ag o.A] [] λr T=>r=.tup [iv (dV g o).1,.own 0]/\T=[some (.arr 1 ((dV g o).2.map λn:Nat=>[iv (n:Int)]))]:=by
 apply aC Nd;have hn:=z.n;have aj:=M.past.1;simp only[go_sem];apply cX (aFq o M);simp only[go_sem];refine aL (λh=>?_) (λh=>?_);simp only[bne_iff_ne,ne_eq]at h;simp only[go_sem,dV,h];simp only[bne_eq_false_iff_eq]at h;have k1:=h;have u:dV g o=Du g o:=by grind[dV]
 unfold Du at u;clear h;simp only[go_sem];apply cX (Ut o M);simp only[go_sem];apply cX (Dt g (C7 o) z);simp only[go_sem,ge_iff_le];refine aL (λh=>?_) (λh=>?_)<;>simp only[decide_eq_true_eq,decide_eq_false_iff_not]at h;rw[u,if_pos h];simp only[go_sem];rw[if_neg h]at u;clear h;have ac:decide ((200:Int)<=(g.L.length:Int))=decide (200<=g.L.length):=p_;simp only[go_sem,aP,ge_iff_le,ac];refine aL (λh=>?_) (λh=>?_)<;>simp only[decide_eq_true_eq,decide_eq_false_iff_not]at h;rw[u,if_pos h];simp only[go_sem];rw[if_neg h]at u;clear h;simp only[go_sem];apply cX (Uv g o.By z);simp only[go_sem,CardM.A_def];cases V:(gM g.Cards o.By).2;rw[u,if_pos V];simp only[go_sem];rw[if_neg (by simp[V])]at u;have ae:=Uw (d:=o.By) z.cs;generalize(gM g.Cards o.By).1=c at *
 simp only[go_sem];apply kM (J2 o M);simp only[go_sem];apply cH (aB _) rfl rfl (Uu c.Sign o.B o.SR o.SS ae (M.nums o.SR s_) (M.nums o.SS s_) (o.B_ok M) (by have:=o.B_len M;omega));rintro r T' ⟨rfl,rfl⟩;refine⟨x_,s_,?_⟩;simp only[go_sem];cases X:BW c.Sign o.B o.SR o.SS;rw[u,if_pos X];simp only[go_sem];rw[if_neg (by simp[X])]at u;simp only[go_sem];have F:decide ((g.L.length:Int)>0)=decide (0<g.L.length):=s_;cases hK:(o.Kind==1);rotate_left
 ·simp only[go_sem,aP,F];cases h2:decide (0<g.L.length);rotate_left;rw[hK,h2,if_pos s_]at u;rw[u];simp only[go_sem];rw[hK,h2,if_neg s_]at u;clear F;have R:∀x:Id,(aW g.I x).toNat<g.L.length\/aW g.I x<0:=λx=>by have:=AZ g.I x;have:=z.i;omega
  simp only[go_sem];refine aQ o.Past.length (λi=>⟨0,[(2,.ptr 0 0),(3,.ptr 1 0),(10,.own 2),(11,iv i)],[some (.box g.A),some (.box o.A),some (.arr 1 (((o.Past.take i).map λx=>(aW g.I x).toNat).map λn:Nat=>[iv (n:Int)]))]⟩) (λi=>∀j(N:j<o.Past.length),j<i->decide (0<=aW g.I o.Past[j])=true) ?_ ao ?_ ?_;simp only[go_sem,uQ];intro i s y;have g0:(o.Past.map Id.A)[i]?=some o.Past[i].A:=aO _ o.Past i s;have ws:=fQ i o_;rw[lB s,bZ,bZ];have ad:((o.Past.take i).map λx=>(aW g.I x).toNat).length=i:=p_;simp only[go_sem,aP,aT s,g0];apply cX (Dt g o.Past[i] z);simp only[go_sem];refine aL (λh3=>?_) (λh3=>?_)<;>simp only[decide_eq_true_eq,decide_eq_false_iff_not]at h3;have hf:(o.Past.all λx=>decide (0<=aW g.I x))=false:=EG (p:=λx=>decide (0<=aW g.I x)) s (decide_eq_false o_);rw[u];simp only[go_sem,BA,Pu,hf];simp_all;intro y;have K:=Bu (p:=λx=>decide (0<=aW g.I x)) y;rw[dE];have f:dV g o=CN g o (o.Past.map λx=>(aW g.I x).toNat):=by grind[BA,Pu]
  have Q:∀k∈o.Past.map (λx=>(aW g.I x).toNat),k<g.L.length:=λk O=>m_;have D:(o.Past.map λx=>(aW g.I x).toNat).length<=1000:=h_;generalize C:(o.Past.map λx=>(aW g.I x).toNat)=a at *
  clear u K y R;rw[<-C]at D;rw[aP]at D;have W:a.length=o.Past.length:=m_;simp only[go_sem,aP,aS (bP _)];refine aQ a.length (λi=>⟨0,[(2,.ptr 0 0),(3,.ptr 1 0),(10,.own 2),(13,iv i)],[some (.box g.A),some (.box o.A),some (.arr 1 (a.map λn:Nat=>[iv (n:Int)]))]⟩) (λi=>∀j(N:j<a.length),j<i->((a.all λk=>!((g.In.getD a[j] []).getD k false))&&!decide (o.At<(g.L.getD a[j] default).At))=true) ?_ ao ?_ ?_;simp only[go_sem];grind;intro y;have H:J0 g o a=true:=Bu (p:=λi=>(a.all λk=>!((g.In.getD i []).getD k false))&&!decide (o.At<(g.L.getD i default).At)) y;rw[CN,if_neg (by simp[H])]at f;simp only[go_sem,aP,aS (bP _)];apply cH (aB _) rfl rfl (W5 g a z o_);rintro r T' ⟨rfl,rfl⟩;refine⟨x_,de,?_⟩;simp only[go_sem];apply cH (aB _) rfl rfl (ZF g o (oL g a) z M (Dv k1).1 (Cs g a));rintro r T' ⟨rfl,rfl⟩;refine⟨x_,s_,?_⟩;simp only[go_sem];cases Z:FT g.L o (oL g a);rw[if_pos Z]at f;rw[f];simp only[go_sem];rw[if_neg (by simp[Z])]at f;rw[f];simp only[go_sem]
 rw[hK,lR,if_neg s_]at u;clear F;have R:∀x:Id,(aW g.I x).toNat<g.L.length\/aW g.I x<0:=λx=>by have:=AZ g.I x;have:=z.i;omega
 simp only[go_sem,undef];refine aQ o.Past.length (λi=>⟨0,[(2,.ptr 0 0),(3,.ptr 1 0),(10,.own 2),(11,iv i)],[some (.box g.A),some (.box o.A),some (.arr 1 (((o.Past.take i).map λx=>(aW g.I x).toNat).map λn:Nat=>[iv (n:Int)]))]⟩) (λi=>∀j(N:j<o.Past.length),j<i->decide (0<=aW g.I o.Past[j])=true) ?_ ao ?_ ?_;simp only[go_sem,uQ];intro i s y;have g0:(o.Past.map Id.A)[i]?=some o.Past[i].A:=aO _ o.Past i s;have ws:=fQ i o_;rw[lB s,bZ,bZ];have ad:((o.Past.take i).map λx=>(aW g.I x).toNat).length=i:=p_;simp only[go_sem,aP,aT s,g0];apply cX (Dt g o.Past[i] z);simp only[go_sem];refine aL (λh3=>?_) (λh3=>?_)<;>simp only[decide_eq_true_eq,decide_eq_false_iff_not]at h3;have hf:(o.Past.all λx=>decide (0<=aW g.I x))=false:=EG (p:=λx=>decide (0<=aW g.I x)) s (decide_eq_false o_);rw[u];simp only[go_sem,BA,Pu,hf];have e1:AV.v (.int .i64 (aW g.I o.Past[i]))=iv (((aW g.I o.Past[i]).toNat:Nat):Int):=p_;have t:=vH (p:=λx=>decide (0<=aW g.I x)) s y (decide_eq_true o_);have aa:min i o.Past.length=i:=Kj (H9 s);simp only[go_sem,aP,eC,aa,ws,e1,(g_:i+1<=maxLen),(o_:(i+1)*8<=140737488355328)];exact t;intro y;have K:=Bu (p:=λx=>decide (0<=aW g.I x)) y;rw[dE];have f:dV g o=CN g o (o.Past.map λx=>(aW g.I x).toNat):=by grind[BA,Pu]
 have Q:∀k∈o.Past.map (λx=>(aW g.I x).toNat),k<g.L.length:=λk O=>m_;have D:(o.Past.map λx=>(aW g.I x).toNat).length<=1000:=h_;generalize C:(o.Past.map λx=>(aW g.I x).toNat)=a at *
 clear u K y R;rw[<-C]at D;rw[aP]at D;have W:a.length=o.Past.length:=m_;simp only[go_sem,aP,aS (bP _)];refine aQ a.length (λi=>⟨0,[(2,.ptr 0 0),(3,.ptr 1 0),(10,.own 2),(13,iv i)],[some (.box g.A),some (.box o.A),some (.arr 1 (a.map λn:Nat=>[iv (n:Int)]))]⟩) (λi=>∀j(N:j<a.length),j<i->((a.all λk=>!((g.In.getD a[j] []).getD k false))&&!decide (o.At<(g.L.getD a[j] default).At))=true) ?_ ao ?_ ?_;simp only[go_sem];intro i s y;have ah:=Q _ (eQ s);have gi:(a.map λn:Nat=>[iv (n:Int)])[i]?=some [iv (a[i]:Nat)]:=aO _ a i s;have ak:=z.inn;have Y:(g.In.map λl=>[wI l])[a[i]]?=some [wI (g.In.getD a[i] [])]:=h_;have ai:(g.In.getD a[i] []).length=g.L.length:=by rw[rH,jN o_];exact z.ins _ (eQ _)
 have cE:(g.L.map OpM.A)[a[i]]?=some (g.L.getD a[i] default).A:=h_;have t:=λh=>vH (p:=λi=>(a.all λk=>!((g.In.getD i []).getD k false))&&!decide (o.At<(g.L.getD i default).At)) s y h;have P:=λh=>EG (p:=λi=>(a.all λk=>!((g.In.getD i []).getD k false))&&!decide (o.At<(g.L.getD i default).At)) s h;have m:((a.all λk=>!((g.In.getD a[i] []).getD k false))&&!decide (o.At<(g.L.getD a[i] default).At))=false->dV g o=(6,[]):=λh=>by rw[f,CN,if_pos (show J0 g o a=false from P h)]
 clear P y;generalize a[i]=q at *
 generalize g.In.getD q []=w at *
 generalize g.L.getD q default=oq at *
 simp only[go_sem,aP,aT s];refine aQ a.length (λk=>⟨0,[(2,.ptr 0 0),(3,.ptr 1 0),(10,.own 2),(13,iv i),(14,iv k)],[some (.box g.A),some (.box o.A),some (.arr 1 (a.map λn:Nat=>[iv (n:Int)]))]⟩) (λk=>∀j(N:j<a.length),j<k->(λk=>!(w.getD k false)) a[j]=true) ?_ ao ?_ ?_;simp only[go_sem];intro k O U;have af:=Q _ (eQ O);have gk:(a.map λn:Nat=>[iv (n:Int)])[k]?=some [iv (a[k]:Nat)]:=aO _ a k O;have gr:(w.map λb=>[AV.v (.bool b)])[a[k]]?=some [AV.v (.bool (w.getD a[k] false))]:=h_;have E:=λh=>vH (p:=λk=>!(w.getD k false)) O U h;have J:=λh=>EG (p:=λk=>!(w.getD k false)) O h;generalize a[k]=p at *
 simp only[go_sem,aP,aT O,O,s,gi,gk,Y,gr];cases hb:w.getD p false;rw[hb]at E;simp only[go_sem,fQ k o_];exact E rfl;rw[hb]at J;rw[J rfl]at m;simp only[go_sem,m rfl];intro U;have S:=Bu (p:=λk=>!(w.getD k false)) U;rw[S]at t m;simp only[go_sem,aP,aS (bP _),s,gi,cE];cases ab:decide (o.At<oq.At);rw[ab]at t;simp only[go_sem,fQ i o_];exact t rfl;rw[ab]at m;simp only[go_sem,m rfl];intro y;have H:J0 g o a=true:=Bu (p:=λi=>(a.all λk=>!((g.In.getD i []).getD k false))&&!decide (o.At<(g.L.getD i default).At)) y;rw[CN,if_neg (by simp[H])]at f;simp only[go_sem,aP,aS (bP _)];apply cH (aB _) rfl rfl (W5 g a z o_);rintro r T' ⟨rfl,rfl⟩;refine⟨x_,de,?_⟩;simp only[go_sem];apply cH (aB _) rfl rfl (ZF g o (oL g a) z M (Dv k1).1 (Cs g a));rintro r T' ⟨rfl,rfl⟩;refine⟨x_,s_,?_⟩;simp only[go_sem];cases Z:FT g.L o (oL g a);rw[if_pos Z]at f;rw[f];simp only[go_sem];rw[if_neg (by simp[Z])]at f;rw[f];simp only[go_sem]
def addM(g:GM)(o:OpM):GM×Int :=
 if(dV g o).1≠0 then(g,(dV g o).1)
 else(⟨g.Cards,g.L++[o],g.I++[C7 o],g.Up++[(dV g o).2],(g.In.map λr=>r++[false])++[oL g (dV g o).2++[false]]⟩,0)
def Ux(g:GM)(o:OpM):(dV g o).2=[]\/(dV g o).2=o.Past.map λx=>(aW g.I x).toNat:=by grind[dV,Du,BA,CN,Pu]
def Q3(g:GM)(o:OpM):(dV g o).2.length<=o.Past.length:=by rcases Ux g o with h|h<;>simp[h]
def aFH(g:GM)(o:OpM)(b:g.ok)(a:o.ok):aA PQ G Bk [.ag g.A,.ag o.A] [] λr T=>r=.tup [iv (dV g o).1,Sa (dV g o).2]/\T=[]:=by refine(aDs g o b a).fin [0] ?_;rintro r c ⟨rfl,rfl⟩;simp only[go_sem,gQ]
def aI9(g:GM)(o:OpM)(a:g.ok)(k:o.ok):aA PQ G mA [.ag g.A,.ag o.A] [] λr T=>(r=.tup [.ag g.A,iv (addM g o).2]/\T=[]/\addM g o=(g,(addM g o).2)) \/
 (r=.tup [.ag [.ls 5 (g.Cards.map CardM.A),.own 0,.own 1,.own 2,.own 3],iv 0]/\T=[some (.arr 27 ((addM g o).1.L.map OpM.A)),some (.arr 3 ((addM g o).1.I.map Id.A)),some (.arr 1 ((addM g o).1.Up.map λl=>[Sa l])),some (.arr 1 ((addM g o).1.In.map λl=>[wI l]))]/\(addM g o).1.Cards=g.Cards/\(addM g o).2=0):=by
 apply aC SA;have H:=a.n;have D:=Q3 g o;have E:=k.past.1;simp only[go_sem];apply cX (aFH g o a k);simp only[go_sem];refine aL (λh=>?_) (λh=>?_)<;>simp only[bne_iff_ne,ne_eq,bne_eq_false_iff_eq]at h;have w:addM g o=(g,(dV g o).1):=by rw[addM,if_pos h]
 simp only[go_sem];simp_all;have w:addM g o=(⟨g.Cards,g.L++[o],g.I++[C7 o],g.Up++[(dV g o).2],(g.In.map λr=>r++[false])++[oL g (dV g o).2++[false]]⟩,0):=by grind[addM]
 rw[w];generalize(dV g o).2=d at *
 simp only[go_sem];apply kM (W5 g d a o_);have b:=Cs g d;generalize oL g d=p at *
 have C:g.L.length*328<=140737488355328:=o_;have f:g.L.length<=maxLen:=g_;have B:(g.L.length+1)*328<=140737488355328:=uR (H2 328 (o_:g.L.length+1<=1001)) d_;have e:g.L.length+1<=maxLen:=g_;have u:g.L.length*24<=140737488355328:=o_;have t:(g.L.length+1)*24<=140737488355328:=o_;have s:(g.L.length+1)*1<=140737488355328:=o_;have z:g.L.length*1<=140737488355328:=o_;simp only[go_sem,aP,a.i,C,f,B,e,u];apply and_self_iff.2;apply cX (Ut o k);simp only[go_sem,aP,a.i,a.un,f,e,u,t];refine aQ g.In.length (λi=>⟨0,[(2,.ptr 0 0),(4,.ptr 1 0),(8,.own 2),(9,.ptr 3 0),(10,iv i)],[some (.box g.A),some (.box [.v (.slice none 0 0),.v (.slice none 0 0),.v (.slice none 0 0),.v (.slice none 0 0),.v (.slice none 0 0)]),some (.arr 1 (VR p)),some (.box [.ls 5 (g.Cards.map CardM.A),.own 4,.own 5,.own 6,.own 7]),some (.arr 27 (g.L.map OpM.A++[o.A])),some (.arr 3 (g.I.map Id.A++[(C7 o).A])),some (.arr 1 ((g.Up.map λl=>[Sa l])++[[Sa d]])),some (.arr 1 ((g.In.take i).map λr=>[wI (r++[false])]))]⟩) (λ_=>True) ?_ trivial ?_ ?_;simp only[go_sem];intro i q _;have F:(g.In.map λl=>[wI l])[i]?=some [wI g.In[i]]:=aO _ g.In i q;have j:=a.ins _ (eQ q);have x:=pC (show i<(2^63-1) by have:=a.inn;omega);have m:i<g.L.length:=by have:=a.inn;omega
 have c:min i g.L.length=i:=o_;rw[lB q,bZ];generalize g.In[i]=y at *
 simp only[go_sem,aP,eC,c,aT m,a.inn,F,j,x,f,e,s,z,pQ,(o_:(i+1)*24<=140737488355328),(g_:i+1<=maxLen)];simp;intro _;rw[dE];simp only[go_sem,aP,a.inn,aS (bP _),b,e,t,s];simp
def So(g:GM)(o:OpM)(b:g.ok)(a:o.ok):aA PQ G mA [.ag g.A,.ag o.A] [] λr T=>r=.tup [.ag (addM g o).1.A,iv (addM g o).2]/\T=[]:=by refine(aI9 g o b a).fin [0,1,2,3] ?_;rintro r c (⟨rfl,rfl,h⟩|⟨rfl,rfl,h1,h2⟩);simp only[go_sem,gQ,List.getElem?_nil];rw[h];simp only[go_sem,gQ,GM.A_def,h1,h2]
def aFI {g:GM} {o:OpM} (a:g.ok) (l:o.ok) (n:g.L.length<1000) (m:(C7 o).ok):(addM g o).1.ok:=by unfold addM;split;exact a;refine⟨c_,a.cn,a.cs,?_,by simp[a.i],?_,by simp[a.un],?_,by simp[a.inn],?_⟩;intro x c;rcases cG.1 c with h|h;exact a.ops x h;simp_all;intro x c;rcases cG.1 c with h|h;exact a.is x h;simp_all;intro u f;simp only[dZ,sE,gQ];rcases cG.1 f with h|h;exact⟨(a.up u h).1,λk b=>by have:=(a.up u h).2 k b;omega⟩;rw[cA.1 h];refine⟨uR (Q3 g o) l.past.1,λk b=>?_⟩;rcases Ux g o with e|e;simp_all;rw[e]at b;obtain⟨x,_,rfl⟩:=dF.1 b;have:=AZ g.I x;have:=a.i;omega;intro r j;simp only[dZ,sE,gQ];rcases cG.1 j with h|h;obtain⟨d,h1,rfl⟩:=dF.1 h;simp[a.ins d h1];grind[Cs]
def W6{o:OpM}(a:o.ok):(C7 o).ok:=by refine⟨a.ints o.By s_,a.ints o.Seq s_,?_,?_⟩;grind[C7];simp only[C7];have:=Cr (Uj lOp o.B);omega
abbrev oC(W:List Nat):List AV:=W.map λw=>uv w
def Kz(W V:V_):V_:=List.zipWith (λa b=>a ||| b) W V
def Py(W:V_)(n:Nat):V_:=W.set (n/64) (W.getD (n/64) 0 ||| 2^(n%64))
def qK(W:V_)(n:Nat):Bool:=(W.getD (n/64) 0).testBit (n%64)
def Hu(W:V_):Prop:=W.length=4/\∀w∈W,w<2^64
def Uy(a b:Nat)(d:a<2^64)(c:b<2^64):bV .or (.int .u64 (a:Int)) (.int .u64 (b:Int))=some (.int .u64 ((a ||| b:Nat):Int)):=by
 have e:a ||| b<2^64:=TX (n:=64) d c;have h1:(BitVec.ofInt IntKind.u64.bits (a:Int) ||| BitVec.ofInt IntKind.u64.bits (b:Int)).toNat=a ||| b:=by
  have ea:(BitVec.ofInt 64 (a:Int)).toNat=a:=h_;have f:(BitVec.ofInt 64 (b:Int)).toNat=b:=h_;show(BitVec.ofInt 64 (a:Int) ||| BitVec.ofInt 64 (b:Int)).toNat=a ||| b;grind
 simp only[bV,if_true,h1];rw[bS _ o_]
def J5(a b:Nat)(e:a<2^64)(d:b<2^64):bV .and (.int .u64 (a:Int)) (.int .u64 (b:Int))=some (.int .u64 ((a &&& b:Nat):Int)):=by
 have c:a &&& b<=a:=aBW;have h1:(BitVec.ofInt IntKind.u64.bits (a:Int) &&& BitVec.ofInt IntKind.u64.bits (b:Int)).toNat=a &&& b:=by
  have ea:(BitVec.ofInt 64 (a:Int)).toNat=a:=h_;have f:(BitVec.ofInt 64 (b:Int)).toNat=b:=h_;show(BitVec.ofInt 64 (a:Int) &&& BitVec.ofInt 64 (b:Int)).toNat=a &&& b;grind
 simp only[bV,if_true,h1];rw[bS _ o_]
def J6(x m:Nat)(h:m≠0)(b:x<=2^63-1):bV .quo (.int .i64 (x:Int)) (.int .i64 (m:Int))=some (.int .i64 ((x/m:Nat):Int)):=by
 have h0:¬((m:Int)=0):=o_;have e:(x:Int).tdiv (m:Int)=((x/m:Nat):Int):=rfl;have:x/m<=x:=Ml x m;have h3:((x/m:Nat):Int)<=(2^63-1):=o_;have a:(-9223372036854775808:Int)<=((x/m:Nat):Int):=m_;simp only[bV,if_true,h0,if_false,e];rw[aJ a h3]
def J7(x m:Nat)(h:m≠0):bV .rem (.int .i64 (x:Int)) (.int .i64 (m:Int))=some (.int .i64 ((x%m:Nat):Int)):=by grind[bV]
def W7(k:Nat)(h:k<64):bV .shl (.int .u64 1) (.int .i64 (k:Int))=some (.int .u64 ((2^k:Nat):Int)):=by
 have h0:¬((k:Int)<0):=o_;have a:min k 64=k:=o_;have h2:(2:Nat)^k<2^64:=CV (aBN d_ h) d_;have e:(1:Int)*2^(min (k:Int).toNat IntKind.u64.bits)=((2^k:Nat):Int):=by rw[nI,show IntKind.u64.bits=64 from rfl,a,Int.one_mul];exact(Int.natCast_pow 2 k).symm
 simp only[bV,h0,if_false,e];rw[bS _ o_]
def Q4(x k:Nat)(h:k<64)(b:x<2^64):bV .shr (.int .u64 (x:Int)) (.int .i64 (k:Int))=some (.int .u64 ((x/2^k:Nat):Int)):=by
 have h0:¬((k:Int)<0):=o_;have a:min k 64=k:=o_;have e:(x:Int).fdiv (2^(min (k:Int).toNat IntKind.u64.bits))=((x/2^k:Nat):Int):=by rw[nI,show IntKind.u64.bits=64 from rfl,a,show((2:Int)^k)=((2^k:Nat):Int) from(Int.natCast_pow 2 k).symm,Int.fdiv_eq_ediv_of_nonneg _ (Int.natCast_nonneg _)];rfl
 grind[bV]
def aDt(W V:V_)(c:V.length=W.length)(i:Nat)(h:i<W.length):(Kz W V).take (i+1)++W.drop (i+1)=((Kz W V).take i++W.drop i).set i (W.getD i 0 ||| V.getD i 0):=by
 have b:(Kz W V).length=W.length:=by grind[Kz,List.length_zipWith]
 have a:((Kz W V).take i).length=i:=p_;have e:(Kz W V)[i]'o_=W.getD i 0 ||| V.getD i 0:=by grind[Kz]
 rw[lB o_,eB,e,Kc h,aBL _ _ o_,a,YN];rfl
def Sp{W V:V_}(b:Hu W)(c:Hu V):Hu (Kz W V):=by refine⟨by unfold Kz;rw[aGC,b.1,c.1];rfl,λw a=>?_⟩;unfold Kz at a;obtain⟨i,d,rfl⟩:=CU a;rw[aJg];exact TX (n:=64) (b.2 _ (eQ _)) (c.2 _ (eQ _))
def AJ{W:V_}(a:Hu W)(i:Nat):W.getD i 0<2^64:=by rw[rH];rcases eD i W.length with h|h;rw[jN h];exact a.2 _ (eQ h);simp_all
def ZG{W:V_}(a:Hu W)(n:Nat):Hu (Py W n):=by refine⟨by unfold Py;rw[cL,a.1],λw b=>?_⟩;unfold Py at b;rcases aGK b with h|h;exact a.2 w h;rw[h];exact TX (n:=64) (AJ a _) (aBN d_ (zM _ d_))
def K0(x k:Nat):((((x/2^k &&& 1:Nat):Int))==1)=x.testBit k:=m_
def Dw(W:V_)(i:Nat)(h:i<W.length):(oC W)[i]?=some (uv (W.getD i 0)):=h_
def aAP(W:V_)(n:Nat)(c:Hu W)(o:n<256):aA PQ G yN [.ptr 0 0,iv n] [some (.box (oC W))] λr T=>T=[some (.box (oC (Py W n)))]:=by
 apply aC HV;have f:bV .quo (.int .i64 (n:Int)) (.int .i64 64)=some (.int .i64 ((n/64:Nat):Int)):=J6 n 64 d_ o_;have q2:bV .rem (.int .i64 (n:Int)) (.int .i64 64)=some (.int .i64 ((n%64:Nat):Int)):=J7 n 64 d_;have d:n%64<64:=zM _ d_;have k:n/64<4:=o_;have e:=W7 (n%64) d;have h2:(2:Nat)^(n%64)<2^64:=CV (aBN d_ d) d_;have i:=Uy (W.getD (n/64) 0) (2^(n%64)) (AJ c _) h2;have l:=Dw W (n/64) (by rw[c.1];exact k);have j:=c.1;have h:(0:Int)<=((n/64:Nat):Int):=o_;have g:((n/64:Nat):Int)<4:=o_;have m:(oC W).take (n/64)++[uv (W.getD (n/64) 0 ||| 2^(n%64))]++(oC W).drop (n/64+1)=oC (Py W n):=by show _=(W.set (n/64) (W.getD (n/64) 0 ||| 2^(n%64))).map λw=>uv w;grind[List.map_set,List.set_eq_take_append_cons_drop,List.append_assoc]
 generalize n/64=a at *
 generalize n%64=b at *
 simp only[go_sem,↓f,↓q2,↓e,aP,j,h,g,(o_:a<=3),l,↓i,Bb,pQ,m]
def aFJ{α:Type}(a m post:List α)(i:Nat)(x:α)(h:i<m.length):(a++(m++post)).take (a.length+i)++[x]++(a++(m++post)).drop (a.length+i+1)=a++(m.set i x++post):=by rw[aGH,show a.length+i+1=a.length+(i+1) from rfl,X3,Rf o_,aGG o_,aGB,if_pos h];simp
def Sq{α:Type}(a m post:List α)(i:Nat)(h:i<m.length):(a++(m++post))[a.length+i]?=m[i]?:=m_
def K1(a post:O_)(p:Nat)(j:a.length=p)(W V:V_)(k:Hu W)(l:Hu V)(h1:iZ a=[])(h2:iZ post=[]):aA PQ G nM [.ptr 0 p,.ag (oC V)] [some (.box (a++(oC W++post)))] λr T=>T=[some (.box (a++(oC (Kz W V)++post)))]:=by
 apply aC Gc;have y:=k.1;have t:=l.1;have f:(oC V).all gS=true:=by simp[oC,gS]
 have b:∀X:V_,iZ (oC X)=[]:=λX=>Qj _ X;have d:∀(L:V_)(X:V_),xF L (a++(oC X++post))=a++(oC X++post):=λL X=>yM (by simp only[Ig,h1,h2,b,jO]);have c:∀X:V_,iZ (a++(oC X++post))=[]:=λX=>by simp only[Ig,h1,h2,b,jO]
 have e:∀(L:V_),xF L (oC V)=oC V:=λL=>yM (b V);have u:(Kz W V).length=4:=by grind[Kz,List.length_zipWith]
 simp only[go_sem,f];refine aQ 4 (λi=>⟨1,[(0,.ptr 0 p),(3,.ptr 1 0),(5,iv i)],[some (.box (a++(oC ((Kz W V).take i++W.drop i)++post))),some (.box (oC V))]⟩) (λ_=>True) ?_ trivial ?_ ?_;simp only[go_sem,↓c,↓b,↓d,↓e,uQ];intro i z _;have o:=fQ i o_;have A:((Kz W V).take i++W.drop i).length=4:=p_;have w:((Kz W V).take i++W.drop i).getD i 0=W.getD i 0:=m_;rw[aDt W V o_ i o_];have q:=Uy (W.getD i 0) (V.getD i 0) (AJ k _) (AJ l _);have v:=Dw V i o_;generalize(Kz W V).take i++W.drop i=X at *
 have m:=Dw X i o_;rw[w]at m;have n:=Sq a (oC X) post i M_;rw[m,j]at n;have h:=aFJ a (oC X) post i (uv (W.getD i 0 ||| V.getD i 0)) M_;rw[j]at h;have x:(oC X).set i (uv (W.getD i 0 ||| V.getD i 0))=oC (X.set i (W.getD i 0 ||| V.getD i 0)):=s_;rw[x]at h;have B:decide ((i:Int)<4)=true:=decide_eq_true o_;have s:(i:Int)<4:=o_;have g:p+i+1<=a.length+(X.length+post.length):=o_;simp only[go_sem,s,Bb,pQ,n,v,↓q,g,h,o,↓c,↓b,↓d,↓e];intro _;rw[sG o_,LB o_,jO];simp only[go_sem,↓c,↓d]
def W8(W V:V_)(a:Hu W)(b:Hu V):aA PQ G nM [.ptr 0 0,.ag (oC V)] [some (.box (oC W))] λr T=>T=[some (.box (oC (Kz W V)))]:=by have:=K1 (G:=G) [] [] 0 rfl W V a b rfl rfl;simpa using this
def aAQ(c post:O_)(p:Nat)(s:c.length=p)(W:V_)(n:Nat)(g:Hu W)(w:n<256)(h1:iZ c=[])(h2:iZ post=[]):aA PQ G pE [.ptr 0 p,iv n] [some (.box (c++(oC W++post)))] λr T=>r=.v (.bool (qK W n))/\T=[some (.box (c++(oC W++post)))]:=by
 apply aC Ar;have m:bV .quo (.int .i64 (n:Int)) (.int .i64 64)=some (.int .i64 ((n/64:Nat):Int)):=J6 n 64 d_ o_;have q2:bV .rem (.int .i64 (n:Int)) (.int .i64 64)=some (.int .i64 ((n%64:Nat):Int)):=J7 n 64 d_;have t:n%64<64:=zM _ d_;have j:n/64<4:=o_;have h:=AJ g (n/64);have l:=Q4 (W.getD (n/64) 0) (n%64) t h;have u:bV .and (.int .u64 ((W.getD (n/64) 0/2^(n%64):Nat):Int)) (.int .u64 1)=some (.int .u64 ((W.getD (n/64) 0/2^(n%64) &&& 1:Nat):Int)):=J5 _ 1 (QJ (Ml _ _) h) d_;have t1:=K0 (W.getD (n/64) 0) (n%64);have k:=Sq c (oC W) post (n/64) (by rw[aP,g.1];exact j);rw[Dw W (n/64) (by rw[g.1];exact j),s]at k;have q:(0:Int)<=((n/64:Nat):Int):=o_;have o:((n/64:Nat):Int)<4:=o_;have d:∀X:V_,iZ (oC X)=[]:=λX=>Qj _ X;have f:∀(L:V_)(X:V_),xF L (c++(oC X++post))=c++(oC X++post):=λL X=>yM (by simp only[Ig,h1,h2,d,jO]);have e:∀X:V_,iZ (c++(oC X++post))=[]:=λX=>by simp only[Ig,h1,h2,d,jO]
 have i:qK W n=(W.getD (n/64) 0).testBit (n%64):=rfl;rw[i,<-t1];clear t1 i;generalize n/64=a at *
 generalize n%64=b at *
 simp only[go_sem,↓m,↓q2,↓l,↓u,q,o,k,Bb,pQ,↓e,↓f]
structure ND where
 o:OpM
 id:Id
 W:List Nat
 lv:Int
def ND.A(n:ND):O_:=n.o.A++(n.id.A++(oC n.W++[iv n.lv]))
structure PGM where
 cards:List CardM
 nodes:List ND
def PGM.I(g:PGM):D_:=g.nodes.map (·.id)
def MG(I:D_):AObj:=.map true (I.map Id.K) ((List.range I.length).map λi:Nat=>iv (i:Int)) (List.range I.length) I.length
def TG(k:Nat)(g:PGM):aK:=[some (.box [.ls 5 (g.cards.map CardM.A),.mp (k+1),.own (k+2)]),some (MG g.I),some (.arr 35 (g.nodes.map ND.A))]
def AL(x:Id):LF true [.int .i64,.int .i64,.int .u64] (.ag x.A)=some x.K:=Y_
@[go_sem] def aJ4(x:Id):G6 x.A=some x.K:=Y_
@[go_sem] def aNx(x:Id):rJ [.int .i64,.int .i64,.int .u64] x.K x.K=some true:=by simp[Id.K,rJ]
def qH(x:Id):∀(I:D_)(i:Nat),eR [.int .i64,.int .i64,.int .u64] x.K (I.map Id.K) i=some ((I.findIdx? λy=>decide (y=x)).map (· + i))
 |[],_=>rfl
 | y::I,i=>by
  simp only[fG,eR,Id.K,rJ,and_self,if_true,yH,List.findIdx?_cons];have:=qH x I (i+1);simp only[Id.K]at this;have e:(x.a==y.a&&(x.b==y.b&&x.c==y.c))=decide (y=x):=by rw[Id.beq];rw[CT];simp[eq_comm]
  by_cases h:y=x;subst h;simp;have h2:decide (y=x)=false:=decide_eq_false h;rw[h2]at e⊢;simp only[e,this,jJ,if_false]
  cases I.findIdx? (λy=>decide (y=x)) with
  |none=>rfl
  |some j=>simp;omega
def yC(n j:Nat)(h:j<n):((List.range n).map λi:Nat=>iv (i:Int))[j]?=some (iv (j:Int)):=by simp[h]
def eG{I:D_}{x:Id}(h:x∉I):I.findIdx? (λy=>decide (y=x))=none:=m_
def dG{I:D_}{x:Id}(h:x∈I):∃j,I.findIdx? (λy=>decide (y=x))=some j/\j<I.length/\∃a:j<I.length,I[j]=x:=by
 cases e:I.findIdx? (λy=>decide (y=x)) with
 |none=>exact absurd (Md.1 e x h) s_|some j=>
  obtain⟨h1,h2,_⟩:=Ad.1 e;simp_all
def ZI(g:PGM)(d:Int)(m:g.cards.length<=1000):aA PQ G oQ [.ptr 0 0,iv d] (TG 0 g) λr T=>r=.tup [.ag (gM g.cards d).1.A,.v (.bool (gM g.cards d).2)]/\T=TG 0 g:=by
 apply aC EO;simp only[go_sem,TG,MG,aP];refine aQ g.cards.length (λi=>⟨3,[(1,iv d),(4,.ptr 3 0),(11,.ls 5 (g.cards.map CardM.A)),(12,iv g.cards.length),(13,iv i)],[some (.box [.ls 5 (g.cards.map CardM.A),.mp 1,.own 2]),some (MG g.I),some (.arr 35 (g.nodes.map ND.A)),some (.box [iv 0,iv 0,AV.v (.int .u64 0),AV.v (.int .u64 0),AV.v (.int .u64 0)])]⟩) (λi=>∀j(a:j<g.cards.length),j<i->(g.cards[j].Device==d)=false) ?_ W_ ?_ ?_;simp only[go_sem,MG];intro i b f;have l:(g.cards.map CardM.A)[i]?=some [iv g.cards[i].Device,iv g.cards[i].Member,uv g.cards[i].Lead,uv g.cards[i].Keep,uv g.cards[i].Sign]:=aO _ g.cards i b;simp only[go_sem,MG,aT b,l];refine aL (λh=>?_) (λh=>?_)<;>simp only[go_sem,MG,fQ i o_];have e:g.cards.find? (λc=>c.Device==d)=some g.cards[i]:=aBG.2 ⟨h,i,b,rfl,λj a=>by simp[f j o_ a]⟩;simp only[gM,e,CardM.A_def];grind;intro f;have e:g.cards.find? (λc=>c.Device==d)=none:=Eb.2 λx k=>by obtain⟨j,a,rfl⟩:=CU k;simp[f j a a]
 simp only[go_sem,MG,aS (bP _),gM,e,CardM.A_def];rfl
def Q5(g:PGM)(x:Id):aA PQ G dX [.ag x.A,.ptr 0 0] (some (.box [.ptr 1 0])::TG 1 g) λr T=>r=.v (.bool (decide (x∈g.I)))/\T=some (.box [.ptr 1 0])::TG 1 g:=by refine aC CL ?_;have d:=AL x;have a:=qH x g.I 0;by_cases b:x∈g.I;obtain⟨j,h1,h2,_⟩:=dG b;rw[h1]at a;have c:=yC g.I.length j h2;simp only[iX,mG]at a;simp only[go_sem,TG,MG,a,c,decide_eq_true b];rw[eG b]at a;simp only[xD]at a;simp only[go_sem,TG,MG,a,decide_eq_false b]
abbrev kl(d:Nat->Id)(l:List Nat):List (List AV):=l.map λn=>(d n).A
def cv(f:Nat):AV:=.bm f 1 [.ag [.ptr 1 0]]
def aM(g:PGM)(d:Nat->Id)(l:V_):aK:=some (.arr 3 (kl d l))::TG 1 g
def XA(a b:Nat):Int:=if a<b then -1 else if b<a then 1 else 0
def pY(a b:Nat):decide (XA a b<0)=decide ((a:Int)<(b:Int)):=by unfold XA;simp_all;omega
def VL(N:Nat)(l:V_):Prop:=∀x∈l,x<N
def VL.pr{N a b:Nat}{l c:V_}(f:PR a b l c)(e:VL N l):VL N c:=λx d=>e x (f.2.2.mem_iff.1 d)
def VL.get{N:Nat}{l:V_}(a:VL N l){i:Nat}(h:i<l.length):l.getD i 0<N:=by rw[rH,jN h];exact a _ (eQ h)
def bL(d:Nat->Id)(l:V_)(i:Nat)(h:i<l.length):(l.map λn=>(d n).A)[i]?=some (d (l.getD i 0)).A:=h_
def kT(d:Nat->Id)(l:V_)(i j:Nat):((l.map λn=>(d n).A).set i (d (l.getD j 0)).A).set j (d (l.getD i 0)).A=(iO l i j).map λn=>(d n).A:=by simp only[iO,Ba]
def vK(d:Nat->Id)(l:V_)(i j:Nat)(x:Id)(a:j<l.length):∃y:Id,((l.map λn=>(d n).A).set i x.A)[j]?=some y.A:=by rw[Hx];split;exact⟨x,by rw[if_pos M_]⟩;exact⟨_,bL d l j a⟩
@[go_sem] def Id.dr3(x:Id):x.A.drop 3=[]:=fI rfl rfl
def Id.okA0(b:Bool)(x:Id):x.A.all (PO b)=true:=by cases b<;>simp[Id.A,gS,PO,aX]
@[go_sem] def Id.okA(b:Bool)(x:Id):x.A.all (PO b)=true:=Id.okA0 b x
abbrev Gz(g:PGM)(d:Nat->Id)(K:AV->List Nat->Prop):AV->aK->Prop:=λr b=>∃a,K r a/\b=aM g d a
section
variable{g:PGM}{d:Nat->Id}{f N:Nat}
def rF(G:L_)(g:PGM)(d:Nat->Id)(f N:Nat):Prop:=∀a b,a<N->b<N->aA PQ G f [.ag [.ptr 0 0],.ag (d a).A,.ag (d b).A] (TG 0 g) λr T=>r=iv (XA a b)/\T=TG 0 g
def jU(i:rF G g d f N){a b:Nat}(h:a<N)(e:b<N){es:N_}{K:AV->aK->Prop}(c:K (iv (XA a b)) (some (.arr 3 es)::TG 1 g)):
 @pB PQ G f [.ag [.ptr 1 0],.ag (d a).A,.ag (d b).A] (some (.arr 3 es)::TG 1 g) ⟨K⟩:=by
 apply aG [1,2,3] (aB _) d_ (by simp[TG]) i_ y_ (i a b h e);rintro r j ⟨rfl,rfl⟩;simp only[go_sem,TG,MG]at c⊢;exact c
def aAR(j:rF G g d f N){a b:Nat}(i:a<N)(h:b<N){es:N_}{c:Int}{K:AV->aK->Prop}(e:K (iv (XA a b)) (some (.arr 3 es)::(TG 1 g++[some (.box [iv c])]))):
 @pB PQ G f [.ag [.ptr 1 0],.ag (d a).A,.ag (d b).A] (some (.arr 3 es)::(TG 1 g++[some (.box [iv c])])) ⟨K⟩:=by
 apply aG [1,2,3] (aB _) d_ (by simp[TG]) i_ y_ (j a b i h);rintro r k ⟨rfl,rfl⟩;simp only[go_sem,TG,MG]at e⊢;exact e
end
section
variable{g:PGM}{d:Nat->Id}{f N:Nat}
def aKd (O:rF G g d f N) (l:V_) (A:VL N l) (a b:Nat) (M:a<=b) (S:b<=l.length) (R:l.length<=1000000000):
 aA PQ G eK [.own 0,iv a,iv b,cv f] (aM g d l) (Gz g d λ_ o=>PR a b l o/\SR a b o):=by
 apply aC oU;have F:IntKind.i64.wrap ((a:Int)+1)=((a+1:Nat):Int):=pC o_;simp only[go_sem,aM,TG,MG,cv,F];refine cO (λn s=>∃(i:Nat)(o:V_),n=b-i/\a<i/\i<=max b (a+1)/\PR a b l o/\SR a i o/\s=⟨4,[(0,.own 0),(1,iv a),(2,iv b),(3,cv f),(8,iv i)],(aM g d o)⟩) (b-(a+1))
  ⟨a+1,l,rfl,o_,o_,PR.refl a b l,SR.small o_,j_⟩ ?_
 rintro n s ⟨i,z,Q,L,J,r,B,rfl⟩;have I:=r.1;by_cases C:i<b;simp only[go_sem,aM,TG,MG,cv,aT C];refine cO (λm s=>∃(l2:V_),a<=m/\m<=i/\PR a b l l2/\(∀p q,a<=p->p<q->q<=i->q≠m->l2.getD p 0<=l2.getD q 0)/\s=⟨4,[(0,.own 0),(1,iv a),(2,iv b),(3,cv f),(8,iv i),(9,iv m)],(aM g d l2)⟩) i
  ⟨z,o_,cN _,r,Ir B,j_⟩ ?_
 rintro j s ⟨l2,K,k,c,e,rfl⟩;have H:=c.1;have x:=fQ i o_;by_cases t:a<j;have w1:IntKind.i64.wrap ((j:Int)-1)=((j-1:Nat):Int):=a_;have E:=bL d l2 j o_;have D:=bL d l2 (j-1) o_;have w:decide ((j:Int)>(a:Int))=true:=J_;simp only[go_sem,aM,TG,MG,cv,w,aP,(o_:j<l2.length),(o_:j-1<l2.length),w1,E,D];apply jU O (VL.get (VL.pr c A) o_) (VL.get (VL.pr c A) o_);simp only[go_sem,TG,MG,pY];refine aL (λu=>?_) (λu=>?_);have h:l2.getD j 0<l2.getD (j-1) 0:=by simpa using u
 obtain⟨y,P⟩:=vK d l2 j (j-1) (d (l2.getD (j-1) 0)) o_;simp only[go_sem,aM,TG,MG,cv,aP,cL,(o_:j<l2.length),(o_:j-1<l2.length),w1,E,D,P,kT];exact⟨j-1,o_,iO l2 j (j-1),o_,o_,c.trans (gW o_ o_ o_ o_ o_),N8 o_ t k e h,rfl⟩;have h:l2.getD (j-1) 0<=l2.getD j 0:=by simpa using u
 simp only[go_sem,aM,TG,MG,cv,x];exact⟨b-(i+1),o_,i+1,l2,rfl,o_,o_,c,Ax k e (.inr h),rfl⟩;have w:decide ((j:Int)>(a:Int))=false:=J_;simp only[go_sem,aM,TG,MG,cv,w,x];exact⟨b-(i+1),o_,i+1,l2,rfl,o_,o_,c,Ax k e (.inl o_),rfl⟩;simp only[go_sem,aM,TG,MG,cv,aS C];exact⟨z,⟨r,λp q h1 h2 h3=>B p q h1 h2 o_⟩,rfl⟩
def aDw (x:rF G g d f N) (l:V_) (m:VL N l) (lo h o:Nat) (J:HP o (lo+1) h l) (C:lo<=1000000000) (P:o+h<=l.length) (O:l.length<=1000000000):
 aA PQ G dR [.own 0,iv lo,iv h,iv o,cv f] (aM g d l) (Gz g d λ_ u=>PR (o+lo) (o+h) l u/\HP o lo h u):=by
 apply aC rT;simp only[go_sem,aM,TG,MG,cv];refine cO (λn s=>∃(r:Nat)(u:V_),n=h-r/\lo<=r/\r<=1000000000/\PR (o+lo) (o+h) l u/\HQ o lo h r u/\s=⟨4,[(0,.own 0),(2,iv h),(3,iv o),(4,cv f),(10,iv r)],(aM g d u)⟩) (h-lo)
  ⟨lo,l,rfl,cN _,C,PR.refl _ _ l,aFm J,j_⟩ ?_
 rintro n s ⟨r,a,M,B,H,i,t,rfl⟩;have I:=i.1;have w1:IntKind.i64.wrap (2*(r:Int))=((2*r:Nat):Int):=a_;have w2:=pC (o_:2*r<2^63-1);simp only[go_sem,aM,TG,MG,cv,w1,w2];by_cases D:h<=2*r+1;simp only[go_sem,aGY D];exact⟨a,⟨i,ME t λc h1 h2=>o_⟩,rfl⟩;simp only[go_sem,aGZ (H8 D)];have w3:=pC (o_:2*r+1<2^63-1);have F:IntKind.i64.wrap ((o:Int)+((2*r+1:Nat):Int))=((o+(2*r+1):Nat):Int):=a_;have E:=pC (o_:o+(2*r+1)<2^63-1);have L:=bL d a (o+(2*r+1)) o_;by_cases h2:2*r+1+1<h;have K:=bL d a (o+(2*r+1)+1) o_;simp only[go_sem,aP,aT h2,w3,F,E,(o_:o+(2*r+1)<a.length),(o_:o+(2*r+1)+1<a.length),L,K];apply jU x (VL.get (VL.pr i m) o_) (VL.get (VL.pr i m) o_);simp only[go_sem,TG,MG,pY];refine aL (λA=>?_) (λA=>?_);have z:a.getD (o+(2*r+1)) 0<a.getD (o+(2*r+1)+1) 0:=by simpa using A
 have b:∀c,(c=2*r+1\/c=2*r+2)->c<h->a.getD (o+c) 0<=a.getD (o+(2*r+1+1)) 0:=m_;simp only[go_sem,w3];have q:=bL d a (o+r) o_;have p:=bL d a (o+(2*r+1+1)) o_;have k:IntKind.i64.wrap ((o:Int)+(r:Int))=((o+r:Nat):Int):=a_;have v2:IntKind.i64.wrap ((o:Int)+(((2*r+1+1):Nat):Int))=((o+(2*r+1+1):Nat):Int):=m_;simp only[go_sem,aP,k,v2,(o_:o+r<a.length),(o_:o+(2*r+1+1)<a.length),q,p];apply jU x (VL.get (VL.pr i m) o_) (VL.get (VL.pr i m) o_);simp only[go_sem,TG,MG,pY];refine aL (λj=>?_) (λj=>?_);have e:a.getD (o+(2*r+1+1)) 0<=a.getD (o+r) 0:=sf;simp only[go_sem];exact⟨a,⟨i,ME t λc h1 h2=>uR (b c h1 h2) e⟩,rfl⟩;have e:a.getD (o+r) 0<a.getD (o+(2*r+1+1)) 0:=sf;obtain⟨y,w⟩:=vK d a (o+r) (o+(2*r+1+1)) (d (a.getD (o+(2*r+1+1)) 0)) o_;simp only[go_sem,aM,TG,MG,cv,aP,cL,k,v2,(o_:o+r<a.length),(o_:o+(2*r+1+1)<a.length),q,p,w,kT];exact⟨h-((2*r+1+1)),o_,(2*r+1+1),_,rfl,o_,o_,i.trans (gW o_ o_ o_ o_ o_),ST t B o_ o_ o_ b e,rfl⟩;have z:a.getD (o+(2*r+1)+1) 0<=a.getD (o+(2*r+1)) 0:=by simpa using A
 have b:∀c,(c=2*r+1\/c=2*r+2)->c<h->a.getD (o+c) 0<=a.getD (o+(2*r+1)) 0:=p_;simp only[go_sem];have q:=bL d a (o+r) o_;have p:=bL d a (o+(2*r+1)) o_;have k:IntKind.i64.wrap ((o:Int)+(r:Int))=((o+r:Nat):Int):=a_;have v2:IntKind.i64.wrap ((o:Int)+(((2*r+1):Nat):Int))=((o+(2*r+1):Nat):Int):=o_;simp only[go_sem,aP,k,v2,(o_:o+r<a.length),(o_:o+(2*r+1)<a.length),q,p];apply jU x (VL.get (VL.pr i m) o_) (VL.get (VL.pr i m) o_);simp only[go_sem,TG,MG,pY];refine aL (λj=>?_) (λj=>?_);have e:a.getD (o+(2*r+1)) 0<=a.getD (o+r) 0:=sf;simp only[go_sem];exact⟨a,⟨i,ME t λc h1 h2=>uR (b c h1 h2) e⟩,rfl⟩;have e:a.getD (o+r) 0<a.getD (o+(2*r+1)) 0:=sf;obtain⟨y,w⟩:=vK d a (o+r) (o+(2*r+1)) (d (a.getD (o+(2*r+1)) 0)) o_;simp only[go_sem,aM,TG,MG,cv,aP,cL,k,v2,(o_:o+r<a.length),(o_:o+(2*r+1)<a.length),q,p,w,kT];exact⟨h-((2*r+1)),o_,(2*r+1),_,rfl,o_,o_,i.trans (gW o_ o_ o_ o_ o_),ST t B o_ o_ o_ b e,rfl⟩;have b:∀c,(c=2*r+1\/c=2*r+2)->c<h->a.getD (o+c) 0<=a.getD (o+(2*r+1)) 0:=p_;simp only[go_sem,w3,aS h2];have q:=bL d a (o+r) o_;have p:=bL d a (o+(2*r+1)) o_;have k:IntKind.i64.wrap ((o:Int)+(r:Int))=((o+r:Nat):Int):=a_;have v2:IntKind.i64.wrap ((o:Int)+(((2*r+1):Nat):Int))=((o+(2*r+1):Nat):Int):=o_;simp only[go_sem,aP,k,v2,(o_:o+r<a.length),(o_:o+(2*r+1)<a.length),q,p];apply jU x (VL.get (VL.pr i m) o_) (VL.get (VL.pr i m) o_);simp only[go_sem,TG,MG,pY];refine aL (λj=>?_) (λj=>?_);have e:a.getD (o+(2*r+1)) 0<=a.getD (o+r) 0:=sf;simp only[go_sem];exact⟨a,⟨i,ME t λc h1 h2=>uR (b c h1 h2) e⟩,rfl⟩;have e:a.getD (o+r) 0<a.getD (o+(2*r+1)) 0:=sf;obtain⟨y,w⟩:=vK d a (o+r) (o+(2*r+1)) (d (a.getD (o+(2*r+1)) 0)) o_;simp only[go_sem,aM,TG,MG,cv,aP,cL,k,v2,(o_:o+r<a.length),(o_:o+(2*r+1)<a.length),q,p,w,kT];exact⟨h-((2*r+1)),o_,(2*r+1),_,rfl,o_,o_,i.trans (gW o_ o_ o_ o_ o_),ST t B o_ o_ o_ b e,rfl⟩
end
section
variable{g:PGM}{d:Nat->Id}{f N:Nat}
def aIa(F:rF G g d f N)(l:V_)(D:VL N l)(a b:Nat)(L:a<b)(S:b<=l.length)(R:l.length<=1000000000):
 aA PQ G gO [.own 0,iv a,iv b,cv f] (aM g d l) (Gz g d λ_ e=>PR a b l e/\SR a b e):=by
 apply aC rS;have w1:IntKind.i64.wrap ((b:Int)-(a:Int))=((b-a:Nat):Int):=a_;have w2:IntKind.i64.wrap (((b-a:Nat):Int)-1)=((b-a-1:Nat):Int):=a_;simp only[go_sem,aM,TG,MG,cv,w1,w2,aNw (b-a-1) o_];refine cO (λk s=>∃e:V_,k<=b-a/\PR a b l e/\HP a k (b-a) e/\s=⟨4,[(0,.own 0),(3,cv f),(8,iv a),(9,iv 0),(10,iv ((b-a:Nat):Int)),(11,iv ((k:Int)-1))],(aM g d e)⟩) ((b-a-1)/2+1)
  ⟨l,o_,PR.refl a b l,λp c h1 h2 h3=>o_,?_⟩ ?_
 simp only[go_sem,aM,TG,MG,cv,(o_:(((b-a-1)/2+1:Nat):Int)-1=(((b-a-1)/2:Nat):Int))];rintro k s ⟨C,K,u,E,rfl⟩;have J:=u.1
 cases k with
 | zero=>
  have w3:IntKind.i64.wrap (((b-a:Nat):Int)-1)=((b-a-1:Nat):Int):=w2;simp only[go_sem,aM,TG,MG,cv,(d_:decide ((-1:Int)>=0)=false),w3];refine cO (λk s=>∃e:V_,k<=b-a/\PR a b l e/\HP a 0 k e/\HS a b k e/\s=⟨4,[(0,.own 0),(3,cv f),(8,iv a),(9,iv 0),(12,iv ((k:Int)-1))],(aM g d e)⟩) (b-a)
   ⟨C,cN _,u,E,⟨SR.small o_,λp q h1 h2 h3 T=>o_⟩,?_⟩ ?_
  simp only[go_sem,aM,TG,MG,cv,(o_:((b-a:Nat):Int)-1=((b-a-1:Nat):Int))];rintro k s ⟨i,K,j,B,t,rfl⟩;have I:=j.1
  cases k with
  |zero=>
   simp only[go_sem,aM,TG,MG,cv,(d_:decide ((-1:Int)>=0)=false)];exact⟨i,⟨j,t.1⟩,rfl⟩
  |succ k=>
   have m:((k+1:Nat):Int)-1=(k:Int):=o_;have P:=bL d i a o_;have O:=bL d i (a+k) o_;obtain⟨y,M⟩:=vK d i a (a+k) (d (i.getD (a+k) 0)) o_;have H:IntKind.i64.wrap ((a:Int)+(k:Int))=((a+k:Nat):Int):=a_;have w:IntKind.i64.wrap ((k:Int)-1)=(k:Int)-1:=aJ o_ o_;obtain⟨z,x⟩:=aFs o_ o_ B t;have o:PR a b i (iO i a (a+k)):=gW o_ o_ o_ o_ o_;simp only[go_sem,aM,TG,MG,cv,m,aP,cL,H,(o_:a<i.length),(o_:a+k<i.length),P,O,M,kT];apply aG [0,1,2,3] (aB _) d_ U_ f_ u_ (aDw F (iO i a (a+k)) (VL.pr (j.trans o) D) 0 k a z o_ (by rw[GD];omega) (by rw[GD];omega));rintro r Q ⟨A,⟨h,n⟩,rfl⟩;simp only[go_sem,aM,TG,MG,cv,w];rw[mG]at h;exact⟨k,Nat.lt_succ_self k,A,o_,(j.trans o).trans (h.wide (cN _) o_),n,aJW (by rw[GD];omega) x h,rfl⟩
 |succ k=>
  have m:((k+1:Nat):Int)-1=(k:Int):=o_;have w:IntKind.i64.wrap ((k:Int)-1)=(k:Int)-1:=aJ o_ o_;simp only[go_sem,aM,TG,MG,cv,m];apply aG [0,1,2,3] (aB _) d_ U_ f_ u_ (aDw F C (VL.pr u D) k (b-a) a E o_ o_ o_);rintro r Q ⟨A,⟨h,n⟩,rfl⟩;simp only[go_sem,aM,TG,MG,cv,w];exact⟨k,Nat.lt_succ_self k,A,o_,u.trans (h.wide o_ o_),n,rfl⟩
end
section
variable{g:PGM}{d:Nat->Id}{f N:Nat}
def Q6(C:rF G g d f N)(l:V_)(u:VL N l)(a b:Nat)(p:a<b)(B:b<=l.length)(x:l.length<=1000000000):
 aA PQ G fB [.own 0,iv a,iv b,cv f] (aM g d l) (Gz g d λ_ h=>PR a b l h):=by
 apply aC pK;have w1:IntKind.i64.wrap ((b:Int)-1)=((b-1:Nat):Int):=a_;simp only[go_sem,aM,TG,MG,cv,w1];refine cO (λn s=>∃(i j:Nat)(h:V_),n=j+1-i/\a<=i/\j<b/\i<=b/\PR a b l h/\s=⟨4,[(0,.own 0),(8,iv i),(9,iv j)],(aM g d h)⟩) (b-a)
  ⟨a,b-1,l,o_,cN _,o_,o_,PR.refl a b l,u_⟩ ?_
 rintro n s ⟨i,j,c,w,A,z,o,k,rfl⟩;have m:=k.1;by_cases e:i<j;have t:=bL d c i o_;have r:=bL d c j o_;obtain⟨y,q⟩:=vK d c i j (d (c.getD j 0)) o_;have w2:IntKind.i64.wrap ((j:Int)-1)=((j-1:Nat):Int):=a_;simp only[go_sem,aM,TG,MG,aT e,aP,cL,(o_:i<c.length),(o_:j<c.length),t,r,q,kT,fQ i o_,w2];exact⟨(j-1)+1-(i+1),o_,i+1,j-1,_,rfl,o_,o_,o_,k.trans (gW o_ o_ o_ o_ o_),rfl⟩;simp only[go_sem,aM,TG,MG,aS e];exact⟨c,k,rfl⟩
def OY(k:rF G g d f N)(l:V_)(i:VL N l)(a b:Nat)(c:Int)(h:a<l.length)(e:b<l.length):
 aA PQ G cY [.own 0,iv a,iv b,.ptr 4 0,cv f] (aM g d l++[some (.box [iv c])]) λr p=>∃(x y:Nat)(o:Int),((x=a/\y=b)\/(x=b/\y=a))/\r=.tup [iv x,iv y]/\p=(aM g d l++[some (.box [iv o])]):=by
 apply aC tI;have n:=bL d l a h;have m:=bL d l b e;simp only[go_sem,aM,TG,MG,cv,aP,h,e,n,m];apply aAR k (a:=l.getD b 0) (b:=l.getD a 0) (VL.get i e) (VL.get i h);simp only[go_sem,TG,MG,pY];refine aL (λj=>?_) (λj=>?_);simp only[go_sem];exact⟨b,a,_,.inr ⟨rfl,rfl⟩,rfl,rfl⟩;simp only[go_sem];exact⟨a,b,c,.inl ⟨rfl,rfl⟩,rfl,rfl⟩
def OZ(j:rF G g d f N)(l:V_)(i:VL N l)(a b e:Nat)(c:Int)(p:a<l.length)(o:b<l.length)(n:e<l.length):
 aA PQ G eF [.own 0,iv a,iv b,iv e,.ptr 4 0,cv f] (aM g d l++[some (.box [iv c])]) λr h=>∃(x:Nat)(q:Int),(x=a\/x=b\/x=e)/\r=iv x/\h=(aM g d l++[some (.box [iv q])]):=by
 apply aC tH;simp only[go_sem,aM,TG,MG,cv];apply aG [0,1,2,3,4] (aB _) d_ U_ f_ u_ (OY j l (i) a b c p o);rintro r h ⟨x,y,c1,h1,rfl,rfl⟩;simp only[go_sem,aM,TG,MG];apply aG [0,1,2,3,4] (aB _) d_ U_ f_ u_ (OY j l (i) y e c1 o_ n);rintro r h ⟨m,s,c2,h2,rfl,rfl⟩;simp only[go_sem,aM,TG,MG];apply aG [0,1,2,3,4] (aB _) d_ U_ f_ u_ (OY j l (i) x m c2 o_ o_);rintro r h ⟨t,k,c3,h3,rfl,rfl⟩;simp only[go_sem,aM,TG,MG];exact⟨k,c3,o_,rfl,rfl⟩
def J9(i:rF G g d f N)(l:V_)(e:VL N l)(a:Nat)(c:Int)(h0:0<a)(h:a+1<l.length)(k:l.length<=1000000000):
 aA PQ G bW [.own 0,iv a,.ptr 4 0,cv f] (aM g d l++[some (.box [iv c])]) λr b=>∃(x:Nat)(j:Int),(x=a-1\/x=a\/x=a+1)/\r=iv x/\b=(aM g d l++[some (.box [iv j])]):=by
 apply aC oG;have w1:IntKind.i64.wrap ((a:Int)-1)=((a-1:Nat):Int):=a_;simp only[go_sem,aM,TG,MG,cv,w1,fQ a o_];apply aG [0,1,2,3,4] (aB _) d_ U_ f_ u_ (OZ i l e (a-1) a (a+1) c o_ o_ h);rintro r b ⟨x,c1,h1,rfl,rfl⟩;simp only[go_sem,aM,TG,MG];exact⟨x,c1,h1,rfl,rfl⟩
def Uz(k:rF G g d f N)(l:V_)(j:VL N l)(a b:Nat)(E:a+12<b)(L:b<=l.length)(t:l.length<=1000000000):
 aA PQ G fK [.own 0,iv a,iv b,cv f] (aM g d l) λr i=>∃(p:Nat)(h:Int),a<=p/\p<b/\r=.tup [iv p,iv h]/\i=(aM g d l):=by
 apply aC pW;have w1:IntKind.i64.wrap ((b:Int)-(a:Int))=((b-a:Nat):Int):=a_;generalize D:(b-a)/4=q;have C:IntKind.i64.wrap ((q:Int)*1)=(q:Int):=a_;have B:IntKind.i64.wrap ((q:Int)*2)=((q*2:Nat):Int):=a_;have A:IntKind.i64.wrap ((q:Int)*3)=((q*3:Nat):Int):=a_;have z:IntKind.i64.wrap ((a:Int)+(q:Int))=((a+q:Nat):Int):=a_;have y:IntKind.i64.wrap ((a:Int)+((q*2:Nat):Int))=((a+q*2:Nat):Int):=a_;have w:IntKind.i64.wrap ((a:Int)+((q*3:Nat):Int))=((a+q*3:Nat):Int):=a_;simp only[go_sem,aM,TG,MG,cv,w1,aFr (b-a) o_,D,C,B,A,z,y,w,show decide (((b-a:Nat):Int)>=8)=true from decide_eq_true o_];by_cases F:50<=b-a;simp only[go_sem,show decide (((b-a:Nat):Int)>=50)=true from decide_eq_true o_];apply aG [0,1,2,3,4] (aB _) d_ U_ f_ u_ (J9 k l (j) (a+q) 0 o_ o_ t);rintro r i ⟨o,c1,h1,rfl,rfl⟩;have K:a<=o/\o<b:=o_;clear h1;simp only[go_sem,aM,TG,MG];apply aG [0,1,2,3,4] (aB _) d_ U_ f_ u_ (J9 k l (j) (a+q*2) c1 o_ o_ t);rintro r i ⟨n,c2,h2,rfl,rfl⟩;have J:a<=n/\n<b:=o_;clear h2;simp only[go_sem,aM,TG,MG];apply aG [0,1,2,3,4] (aB _) d_ U_ f_ u_ (J9 k l (j) (a+q*3) c2 o_ o_ t);rintro r i ⟨m,c3,h3,rfl,rfl⟩;have I:a<=m/\m<b:=o_;clear h3;simp only[go_sem,aM,TG,MG];apply aG [0,1,2,3,4] (aB _) d_ U_ f_ u_ (OZ k l (j) o n m c3 o_ o_ o_);rintro r i ⟨x,H,u,rfl,rfl⟩;have c:a<=x/\x<b:=o_;clear u;simp only[go_sem,aM,TG,MG];refine aL (λs=>?_) (λs=>?_);simp only[go_sem];exact⟨x,1,c.1,c.2,rfl⟩;simp only[go_sem];refine aL (λe=>?_) (λe=>?_);simp only[go_sem];exact⟨x,2,c.1,c.2,rfl⟩;simp only[go_sem];exact⟨x,0,c.1,c.2,rfl⟩;simp only[go_sem,show decide (((b-a:Nat):Int)>=50)=false from decide_eq_false o_];apply aG [0,1,2,3,4] (aB _) d_ U_ f_ u_ (OZ k l (j) (a+q) (a+q*2) (a+q*3) 0 o_ o_ o_);rintro r i ⟨x,H,u,rfl,rfl⟩;have c:a<=x/\x<b:=o_;clear u;simp only[go_sem,aM,TG,MG];refine aL (λs=>?_) (λs=>?_);simp only[go_sem];exact⟨x,1,c.1,c.2,rfl⟩;simp only[go_sem];refine aL (λe=>?_) (λe=>?_);simp only[go_sem];exact⟨x,2,c.1,c.2,rfl⟩;simp only[go_sem];exact⟨x,0,c.1,c.2,rfl⟩
def aFL(hC:rF G g d f N)(l:V_)(U:VL N l)(a b:Nat)(R:a+12<b)(Z:b<=l.length)(X:l.length<=60000):
 aA PQ G eM [.own 0,iv a,iv b,cv f] (aM g d l) (Gz g d λ_ k=>PR a b l k):=by
 apply aC oV;have w1:IntKind.i64.wrap ((b:Int)-(a:Int))=((b-a:Nat):Int):=a_;generalize A:(b-a)/4=q;have x:IntKind.i64.wrap ((q:Int)*2)=((q*2:Nat):Int):=a_;have w:IntKind.i64.wrap ((a:Int)+((q*2:Nat):Int))=((a+q*2:Nat):Int):=a_;have K:IntKind.i64.wrap (((a+q*2:Nat):Int)-1)=((a+q*2-1:Nat):Int):=a_;have H:IntKind.i64.wrap (((a+q*2:Nat):Int)+1)=((a+q*2+1:Nat):Int):=pC o_;simp only[go_sem,aM,TG,MG,cv,w1,show decide (((b-a:Nat):Int)>=8)=true from decide_eq_true o_];apply Jo (aAC (b-a) o_ o_);rintro r S ⟨⟨m,rfl,M,L⟩,rfl⟩;simp only[go_sem,aFr (b-a) o_,A,x,w,K];refine cO (λn s=>∃(i:Nat)(k:V_)(z:Int),n=a+q*2+2-i/\a<=i/\i<=a+q*2+2/\PR a b l k/\s=⟨4,[(0,.own 0),(1,iv a),(8,iv ((b-a:Nat):Int)),(9,.ptr 4 0),(10,.v (.int .u64 (m:Int))),(11,iv i)],(aM g d k++[some (.box [.v (.int .u64 z)])])⟩) 3
  ⟨a+q*2-1,l,IntKind.u64.wrap ((b-a:Nat):Int),o_,o_,o_,PR.refl a b l,u_⟩ ?_
 rintro n s ⟨i,c,z,W,Q,Y,p,rfl⟩;have O:=p.1;by_cases h:i<=a+q*2+1;simp only[go_sem,aM,TG,MG,aFr (b-a) o_,A,x,w,H,N9 h];apply aG [4] (aB _) d_ s_ i_ i_ (aHY z);rintro r S ⟨t,rfl,rfl⟩;have T:IntKind.u64.wrap ((m:Int)-1)=((m-1:Nat):Int):=by rw[(o_:(m:Int)-1=((m-1:Nat):Int)),bS _ o_]
 obtain⟨o,V,B⟩:=Wq t (m-1) o_;have J:bV .sub (.int .u64 (m:Int)) (.int .u64 1)=some (.int .u64 ((m-1:Nat):Int)):=Ws m 1 o_ o_;have v2:=Ib (o_:o<=2^63-1);simp only[↓J,↓B,go_sem,v2];by_cases e:b-a<=o;have I:IntKind.i64.wrap ((o:Int)-((b-a:Nat):Int))=((o-(b-a):Nat):Int):=a_;simp only[go_sem,aGY e,I];have u:IntKind.i64.wrap ((a:Int)+((o-(b-a):Nat):Int))=((a+(o-(b-a)):Nat):Int):=a_;have P:a+(o-(b-a))<b:=o_;have C:a<=a+(o-(b-a)):=o_;generalize a+(o-(b-a))=j at *
 have F:=bL d c i o_;have E:=bL d c j o_;obtain⟨y,D⟩:=vK d c i j (d (c.getD j 0)) o_;simp only[go_sem,aM,TG,MG,u,aP,cL,(o_:i<c.length),(o_:j<c.length),F,E,D,kT,fQ i o_];exact⟨a+q*2+2-(i+1),o_,i+1,_,t,rfl,o_,o_,p.trans (gW o_ o_ o_ o_ o_),rfl⟩;simp only[go_sem,aGZ (H8 e)];have u:IntKind.i64.wrap ((a:Int)+(o:Int))=((a+o:Nat):Int):=a_;have P:a+o<b:=o_;have C:a<=a+o:=o_;generalize a+o=j at *
 have F:=bL d c i o_;have E:=bL d c j o_;obtain⟨y,D⟩:=vK d c i j (d (c.getD j 0)) o_;simp only[go_sem,aM,TG,MG,u,aP,cL,(o_:i<c.length),(o_:j<c.length),F,E,D,kT,fQ i o_];exact⟨a+q*2+2-(i+1),o_,i+1,_,t,rfl,o_,o_,p.trans (gW o_ o_ o_ o_ o_),rfl⟩;simp only[go_sem,aM,TG,MG,aFr (b-a) o_,A,x,w,H,OA (H8 h)];exact⟨c,p,rfl⟩
end
section
variable{g:PGM}{d:Nat->Id}{f N:Nat}
def aDx (V:rF G g d f N) (l:V_) (H:VL N l) (a b p:Nat) (ad:a<=p) (aa:p<b) (hb:b<=l.length) (hl:l.length<=1000000000):
 aA PQ G dL [.own 0,iv a,iv b,iv p,cv f] (aM g d l) (Gz g d λr l'=>∃(j:Nat)(f:Bool),r=.tup [iv j,.v (.bool f)]/\PR a b l l'/\aZ9 a b j l'):=by
 apply aC rC;have g1:=bL d l a o_;have g2:=bL d l p o_;obtain⟨y,g3⟩:=vK d l a p (d (l.getD p 0)) o_;have w1:IntKind.i64.wrap ((b:Int)-1)=((b-1:Nat):Int):=a_;simp only[go_sem,aM,TG,MG,cv,aP,cL,(o_:a<l.length),(o_:p<l.length),g1,g2,g3,kT,w1,fQ a o_];have o:PR a b l (iO l a p):=gW o_ o_ o_ o_ o_;generalize iO l a p=e at o;have ac:=o.1;clear g1 g2 g3;have R:=bL d e a o_;refine jG (λs=>∃i:Nat,(a+1)<=i/\Pt a b i (b-1) e/\((b-1)<i\/e.getD a 0<=e.getD i 0)/\s=⟨4,[(0,.own 0),(1,iv a),(4,cv f),(12,iv i),(13,iv (((b-1):Nat):Int))],(aM g d e)⟩) ?_ ?_;refine cO (λn s=>∃i:Nat,n=b+1-i/\(a+1)<=i/\Pt a b i (b-1) e/\s=⟨4,[(0,.own 0),(1,iv a),(4,cv f),(12,iv i),(13,iv (((b-1):Nat):Int))],(aM g d e)⟩) (b+1-(a+1))
  ⟨(a+1),rfl,cN _,⟨o_,o_,o_,o_,λk F E=>o_,λk F E=>o_⟩,j_⟩ ?_
 rintro n s ⟨i,U,x,c,rfl⟩;obtain⟨T,S,M,L,D,C⟩:=id c;by_cases h:i<=(b-1);have Z:=bL d e i o_;simp only[go_sem,aM,TG,MG,cv,N9 h,aP,(o_:a<e.length),(o_:i<e.length),R,Z];apply jU V (VL.get (VL.pr o H) o_) (VL.get (VL.pr o H) o_);simp only[go_sem,TG,MG,pY];refine aL (λt=>?_) (λt=>?_);have m:e.getD i 0<e.getD a 0:=J_;simp only[go_sem,aM,TG,MG,cv,fQ i o_];refine⟨b+1-(i+1),o_,i+1,rfl,o_,⟨o_,o_,M,L,λk F E=>?_,C⟩,rfl⟩;grind;have m:e.getD a 0<=e.getD i 0:=J_;simp only[go_sem,aM,TG,MG,cv];grind;simp only[go_sem,aM,TG,MG,cv,OA (H8 h)];grind;rintro s ⟨i,x,c,Q,rfl⟩;simp only[go_sem,aM,TG,MG,cv];refine jG (λs=>∃j:Nat,j<=(b-1)/\Pt a b i j e/\(j<i\/e.getD j 0<e.getD a 0)/\s=⟨4,[(0,.own 0),(1,iv a),(4,cv f),(12,iv i),(13,iv j)],(aM g d e)⟩) ?_ ?_;refine cO (λn s=>∃j:Nat,n=j/\j<=(b-1)/\Pt a b i j e/\s=⟨4,[(0,.own 0),(1,iv a),(4,cv f),(12,iv i),(13,iv j)],(aM g d e)⟩) ((b-1))
  ⟨(b-1),rfl,cN _,c,j_⟩ ?_
 rintro n s ⟨j,U,w,c,rfl⟩;obtain⟨T,S,M,L,D,C⟩:=id c;by_cases h:i<=j;have Y:=bL d e j o_;have I:IntKind.i64.wrap ((j:Int)-1)=((j-1:Nat):Int):=a_;simp only[go_sem,aM,TG,MG,cv,N9 h,aP,(o_:a<e.length),(o_:j<e.length),R,Y];apply jU V (VL.get (VL.pr o H) o_) (VL.get (VL.pr o H) o_);simp only[go_sem,TG,MG,pY];refine aL (λt=>?_) (λt=>?_);have m:e.getD a 0<=e.getD j 0:=J_;simp only[go_sem,aM,TG,MG,cv,I];refine⟨j-1,o_,j-1,rfl,o_,⟨o_,o_,o_,o_,D,λk F E=>?_⟩,rfl⟩;grind;have m:e.getD j 0<e.getD a 0:=J_;simp only[go_sem,aM,TG,MG,cv];grind;simp only[go_sem,aM,TG,MG,cv,OA (H8 h)];grind;rintro s ⟨j,w,c,P,rfl⟩;simp only[go_sem,aM,TG,MG,cv];by_cases h:j<i;skip;have K:=bL d e j ae;obtain⟨W,J⟩:=vK d e j a (d (e.getD a 0)) o_;simp only[go_sem,aCT h,aP,cL,(o_:a<e.length),(ae:j<e.length),R,K,J,kT];have F:=c.2.2.1;have E:=c.2.2.2.1;exact⟨_,⟨j,true,rfl,o.trans (gW o_ o_ o_ o_ o_),aD7 o_ c h⟩,rfl⟩;skip;obtain⟨T,S,M,L,D,C⟩:=id c;have A:e.getD a 0<=e.getD i 0:=Q.resolve_left o_;have z:e.getD j 0<e.getD a 0:=P.resolve_left h;have O:=Y4 o_ c o_ A z;have K:=bL d e i o_;have q2:=bL d e j o_;obtain⟨W,J⟩:=vK d e i j (d (e.getD j 0)) o_;have I:IntKind.i64.wrap ((j:Int)-1)=((j-1:Nat):Int):=a_;simp only[go_sem,aCU (YO h),aP,cL,(o_:i<e.length),(o_:j<e.length),K,q2,J,kT,I,fQ i o_];have u:PR a b e (iO e i j):=gW o_ o_ o_ o_ o_;refine cO (λn s=>∃(i j:Nat)(l2:V_),n=j+1-i/\PR a b l l2/\Pt a b i j l2/\s=⟨4,[(0,.own 0),(1,iv a),(4,cv f),(12,iv i),(13,iv j)],(aM g d l2)⟩) (j-1+1-(i+1))
  ⟨i+1,j-1,_,rfl,o.trans u,O.2,j_⟩ ?_
 rintro n s ⟨i0,B,l2,U,q,c,rfl⟩;have ab:=q.1;have R:=bL d l2 a o_;simp only[go_sem,aM,TG,MG,cv];refine jG (λs=>∃i:Nat,i0<=i/\Pt a b i B l2/\(B<i\/l2.getD a 0<=l2.getD i 0)/\s=⟨4,[(0,.own 0),(1,iv a),(4,cv f),(12,iv i),(13,iv B)],(aM g d l2)⟩) ?_ ?_;refine cO (λn s=>∃i:Nat,n=b+1-i/\i0<=i/\Pt a b i B l2/\s=⟨4,[(0,.own 0),(1,iv a),(4,cv f),(12,iv i),(13,iv B)],(aM g d l2)⟩) (b+1-i0)
  ⟨i0,rfl,cN _,c,j_⟩ ?_
 rintro n s ⟨i,U,x,c,rfl⟩;obtain⟨T,S,M,L,D,C⟩:=id c;by_cases h:i<=B;have Z:=bL d l2 i o_;simp only[go_sem,aM,TG,MG,cv,N9 h,aP,(o_:a<l2.length),(o_:i<l2.length),R,Z];apply jU V (VL.get (VL.pr q H) o_) (VL.get (VL.pr q H) o_);simp only[go_sem,TG,MG,pY];refine aL (λt=>?_) (λt=>?_);have m:l2.getD i 0<l2.getD a 0:=J_;simp only[go_sem,aM,TG,MG,cv,fQ i o_];refine⟨b+1-(i+1),o_,i+1,rfl,o_,⟨o_,o_,M,L,λk F E=>?_,C⟩,rfl⟩;by_cases X:k=i;subst X;omega;exact D k F o_;have m:l2.getD a 0<=l2.getD i 0:=J_;simp only[go_sem,aM,TG,MG,cv];exact⟨i,x,c,.inr m,rfl⟩;simp only[go_sem,aM,TG,MG,cv,OA (H8 h)];exact⟨i,x,c,.inl o_,rfl⟩;rintro s ⟨i,x,c,Q,rfl⟩;simp only[go_sem,aM,TG,MG,cv];refine jG (λs=>∃j:Nat,j<=B/\Pt a b i j l2/\(j<i\/l2.getD j 0<l2.getD a 0)/\s=⟨4,[(0,.own 0),(1,iv a),(4,cv f),(12,iv i),(13,iv j)],(aM g d l2)⟩) ?_ ?_;refine cO (λn s=>∃j:Nat,n=j/\j<=B/\Pt a b i j l2/\s=⟨4,[(0,.own 0),(1,iv a),(4,cv f),(12,iv i),(13,iv j)],(aM g d l2)⟩) (B)
  ⟨B,rfl,cN _,c,j_⟩ ?_
 rintro n s ⟨j,U,w,c,rfl⟩;obtain⟨T,S,M,L,D,C⟩:=id c;by_cases h:i<=j;have Y:=bL d l2 j o_;have I:IntKind.i64.wrap ((j:Int)-1)=((j-1:Nat):Int):=a_;simp only[go_sem,aM,TG,MG,cv,N9 h,aP,(o_:a<l2.length),(o_:j<l2.length),R,Y];apply jU V (VL.get (VL.pr q H) o_) (VL.get (VL.pr q H) o_);simp only[go_sem,TG,MG,pY];refine aL (λt=>?_) (λt=>?_);have m:l2.getD a 0<=l2.getD j 0:=J_;simp only[go_sem,aM,TG,MG,cv,I];refine⟨j-1,o_,j-1,rfl,o_,⟨o_,o_,o_,o_,D,λk F E=>?_⟩,rfl⟩;by_cases X:k=j;subst X;exact m;exact C k o_ E;have m:l2.getD j 0<l2.getD a 0:=J_;simp only[go_sem,aM,TG,MG,cv];exact⟨j,w,c,.inr m,rfl⟩;simp only[go_sem,aM,TG,MG,cv,OA (H8 h)];exact⟨j,w,c,.inl o_,rfl⟩;rintro s ⟨j,w,c,P,rfl⟩;simp only[go_sem,aM,TG,MG,cv];by_cases h:j<i;skip;have K:=bL d l2 j ae;obtain⟨W,J⟩:=vK d l2 j a (d (l2.getD a 0)) o_;simp only[go_sem,aCT h,aP,cL,(o_:a<l2.length),(ae:j<l2.length),R,K,J,kT];have F:=c.2.2.1;have E:=c.2.2.2.1;exact⟨_,⟨j,false,rfl,q.trans (gW o_ o_ o_ o_ o_),aD7 o_ c h⟩,rfl⟩;skip;obtain⟨T,S,M,L,D,C⟩:=id c;have A:l2.getD a 0<=l2.getD i 0:=Q.resolve_left o_;have z:l2.getD j 0<l2.getD a 0:=P.resolve_left h;have O:=Y4 o_ c o_ A z;have K:=bL d l2 i o_;have q2:=bL d l2 j o_;obtain⟨W,J⟩:=vK d l2 i j (d (l2.getD j 0)) o_;have I:IntKind.i64.wrap ((j:Int)-1)=((j-1:Nat):Int):=a_;simp only[go_sem,aM,TG,MG,cv,aCU (YO h),aP,cL,(o_:i<l2.length),(o_:j<l2.length),K,q2,J,kT,I,fQ i o_];have u:PR a b l2 (iO l2 i j):=gW o_ o_ o_ o_ o_;exact⟨j-1+1-(i+1),o_,i+1,j-1,_,rfl,q.trans u,O.2,rfl⟩
end
end Hud
