import Derived.Test.YtdichbeaekjibaaGreatDoorLib28
set_option linter.all false
set_option maxHeartbeats 40000000
namespace Hud
open Go
variable{G:L_}
def aQQ(o:OpM):aA PQ G aMx [.ag o.A] [] λr T=>r=iv ((byO o).getD 0)/\T=[]:=by refine aC aOx ?_;unfold byO;cases h1:o.Kind==1;cases h2:o.Kind==2;cases h3:o.Kind==13;simp only[go_sem,h1,h2,h3,undef,Bool.or_self];rfl;simp only[go_sem,h1,h2,h3,undef,Ed];rfl;simp only[go_sem,h1,h2,undef,EI];rfl;simp only[go_sem,h1,undef];rfl
def aH5(l:D_)(d s:Int):Nat:=l.countP λx=>x.a==d&&x.b==s
def aKs(l:D_)(d:Int)(out:Int)(x:Id):Int:=if((x.a==d&&decide (1<aH5 l d x.b))&&(out==0||decide (x.b<out)))=true then x.b else out
def aLO(l:D_)(d:Int):Int:=l.foldl (aKs l d) 0
def aE5(l:D_)(x:Id):Bool:=decide (0<aLO l x.a)&&decide (aLO l x.a<=x.b)
def aLZ(g:GM)(out:B_)(x:Id):B_:=if(decide (0<(byO (g.L.getD (aW g.I x).toNat default)).getD 0)&&!decide ((byO (g.L.getD (aW g.I x).toNat default)).getD 0∈out))=true then out++[(byO (g.L.getD (aW g.I x).toNat default)).getD 0] else out
def aQR(l:D_)(d s:Int)(m:l.length<=100000):aA PQ G aLN [ids l,iv d,iv s] [] λr T=>r=iv (aH5 l d s:Nat)/\T=[]:=by
 apply aC aNG;simp only[go_sem];refine aQ l.length (λi=>⟨0,[(0,ids l),(1,iv d),(2,iv s),(7,iv (aH5 (l.take i) d s:Nat)),(8,iv i)],[]⟩) (λ_=>True) ?_ trivial ?_ ?_;simp only[go_sem,uQ,aH5,List.countP_nil];intro i e _;have g:=fQ i o_;have f:(l.map Id.A)[i]?=some l[i].A:=aO _ l i e;have k:aH5 (l.take i) d s<=i:=by have:=List.countP_le_length (p:=λx:Id=>x.a==d&&x.b==s) (l:=l.take i);rw[eC]at this;unfold aH5;omega
 have j:aH5 (l.take (i+1)) d s=aH5 (l.take i) d s+if(l[i].a==d&&l[i].b==s)=true then 1 else 0:=by unfold aH5;rw[lB e,List.countP_append,List.countP_singleton]
 rw[j];generalize aH5 (l.take i) d s=c at *
 have h:=fQ c o_;generalize l[i]=x at *
 simp only[Id.A_def]at f;cases c1:x.a==d;rw[lR,if_neg d_,mG];simp only[go_sem,aP,aT e,e,f,c1,g,undef];cases c2:x.b==s;rw[Ea,if_neg d_,mG];simp only[go_sem,aP,aT e,e,f,c1,c2,g];rw[yH,if_pos rfl];simp only[go_sem,aP,aT e,e,f,c1,c2,g,h];intro _;simp only[go_sem,aP,aS (bP _),dE]
def aPt(l:D_)(d:Int)(k:l.length<=100000):aA PQ G aK7 [ids l,iv d] [] λr T=>r=iv (aLO l d)/\T=[]:=by
 apply aC aMC;simp only[go_sem];refine aQ l.length (λi=>⟨0,[(0,ids l),(1,iv d),(5,iv ((l.take i).foldl (aKs l d) 0)),(6,iv i)],[]⟩) (λ_=>True) ?_ trivial ?_ ?_;simp only[go_sem,uQ,Kk];intro i e _;have g:=fQ i o_;have f:(l.map Id.A)[i]?=some l[i].A:=aO _ l i e;have h:=aQR (G:=G) l d l[i].b k;rw[lB e,Hy,CW,Kk];generalize(l.take i).foldl (aKs l d) 0=out at *
 unfold aKs;have j:decide ((1:Int)<((aH5 l d l[i].b:Nat):Int))=decide (1<aH5 l d l[i].b):=decide_eq_decide.2 o_;generalize aH5 l d l[i].b=c at *
 generalize l[i]=x at *
 simp only[Id.A_def]at f;rcases(show(x.a==d)=false\/((x.a==d)=true/\decide (1<c)=false)\/((x.a==d)=true/\decide (1<c)=true/\(out==0)=true)\/((x.a==d)=true/\decide (1<c)=true/\(out==0)=false/\decide (x.b<out)=false)\/((x.a==d)=true/\decide (1<c)=true/\(out==0)=false/\decide (x.b<out)=true) by cases x.a==d<;>cases decide (1<c)<;>cases out==0<;>cases decide (x.b<out)<;>simp) with h1|⟨h1,h2⟩|⟨h1,h2,h3⟩|⟨h1,h2,h3,h4⟩|⟨h1,h2,h3,h4⟩
 rw[h1,lR,lR,if_neg d_];simp only[go_sem,aP,aT e,e,f];apply cX h;simp only[go_sem,aP,e,f,h1,g,undef];rw[h1,h2,Ea,lR,if_neg d_];simp only[go_sem,aP,aT e,e,f];apply cX h;simp only[go_sem,aP,e,f,h1,gt_iff_lt,j,h2,g,undef];rw[h1,h2,h3,yH,mF,EI,if_pos rfl];simp only[go_sem,aP,aT e,e,f];apply cX h;simp only[go_sem,aP,e,f,h1,gt_iff_lt,j,h2,h3,g,undef];rw[h1,h2,h3,h4,yH,mF,EH,if_neg d_];simp only[go_sem,aP,aT e,e,f];apply cX h;simp only[go_sem,aP,e,f,h1,gt_iff_lt,j,h2,h3,h4,g];rw[h1,h2,h3,h4,yH,mF,EH,if_pos rfl];simp only[go_sem,aP,aT e,e,f];apply cX h;simp only[go_sem,aP,e,f,h1,gt_iff_lt,j,h2,h3,h4,g];intro _;simp only[go_sem,aP,aS (bP _),dE];rfl
def aPU (l:D_) (k:l.length<=100000):aA PQ G aLM [ids l] [] λr T=>r=ids (jI (l.filter (aE5 l)))/\T=[]:=by
 refine aA.fin (p:=λr T=>r=.own 0/\T=[some (.arr 3 ((jI (l.filter (aE5 l))).map Id.A))]) (aC aNI ?_) [0] ?_;rotate_left;rintro r m ⟨rfl,rfl⟩;simp only[go_sem,gQ];simp only[go_sem];refine aQ l.length (λi=>⟨0,[(0,ids l),(3,.own 0),(4,iv i)],[some (.arr 3 (((l.take i).filter (aE5 l)).map Id.A))]⟩) (λ_=>True) ?_ trivial ?_ ?_;simp only[go_sem,uQ,List.filter_nil,uP];intro i c _;have f:=fQ i o_;have d:(l.map Id.A)[i]?=some l[i].A:=aO _ l i c;have g:=aPt (G:=G) l l[i].a k;have j:((l.take i).filter (aE5 l)).length<=i:=by have:=List.length_filter_le (aE5 l) (l.take i);rw[eC]at this;omega
 rw[lB c,Mf];have ev:aE5 l l[i]=(decide (0<aLO l l[i].a)&&decide (aLO l l[i].a<=l[i].b)):=rfl;generalize(l.take i).filter (aE5 l)=L at *
 generalize aLO l l[i].a=n at *
 generalize l[i]=x at *
 simp only[Id.A_def]at d;cases c1:decide (0<n);have e:[x].filter (aE5 l)=[]:=by simp[ev,c1]
 rw[e];simp only[go_sem,aP,aT c,c,d];apply cX g;simp only[go_sem,aP,c,d,gt_iff_lt,c1,f,undef,jO];cases c2:decide (n<=x.b);have e:[x].filter (aE5 l)=[]:=by simp[ev,c1,c2]
 rw[e];simp only[go_sem,aP,aT c,c,d];apply cX g;simp only[go_sem,aP,c,d,gt_iff_lt,ge_iff_le,c1,c2,f,jO];have e:[x].filter (aE5 l)=[x]:=by simp[ev,c1,c2]
 rw[e,bZ];simp only[go_sem,aP,aT c,c,d];apply cX g;simp only[go_sem,aP,c,d,gt_iff_lt,ge_iff_le,c1,c2,f,Id.A_def,(o_:(L.length+1)*24<=140737488355328),(g_:L.length+1<=maxLen)];intro _;have h:=AD (G:=G) (l.filter (aE5 l)) (by have:=List.length_filter_le (aE5 l) l;omega);simp only[go_sem,aP,aS (bP _),dE];generalize l.filter (aE5 l)=L at *
 apply cH (args2:=[ids L]) (aB _) rfl rfl h;rintro r m ⟨rfl,rfl⟩;refine⟨z_,sy,?_⟩;simp only[go_sem]
def aOK (g:GM) (t:g.ok) (l ol:D_) (z:aA PQ G aES [.ag g.A,ids l] [] λr T=>r=ids ol/\T=[]) (y:ol.length<=1000) (B:∀x∈ol,x∈g.I):
 aA PQ G aGf [.ag g.A,ids l] [] λr T=>r=rG (ol.foldl (aLZ g) [])/\T=[]:=by
 refine aA.fin (p:=λr T=>r=.own 0/\T=[some (.arr 1 ((ol.foldl (aLZ g) []).map λn=>[iv n]))]) (aC aM6 ?_) [0] ?_;rotate_left;rintro r H ⟨rfl,rfl⟩;simp only[go_sem,gQ];simp only[go_sem];apply cX z;simp only[go_sem];refine aQ ol.length (λi=>⟨0,[(2,.ptr 0 0),(5,ids ol),(6,.own 1),(7,iv i)],[some (.box g.A),some (.arr 1 (((ol.take i).foldl (aLZ g) []).map λn=>[iv n]))]⟩) (λ_=>True) ?_ trivial ?_ ?_;simp only[go_sem,uQ,Kk,uP];intro i a _;have j:=fQ i o_;have h:(ol.map Id.A)[i]?=some ol[i].A:=aO _ ol i a;have w:=B _ (eQ a);have f:=aNU (G:=G) g ol[i] t;obtain⟨q,e,v,_⟩:=dG w;have u:aW g.I ol[i]=(q:Int):=by unfold aW qX;rw[e]
 have c:q<g.L.length:=by rw[<-t.i];exact v
 have s:(g.L.map OpM.A)[q]?=some g.L[q].A:=aO _ g.L q c;have E:g.L.getD q default=g.L[q]:=by simp[rH,c]
 have m:=aQQ (G:=G) g.L[q];have b:=λout D=>aKc (G:=G) out ((byO g.L[q]).getD 0) D;have C:((ol.take i).foldl (aLZ g) []).length<=i:=by
  have k:∀(l:D_)(out:B_),(l.foldl (aLZ g) out).length<=out.length+l.length:=by
   intro l
   induction l with
   |nil=>intro out;simp|cons x l ih=>
    intro out;have:=ih (aLZ g out x);have h2:(aLZ g out x).length<=out.length+1:=by unfold aLZ;split<;>simp
    rw[CW];simp only[sE];omega
  have:=k (ol.take i) [];rw[eC]at this;simp at this;omega
 have b:=b ((ol.take i).foldl (aLZ g) []) o_;rw[lB a,Hy,CW,Kk];generalize(ol.take i).foldl (aLZ g) []=out at *
 rw[u]at f;have F:aLZ g out ol[i]=if(decide (0<(byO g.L[q]).getD 0)&&!decide ((byO g.L[q]).getD 0∈out))=true then out++[(byO g.L[q]).getD 0] else out:=by unfold aLZ;rw[u,show((q:Int).toNat)=q from rfl,E]
 rw[F];generalize(byO g.L[q]).getD 0=d at *
 generalize g.L[q]=o at *
 simp only[Id.A_def]at h f;rcases(show decide (0<d)=false\/(decide (0<d)=true/\decide (d∈out)=true)\/(decide (0<d)=true/\decide (d∈out)=false) by cases decide (0<d)<;>cases decide (d∈out)<;>simp) with h1|⟨h1,h2⟩|⟨h1,h2⟩
 rw[h1,lR,if_neg d_];simp only[go_sem,aP,aT a,a,h];apply cX f;simp only[go_sem,aP,c,s];apply cX m;simp only[go_sem,gt_iff_lt,h1,j,undef];rw[h1,h2,lI,Ea,if_neg d_];rw[h2]at b;simp only[go_sem,aP,aT a,a,h];apply cX f;simp only[go_sem,aP,c,s];apply cX m;simp only[go_sem,gt_iff_lt,h1];apply iJ (args2:=[rG out,iv d]) (aB _) rfl rfl b;simp only[go_sem,j];rw[h1,h2,sF,yH,if_pos rfl];rw[h2]at b;simp only[go_sem,aP,aT a,a,h];apply cX f;simp only[go_sem,aP,c,s];apply cX m;simp only[go_sem,gt_iff_lt,h1];apply iJ (args2:=[rG out,iv d]) (aB _) rfl rfl b;simp only[go_sem,aP,bZ,fG,uP,j,(o_:(out.length+1)*8<=140737488355328),(g_:out.length+1<=maxLen)];intro _;simp only[go_sem,aP,aS (bP _),dE]
def aE2(g:GM)(ss:V_)(a:Nat):RM:=ss.foldl (λr k=>if inG g a k=true then BS r (g.L.getD k default) (g.I.getD k default) else r) (RM.new g.Cards)
def aE3(g:GM)(v:List Bool)(out:V_)(k:Nat):V_:=if(!v.getD k false&&decide (mT (aE2 g out k) (g.L.getD k default)=0))=true then out++[k] else out
structure LD where
 row:List Nat
 v:List Bool
 f:List Bool
 d:List Bool
abbrev pls(l:List Nat):AV:=.ls 1 (l.map λ(k:Nat)=>[iv (k:Int)])
def LD.A(l:LD):O_:=[pls l.row,wI l.v,wI l.f,wI l.d]
structure LD.ok(g:GM)(l:LD):Prop where
 row:∀k∈l.row,k<g.L.length
 n:l.row.length<=1000
 v:l.v.length=g.L.length
 d:l.d.length=g.L.length
def aM0{g:GM}(d:g.ok):∀(ss:V_)(a:Nat){r:RM}{n:Nat},RB n r->(∀k∈ss,k<g.L.length)->RB (n+ss.length) (ss.foldl (λr k=>if inG g a k=true then BS r (g.L.getD k default) (g.I.getD k default) else r) r)|[],_,_,_,h,_=>h|k::ss,a,r,n,h,b=>by rw[CW,sE,(o_:n+(ss.length+1)=n+1+ss.length)];refine aM0 d ss a ?_ λj e=>b j (.tail _ e);split;refine h.do _ ?_ _;have c:=b k (.head _);rw[rH,jN c];exact(d.ops _ (eQ c)).guards.1;exact h.up (Kl n)
def RB.new{g:GM}(a:g.ok):RB 0 (RM.new g.Cards):=⟨a.cn,ku,ku,ku,ku⟩
def aQn(g:GM)(d:g.ok)(ss:V_)(m:∀k∈ss,k<g.L.length)(K:ss.length<=900)(a:Nat)(M:a<g.L.length):aA PQ G aJI [.ag g.A,pls ss,iv a] [] λr T=>r=.ag (aE2 g ss a).A/\T=[]:=by
 have J:=d.n;have w:=d.inn;have y:=d.i;have q:(g.In.map λl=>[wI l])[a]?=some [wI (g.In.getD a [])]:=w_;have u:(g.In.getD a []).length=g.L.length:=d.ins _ (by rw[rH,jN (o_:a<g.In.length)];exact eQ _);have B:=aPj (G:=G) g.Cards;apply aC aLT;simp only[go_sem];apply cX B;simp only[go_sem,RM.A_def];refine aQ ss.length (λi=>⟨0,[(1,pls ss),(2,iv a),(3,.ptr 0 0),(6,.ptr 1 0),(7,.ptr 2 0),(8,iv i)],[some (.box g.A),some (.box zR),some (.box (aE2 g (ss.take i) a).A)]⟩) (λ_=>True) ?_ trivial ?_ ?_;rw[show aE2 g (ss.take 0) a=RM.new g.Cards from rfl];generalize RM.new g.Cards=H at *
 simp only[go_sem,RM.A_def,zR,rG];intro i c _;have j:=fQ i o_;have e:=m _ (eQ c);have s:(ss.map λ(k:Nat)=>[iv (k:Int)])[i]?=some [iv (ss[i]:Int)]:=aO _ ss i c;have f:((g.In.getD a []).map λb=>[AV.v (.bool b)])[ss[i]]?=some [.v (.bool (inG g a ss[i]))]:=by rw[gE,inG,rH (l:=g.In.getD a []),jN o_];rfl
 have C:(g.L.map OpM.A)[ss[i]]?=some (g.L.getD ss[i] default).A:=by rw[gE,rH,jN e];rfl
 have D:(g.I.map Id.A)[ss[i]]?=some (g.I.getD ss[i] default).A:=w_;have z:RB (0+(ss.take i).length) (aE2 g (ss.take i) a):=aM0 d (ss.take i) a (RB.new d) λk e=>m k (C8 e);have h:0+(ss.take i).length<=1000:=ox;have t:=d.ops (g.L.getD ss[i] default) (by rw[rH,jN e];exact eQ _);have p:=aQG (G:=G) _ h _ z (g.L.getD ss[i] default) (g.I.getD ss[i] default) t;have E:aE2 g (ss.take (i+1)) a=if inG g a ss[i]=true then BS (aE2 g (ss.take i) a) (g.L.getD ss[i] default) (g.I.getD ss[i] default) else aE2 g (ss.take i) a:=by unfold aE2;rw[lB c,Hy];rfl
 rw[E];generalize aE2 g (ss.take i) a=r at *
 generalize BS r (g.L.getD ss[i] default) (g.I.getD ss[i] default)=F at *
 generalize g.L.getD ss[i] default=o at *
 generalize g.I.getD ss[i] default=x at *
 cases c1:inG g a ss[i];rw[c1]at f;rw[if_neg d_];simp only[go_sem,zR,RM.A_def,rG,aP,aT c,c,s,q,f,j];rw[c1]at f;rw[if_pos rfl];simp only[go_sem,RM.A_def,rG]at p;simp only[go_sem,zR,RM.A_def,rG,aP,aT c,c,s,q,f,C,D];apply cX p;simp only[go_sem,zR,RM.A_def,rG,j];intro _;rw[dE];generalize aE2 g ss a=r at *
 simp only[go_sem,zR,RM.A_def,rG,aP,aS (bP _)]
def aPV(g:GM)(d:g.ok)(ss:V_)(m:∀k∈ss,k<g.L.length)(K:ss.length<=900)(a:Nat)(M:a<g.L.length):aA PQ G aJI [.ag g.A,.own 0,iv a] [some (.arr 1 (ss.map λ(k:Nat)=>[iv (k:Int)]))] λr T=>r=.ag (aE2 g ss a).A/\T=[some (.arr 1 (ss.map λ(k:Nat)=>[iv (k:Int)]))]:=by
 have J:=d.n;have w:=d.inn;have y:=d.i;have q:(g.In.map λl=>[wI l])[a]?=some [wI (g.In.getD a [])]:=w_;have u:(g.In.getD a []).length=g.L.length:=d.ins _ (by rw[rH,jN (o_:a<g.In.length)];exact eQ _);have B:=aPj (G:=G) g.Cards;apply aC aLT;simp only[go_sem];apply cX B;simp only[go_sem,RM.A_def];refine aQ ss.length (λi=>⟨1,[(1,.own 0),(2,iv a),(3,.ptr 1 0),(6,.ptr 2 0),(7,.ptr 3 0),(8,iv i)],[some (.arr 1 (ss.map λ(k:Nat)=>[iv (k:Int)])),some (.box g.A),some (.box zR),some (.box (aE2 g (ss.take i) a).A)]⟩) (λ_=>True) ?_ trivial ?_ ?_;rw[show aE2 g (ss.take 0) a=RM.new g.Cards from rfl];generalize RM.new g.Cards=H at *
 simp only[go_sem,RM.A_def,zR,rG];intro i c _;have j:=fQ i o_;have e:=m _ (eQ c);have s:(ss.map λ(k:Nat)=>[iv (k:Int)])[i]?=some [iv (ss[i]:Int)]:=aO _ ss i c;have f:((g.In.getD a []).map λb=>[AV.v (.bool b)])[ss[i]]?=some [.v (.bool (inG g a ss[i]))]:=by rw[gE,inG,rH (l:=g.In.getD a []),jN o_];rfl
 have C:(g.L.map OpM.A)[ss[i]]?=some (g.L.getD ss[i] default).A:=by rw[gE,rH,jN e];rfl
 have D:(g.I.map Id.A)[ss[i]]?=some (g.I.getD ss[i] default).A:=w_;have z:RB (0+(ss.take i).length) (aE2 g (ss.take i) a):=aM0 d (ss.take i) a (RB.new d) λk e=>m k (C8 e);have h:0+(ss.take i).length<=1000:=ox;have t:=d.ops (g.L.getD ss[i] default) (by rw[rH,jN e];exact eQ _);have p:=aQG (G:=G) _ h _ z (g.L.getD ss[i] default) (g.I.getD ss[i] default) t;have E:aE2 g (ss.take (i+1)) a=if inG g a ss[i]=true then BS (aE2 g (ss.take i) a) (g.L.getD ss[i] default) (g.I.getD ss[i] default) else aE2 g (ss.take i) a:=by unfold aE2;rw[lB c,Hy];rfl
 rw[E];generalize aE2 g (ss.take i) a=r at *
 generalize BS r (g.L.getD ss[i] default) (g.I.getD ss[i] default)=F at *
 generalize g.L.getD ss[i] default=o at *
 generalize g.I.getD ss[i] default=x at *
 cases c1:inG g a ss[i];rw[c1]at f;rw[if_neg d_];simp only[go_sem,zR,RM.A_def,rG,aP,aT c,c,s,q,f,j];rw[c1]at f;rw[if_pos rfl];simp only[go_sem,RM.A_def,rG]at p;simp only[go_sem,zR,RM.A_def,rG,aP,aT c,c,s,q,f,C,D];apply cX p;simp only[go_sem,zR,RM.A_def,rG,j];intro _;rw[dE];generalize aE2 g ss a=r at *
 simp only[go_sem,zR,RM.A_def,rG,aP,aS (bP _)]
def aCW(g:GM)(l:LD):V_:=l.row.foldl (aE3 g l.v) []
def aLs {g:GM} {v:List Bool} {k:Nat}:∀(row out:V_),k∈row.foldl (aE3 g v) out->k∈out\/k∈row|[],_,h=>.inl h| x::row,out,h=>by rcases aLs row _ h with h|h;unfold aE3 at h;split at h;rcases cG.1 h with h|h;exact .inl h;exact .inr (by rw[cA.1 h];exact .head _);exact .inl h;exact .inr (.tail _ h)
def aIK{g:GM}{v:List Bool}:∀(row out:V_),(row.foldl (aE3 g v) out).length<=out.length+row.length
 |[],_=>by simp
 |x::row,out=>by
  have:=aIK (g:=g) (v:=v) row (aE3 g v out x);have h2:(aE3 g v out x).length<=out.length+1:=by unfold aE3;split<;>simp
  rw[CW,sE];omega
def aN6(o:OpM):Bool:=o.Kind==3||(o.Kind==13||o.Kind==12)
def aOr{l:List Bool}{k n:Nat}(a:l.length=n)(c:k<n):(l.map λb=>[AV.v (.bool b)])[k]?=some [.v (.bool (l.getD k false))]:=w_
def aO8 (g:GM) (d:g.ok) (l:LD) (w:l.ok g) (J:l.row.length<=900) (f:∀i B,(aE2 g ((l.row.take i).foldl (aE3 g l.v) []) B).need):aA PQ G aFd [.ag g.A,.ag l.A] [] λr T=>r=.own 0/\T=[some (.arr 1 ((aCW g l).map λ(k:Nat)=>[iv (k:Int)]))]:=by
 apply aC aNL;have K:=d.n;have j:=d.i;simp only[go_sem,LD.A];refine aQ l.row.length (λi=>⟨0,[(2,.ptr 0 0),(3,.ptr 1 0),(5,.own 2),(6,iv i)],[some (.box g.A),some (.box l.A),some (.arr 1 (((l.row.take i).foldl (aE3 g l.v) []).map λ(k:Nat)=>[iv (k:Int)]))]⟩) (λ_=>True) ?_ trivial ?_ ?_;simp only[go_sem,LD.A,uQ,Kk,uP];intro i a _;have u:=fQ i o_;have c:=w.row _ (eQ a);have y:(l.row.map λ(k:Nat)=>[iv (k:Int)])[i]?=some [iv (l.row[i]:Int)]:=aO _ l.row i a;have m:=aOr w.v c;have s:(g.L.map OpM.A)[l.row[i]]?=some (g.L.getD l.row[i] default).A:=by rw[gE,rH,jN c];rfl
 have t:(g.I.map Id.A)[l.row[i]]?=some (g.I.getD l.row[i] default).A:=w_;have F:=d.ops (g.L.getD l.row[i] default) (by rw[rH,jN c];exact eQ _);have h:=aIK (g:=g) (v:=l.v) (l.row.take i) [];have b:∀k∈(l.row.take i).foldl (aE3 g l.v) [],k<g.L.length:=λk c=>w.row k (C8 ((aLs _ _ c).resolve_left s_));simp only[gQ,pQ,eC]at h;have D:=aPV (G:=G) g d _ b o_ l.row[i] c;have C:RB _ (aE2 g ((l.row.take i).foldl (aE3 g l.v) []) l.row[i]):=aM0 d _ l.row[i] (RB.new d) b;have q:=aPi (G:=G) _ (g.L.getD l.row[i] default) (g.I.getD l.row[i] default) (C.ok o_) F (f i l.row[i]);have E:(l.row.take (i+1)).foldl (aE3 g l.v) []=aE3 g l.v ((l.row.take i).foldl (aE3 g l.v) []) l.row[i]:=by rw[lB a,Hy];rfl
 rw[E];clear E C f;generalize(l.row.take i).foldl (aE3 g l.v) []=out at *
 unfold aE3;generalize mT (aE2 g out l.row[i]) (g.L.getD l.row[i] default)=e at *
 generalize aE2 g out l.row[i]=r at *
 generalize g.L.getD l.row[i] default=o at *
 generalize g.I.getD l.row[i] default=x at *
 cases c1:l.v.getD l.row[i] false;rw[c1]at m;by_cases p:e=0;have z:(e==0)=true:=by simp[p]
 rw[decide_eq_true p,sF,mF,if_pos rfl];simp only[go_sem,LD.A,aP,aT a,a,y,m,s,t];apply aG (T2:=[some (.arr 1 (out.map λ(k:Nat)=>[iv (k:Int)]))]) [2] (aB _) d_ s_ rfl f_ D;rintro _ H ⟨rfl,rfl⟩;simp only[go_sem,RM.A_def,rG,aP,c,j,s,t]at q⊢;apply cX q;simp only[go_sem,LD.A,z,aP,bZ,fG,uP,u,(o_:(out.length+1)*8<=140737488355328),(g_:out.length+1<=maxLen)];have z:(e==0)=false:=by simp[p]
 rw[decide_eq_false p,Ea,if_neg d_];simp only[go_sem,LD.A,aP,aT a,a,y,m,s,t];apply aG (T2:=[some (.arr 1 (out.map λ(k:Nat)=>[iv (k:Int)]))]) [2] (aB _) d_ s_ rfl f_ D;rintro _ H ⟨rfl,rfl⟩;simp only[go_sem,RM.A_def,rG,aP,c,j,s,t]at q⊢;apply cX q;simp only[go_sem,LD.A,z,u];rw[c1]at m;rw[lI,lR,if_neg d_];simp only[go_sem,LD.A,aP,aT a,a,y,m,u];intro _;rw[dE];simp only[go_sem,LD.A,aP,aS (bP _)];rfl
def aOL(g:GM)(e:g.ok)(l:LD)(d:l.ok g)(c:l.row.length<=900)(a:∀i b,(aE2 g ((l.row.take i).foldl (aE3 g l.v) []) b).need):aA PQ G aFd [.ag g.A,.ag l.A] [] λr T=>r=pls (aCW g l)/\T=[]:=by refine(aO8 g e l d c a).fin [0] ?_;rintro r f ⟨rfl,rfl⟩;simp only[go_sem,gQ]
def aCE(g:GM)(l:LD)(k:Nat):Bool:=!l.v.getD k false&&(!l.d.getD k false&&aN6 (g.L.getD k default))
def aOM(g:GM)(l:LD)(a:l.ok g)(k:Nat)(c:k<g.L.length)(h:g.L.length<=1000):aA PQ G aJ3 [.ag g.A,.ag l.A,iv k] [] λr T=>r=.v (.bool (aCE g l k))/\T=[]:=by
 have b:=aOr a.v c;have e:=aOr a.d c;have f:(g.L.map OpM.A)[k]?=some (g.L.getD k default).A:=by rw[gE,rH,jN c];rfl
 unfold aCE aN6;generalize g.L.getD k default=o at *
 rcases(show(l.v.getD k false=true)\/(l.v.getD k false=false/\l.d.getD k false=true)\/(l.v.getD k false=false/\l.d.getD k false=false/\(o.Kind==3)=true)\/(l.v.getD k false=false/\l.d.getD k false=false/\(o.Kind==3)=false/\(o.Kind==13)=true)\/(l.v.getD k false=false/\l.d.getD k false=false/\(o.Kind==3)=false/\(o.Kind==13)=false) by cases l.v.getD k false<;>cases l.d.getD k false<;>cases o.Kind==3<;>cases o.Kind==13<;>simp) with h1|⟨h1,h2⟩|⟨h1,h2,h3⟩|⟨h1,h2,h3,h4⟩|⟨h1,h2,h3,h4⟩
 rw[h1]at b;rw[h1,lI,lR];apply aC aEQ;simp only[go_sem,LD.A,aP,c,a.v,f,b,undef];rw[h1]at b;rw[h2]at e;rw[h1,h2,lI,lR,Ea];apply aC aEQ;simp only[go_sem,LD.A,aP,c,a.v,a.d,f,b,e,undef];rw[h1]at b;rw[h2]at e;rw[h1,h2,h3];apply aC aEQ;simp only[go_sem,LD.A,aP,c,a.v,a.d,f,b,e,h3,undef];rw[h1]at b;rw[h2]at e;rw[h1,h2,h3,h4];apply aC aEQ;simp only[go_sem,LD.A,aP,c,a.v,a.d,f,b,e,h3,h4,undef];rw[h1]at b;rw[h2]at e;rw[h1,h2,h3,h4];apply aC aEQ;simp only[go_sem,LD.A,aP,c,a.v,a.d,f,b,e,h3,h4]
def aC1(g:GM)(l:LD)(x y:Nat):Bool:=!decide (x=y)&&l.row.any λz=>(decide (z=x)||inG g x z)&&aE4 g y z
def aO9(g:GM)(q:g.ok)(l:LD)(u:l.ok g)(x y:Nat)(M:x<g.L.length)(F:y<g.L.length):aA PQ G aJe [.ag g.A,.ag l.A,iv x,iv y] [] λr T=>r=.v (.bool (aC1 g l x y))/\T=[]:=by
 have N:=q.n;have K:=q.inn;have I:=u.n;have w:=λz E=>aM9 (G:=G) g q y z F E;have d:(g.In.map λl=>[wI l])[x]?=some [wI (g.In.getD x [])]:=w_;have H:(g.In.getD x []).length=g.L.length:=q.ins _ (by rw[rH,jN (o_:x<g.In.length)];exact eQ _);have p:((x:Int)==(y:Int))=decide (x=y):=so;unfold aC1;cases D:decide (x=y);rotate_left;rw[lI,lR];apply aC aKo;simp only[go_sem,LD.A,p,D];rw[sF,mF];apply aC aKo;simp only[go_sem,LD.A,p,D];refine aQ l.row.length (λi=>⟨0,[(2,iv x),(3,iv y),(4,.ptr 0 0),(5,.ptr 1 0),(9,iv i)],[some (.box g.A),some (.box l.A)]⟩) (λi=>(l.row.take i).any (λz=>(decide (z=x)||inG g x z)&&aE4 g y z)=false) ?_ s_ ?_ ?_;simp only[go_sem,LD.A];intro i a c;have s:=fQ i o_;have J:=u.row _ (eQ a);have o:(l.row.map λ(k:Nat)=>[iv (k:Int)])[i]?=some [iv (l.row[i]:Int)]:=aO _ l.row i a;have e:((l.row[i]:Int)==(x:Int))=decide (l.row[i]=x):=so;have m:((g.In.getD x []).map λb=>[AV.v (.bool b)])[l.row[i]]?=some [.v (.bool (inG g x l.row[i]))]:=by rw[gE,inG,rH (l:=g.In.getD x []),jN o_];rfl
 have f:=w l.row[i] J;have C:(l.row.take (i+1)).any (λz=>(decide (z=x)||inG g x z)&&aE4 g y z)=((decide (l.row[i]=x)||inG g x l.row[i])&&aE4 g y l.row[i]):=by rw[lB a,List.any_append,c];simp
 have B:((decide (l.row[i]=x)||inG g x l.row[i])&&aE4 g y l.row[i])=true->l.row.any (λz=>(decide (z=x)||inG g x z)&&aE4 g y z)=true:=λh=>CX.2 ⟨_,eQ a,h⟩;rw[C];clear C c w;generalize l.row.any (λz=>(decide (z=x)||inG g x z)&&aE4 g y z)=W at *
 generalize aE4 g y l.row[i]=j at *
 generalize inG g x l.row[i]=iz at *
 rcases(show(decide (l.row[i]=x)=false/\iz=false)\/(decide (l.row[i]=x)=false/\iz=true/\j=false)\/(decide (l.row[i]=x)=false/\iz=true/\j=true)\/(decide (l.row[i]=x)=true/\j=false)\/(decide (l.row[i]=x)=true/\j=true) by cases decide (l.row[i]=x)<;>cases iz<;>cases j<;>simp) with⟨h1,h2⟩|⟨h1,h2,h3⟩|⟨h1,h2,h3⟩|⟨h1,h3⟩|⟨h1,h3⟩
 subst h2;rw[h1];simp only[go_sem,LD.A,aP,aT a,a,o,e,h1,d,m,s,undef];subst h2 h3;rw[h1];simp only[go_sem,LD.A,aP,aT a,a,o,e,h1,d,m];apply cX f;simp only[go_sem,LD.A,s];subst h2 h3;have t:=B dp;rw[t];simp only[go_sem,LD.A,aP,aT a,a,o,e,h1,d,m];apply cX f;simp only[go_sem];subst h3;rw[h1];simp only[go_sem,LD.A,aP,aT a,a,o,e,h1,d,m,undef];apply cX f;simp only[go_sem,LD.A,s];subst h3;have t:=B dp;rw[t];simp only[go_sem,LD.A,aP,aT a,a,o,e,h1,d,m,undef];apply cX f;simp only[go_sem];intro c;rw[dE]at c;rw[c];simp only[go_sem,LD.A,aP,aS (bP _)]
def aBB(s:B_)(d:Int):Nat:=(s.findIdx? λx=>x==d).getD s.length
def byD(g:GM)(x:Nat):Int:=(g.L.getD x default).By
def aJK(g:GM)(l:LD)(s:B_):V_->Int->Int|[],b=>b|x::r,b=>if aCE g l x=true then(if(l.row.any λy=>aCE g l y&&aC1 g l x y)=true then aJK g l s r (if b<0\/aBB s (byD g x)<aBB s (byD g b.toNat) then x else b) else x) else aJK g l s r b
def aHe(g:GM)(l:LD)(s:B_):Int:=aJK g l s l.row (-1)
def aP8 (s:B_) (d:Int) (m:s.length<=100000):aA PQ G aIz [rG s,iv d] [] λr T=>r=iv (aBB s d:Nat)/\T=[]:=by
 apply aC aMu;simp only[go_sem];refine aQ s.length (λi=>⟨0,[(0,rG s),(1,iv d),(5,iv i)],[]⟩) (λi=>∀j(h:j<s.length),j<i->(s[j]==d)=false) ?_ (by intro j _ h;omega) ?_ ?_;simp only[go_sem];intro i b a;have k:=fQ i o_;have g:(s.map λn=>[iv n])[i]?=some [iv s[i]]:=aO _ s i b;cases c1:s[i]==d;have c:∀j(h:j<s.length),j<i+1->(s[j]==d)=false:=λj h f=>by
  rcases eD j i with h1|h1;exact a j h h1;obtain rfl:j=i:=o_;exact c1
 simp only[go_sem,rG,aP,aT b,b,g,c1,k];exact c;have e:aBB s d=i:=by unfold aBB;rw[Ad.2 ⟨b,c1,λj f=>by simp[a j o_ f]⟩];rfl
 rw[e];simp only[go_sem,rG,aP,aT b,b,g,c1];intro a;have e:aBB s d=s.length:=by
  unfold aBB
  rw[Md.2 λx l=>by
   obtain⟨j,f,rfl⟩:=List.mem_iff_getElem.1 l
   exact a j f f]
  rfl
 rw[e];simp only[go_sem,rG,aP,aS (bP _)]
def aPX (g:GM) (P:g.ok) (l:LD) (B:l.ok g) (s:B_) (X:s.length<=100000):aA PQ G aIX [.ag g.A,.ag l.A,rG s] [] λr T=>r=iv (aHe g l s)/\T=[]:=by
 have Y:=P.n;have Z:=B.n;have cE:=λk J=>aOM (G:=G) g l B k J Y;have C:=λx y t W=>aO9 (G:=G) g P l B x y t W;have D:=λd=>aP8 (G:=G) s d X;have gL:∀k,k<g.L.length->(g.L.map OpM.A)[k]?=some (g.L.getD k default).A:=λk J=>by rw[gE,rH,jN J];rfl
 apply aC aNR;simp only[go_sem,LD.A];apply cO (λm O=>∃(i:Nat)(b:Int),m=l.row.length-i/\i<=l.row.length/\(b=-1\/∃q:Nat,b=(q:Int)/\q<g.L.length)/\aJK g l s (l.row.drop i) b=aHe g l s/\O=⟨0,[(2,rG s),(3,.ptr 0 0),(4,.ptr 1 0),(7,iv b),(8,iv i)],[some (.box g.A),some (.box l.A)]⟩) l.row.length ⟨0,-1,rfl,pR _,.inl rfl,rfl,by simp only[go_sem,LD.A]⟩;rintro m O ⟨i,b,rfl,hi,Q,f,rfl⟩;rcases eD i l.row.length with e|aa;rotate_left;obtain rfl:i=l.row.length:=o_;rw[List.drop_length]at f;rw[<-f];simp only[go_sem,LD.A,aP,aS (bP _),aJK];have H:=fQ i o_;have t:=B.row _ (eQ e);have M:(l.row.map λ(k:Nat)=>[iv (k:Int)])[i]?=some [iv (l.row[i]:Int)]:=aO _ l.row i e;have z:=cE l.row[i] t;have R:=gL l.row[i] t;rw[Kc e,aJK]at f;simp only[LD.A]at z;cases c1:aCE g l l.row[i];rw[c1]at z;rw[c1,if_neg d_]at f;simp only[go_sem,LD.A,aP,aT e,e,M];apply cX z;simp only[go_sem,LD.A,H];exact⟨l.row.length-(i+1),o_,i+1,b,rfl,o_,Q,f,rfl⟩;rw [c1]at z;rw[c1,if_pos rfl]at f;rcases Q with rfl|⟨q,rfl,I⟩
 simp only[go_sem,LD.A,aP,aT e,e,M];apply cX z;simp only[go_sem];refine aQ l.row.length (λk=>⟨0,[(2,rG s),(3,.ptr 0 0),(4,.ptr 1 0),(7,iv (-1)),(8,iv i),(9,iv (l.row[i]:Int)),(10,.v (.bool (!(l.row.take k).any λy=>aCE g l y&&aC1 g l l.row[i] y))),(11,iv k)],[some (.box g.A),some (.box l.A)]⟩) (λ_=>True) ?_ trivial ?_ ?_;simp only[go_sem,LD.A,uQ,List.any_nil,sF];intro k a _;have w:=fQ k o_;have o:=B.row _ (eQ a);have p:(l.row.map λ(k:Nat)=>[iv (k:Int)])[k]?=some [iv (l.row[k]:Int)]:=aO _ l.row k a;have c:=cE l.row[k] o;have h:=C l.row[i] l.row[k] t o;have N:((l.row.take (k+1)).any λy=>aCE g l y&&aC1 g l l.row[i] y)=(((l.row.take k).any λy=>aCE g l y&&aC1 g l l.row[i] y)||(aCE g l l.row[k]&&aC1 g l l.row[i] l.row[k])):=by rw[lB a,List.any_append];simp
 rw[N];generalize((l.row.take k).any λy=>aCE g l y&&aC1 g l l.row[i] y)=A at *
 generalize aCE g l l.row[k]=u at *
 generalize aC1 g l l.row[i] l.row[k]=w1 at *
 have E:=c;simp only[LD.A]at c h;rcases(show u=false\/(u=true/\w1=false)\/(u=true/\w1=true) by cases u<;>cases w1<;>simp) with rfl|⟨rfl,rfl⟩|⟨rfl,rfl⟩
 simp only[go_sem,LD.A,aP,aT a,a,p];apply cX c;simp only[go_sem,LD.A,w,undef,lR,EB];simp only[go_sem,LD.A,aP,aT a,a,p];apply cX c;simp only[go_sem,LD.A,aP,a,p];apply cX h;simp only[go_sem,LD.A,w,mF,EB];simp only[go_sem,LD.A,aP,aT a,a,p];apply cX c;simp only[go_sem,LD.A,aP,a,p];apply cX h;simp only[go_sem,LD.A,w,mF,Ed,lI];intro _;rw[dE];simp only[go_sem,LD.A,aP,aS (bP _)];refine aL (λj=>?_) (λj=>?_);have j:(l.row.any λy=>aCE g l y&&aC1 g l l.row[i] y)=false:=dc;rw[j,if_neg d_]at f;simp only[go_sem,f];have j:(l.row.any λy=>aCE g l y&&aC1 g l l.row[i] y)=true:=dc;rw[j,if_pos rfl]at f;rw[if_pos (.inl d_)]at f;simp only[go_sem,LD.A,undef,H];exact⟨l.row.length-(i+1),o_,i+1,_,rfl,o_,.inr ⟨_,rfl,t⟩,f,rfl⟩;have cq:decide ((q:Int)<0)=false:=decide_eq_false o_;have S:=gL q I;simp only[go_sem,LD.A,aP,aT e,e,M];apply cX z;simp only[go_sem];refine aQ l.row.length (λk=>⟨0,[(2,rG s),(3,.ptr 0 0),(4,.ptr 1 0),(7,iv (q:Int)),(8,iv i),(9,iv (l.row[i]:Int)),(10,.v (.bool (!(l.row.take k).any λy=>aCE g l y&&aC1 g l l.row[i] y))),(11,iv k)],[some (.box g.A),some (.box l.A)]⟩) (λ_=>True) ?_ trivial ?_ ?_;simp only[go_sem,LD.A,uQ,List.any_nil,sF];intro k a _;have w:=fQ k o_;have o:=B.row _ (eQ a);have p:(l.row.map λ(k:Nat)=>[iv (k:Int)])[k]?=some [iv (l.row[k]:Int)]:=aO _ l.row k a;have c:=cE l.row[k] o;have h:=C l.row[i] l.row[k] t o;have N:((l.row.take (k+1)).any λy=>aCE g l y&&aC1 g l l.row[i] y)=(((l.row.take k).any λy=>aCE g l y&&aC1 g l l.row[i] y)||(aCE g l l.row[k]&&aC1 g l l.row[i] l.row[k])):=by rw[lB a,List.any_append];simp
 rw[N];generalize((l.row.take k).any λy=>aCE g l y&&aC1 g l l.row[i] y)=A at *
 generalize aCE g l l.row[k]=u at *
 generalize aC1 g l l.row[i] l.row[k]=w1 at *
 have E:=c;simp only[LD.A]at c h;rcases(show u=false\/(u=true/\w1=false)\/(u=true/\w1=true) by cases u<;>cases w1<;>simp) with rfl|⟨rfl,rfl⟩|⟨rfl,rfl⟩
 simp only[go_sem,LD.A,aP,aT a,a,p];apply cX c;simp only[go_sem,LD.A,w,undef,lR,EB];simp only[go_sem,LD.A,aP,aT a,a,p];apply cX c;simp only[go_sem,LD.A,aP,a,p];apply cX h;simp only[go_sem,LD.A,w,mF,EB];simp only[go_sem,LD.A,aP,aT a,a,p];apply cX c;simp only[go_sem,LD.A,aP,a,p];apply cX h;simp only[go_sem,LD.A,w,mF,Ed,lI];intro _;rw[dE];simp only[go_sem,LD.A,aP,aS (bP _)];refine aL (λj=>?_) (λj=>?_);have j:(l.row.any λy=>aCE g l y&&aC1 g l l.row[i] y)=false:=dc;rw[j,if_neg d_]at f;simp only[go_sem,f];have j:(l.row.any λy=>aCE g l y&&aC1 g l l.row[i] y)=true:=dc;rw[j,if_pos rfl]at f;have c2:(if(0:Int)>(q:Int) then(0:Int) else(q:Int))=(q:Int):=if_neg o_;have F:(if(q:Int)<0 then(0:Int) else(q:Int))=(q:Int):=if_neg o_;have V:=D (g.L.getD l.row[i] default).By;have U:=D (g.L.getD q default).By;have bs:decide (((aBB s (g.L.getD l.row[i] default).By:Nat):Int)<((aBB s (g.L.getD q default).By:Nat):Int))=decide (aBB s (g.L.getD l.row[i] default).By<aBB s (g.L.getD q default).By):=decide_eq_decide.2 o_;simp only[byD,show((q:Int).toNat)=q from rfl]at f;generalize aBB s (g.L.getD l.row[i] default).By=e1 at *
 generalize aBB s (g.L.getD q default).By=e2 at *
 simp only[go_sem,LD.A,cq,c2,F,aP,t,I,R,S];apply cX V;simp only[go_sem,LD.A,c2,F,aP,t,I,R,S];apply cX U;simp only[go_sem,bs];refine aL (λK=>?_) (λK=>?_);rw[if_pos (.inr (of_decide_eq_true K))]at f;simp only[go_sem,LD.A,H];exact⟨l.row.length-(i+1),o_,i+1,_,rfl,o_,.inr ⟨_,rfl,t⟩,f,rfl⟩;rw[if_neg (by have:=of_decide_eq_false K;omega)]at f;simp only[go_sem,LD.A,H];exact⟨l.row.length-(i+1),o_,i+1,_,rfl,o_,.inr ⟨_,rfl,I⟩,f,rfl⟩
def aPu{p:PGM}{o:OpM}(h:(sR p o).2=0):(sR p o).1=⟨p.cards,p.nodes++[⟨o,C7 o,BF p o,Fa p o.Past⟩]⟩:=by grind[sR,Oa,Q8]
def aON(a:List V_)(u:V_):∀i,i<=a.length->aCZ (a++[u]) i=aCZ a i|0,_=>rfl|i+1,h=>by rw[aCZ,aCZ,aON a u i o_,Ol _ _ _ _ o_]
structure RowOk(cs:List CardM)(g:GM):Prop where
 ids:g.I=g.L.map C7
 nd:g.I.Nodup
 par:∀i,i<g.L.length->∀y∈(g.L.getD i default).Past,∃k∈g.Up.getD i [],g.I[k]?=some y
 lv:∀i,i<g.L.length->((AM cs g.L).nodes.getD i XD).lv=(aCZ g.Up g.L.length).getD i 0
def aIW{I:D_}{x:Id}(h:0<=aW I x):I[(aW I x).toNat]?=some x:=by
 unfold aW qX at *
 cases e:I.findIdx? (λy=>decide (y=x)) with
 |none=>rw[e]at h;simp at h|some j=>
  obtain⟨h1,h2,_⟩:=Ad.1 e;simp_all
def aOO(f:Id->Int)(h:Nat->Int)(pl:Id->Nat):∀(l:D_)(m:Int),(∀x∈l,f x=h (pl x))->l.foldl (λm x=>max m (f x+1)) m=(l.map pl).foldl (λm k=>max m (1+h k)) m|[],_,_=>rfl|x::l,m,a=>by simp only[CW,fG];rw[a x s_,Int.add_comm];exact aOO f h pl l _ λy b=>a y (by simp[b])
def Reach.row {cs:List CardM} (s:cardsOk cs) {g:GM} (h:Reach cs g):RowOk cs g:=by
 induction h with
 |new=>exact⟨rfl,Mm,s_,s_⟩| @add g o v D z ih=>
  by_cases h:(dV g o).1=0;rotate_left;grind[addM];have b:=v.good s;have a:=Ff h;have q:=aE0 b.wf a;have n:(AM cs g.L).ok:=XM s g.L λx j=>⟨b.ok.ops x j,b.ids x j⟩
  have t:=aE8 b.sim n b.wf h;have u:=aPu t.1;have r:(AM cs g.L).nodes.length=g.L.length:=by have:=congrArg List.length b.sim.l;rwa[aP]at this
  have F:=b.wf.i;have d:=b.wf.un;rw[yE a h];refine⟨by simp[ih.ids],?_,?_,?_⟩;rw[vQ];refine⟨ih.nd,s_,?_⟩;intro x j y c e;rw[cA.1 c]at e;exact a.twice ((Cz g.I _).2 (e ▸ j));intro i f y c;simp only[dZ,GT]at f;rcases eD i g.L.length with h1|h1;rw[Ol _ _ _ _ h1]at c;rw[Ol _ _ _ _ (by rw[d];exact h1)];obtain⟨k,E,e⟩:=ih.par i h1 y c;grind;obtain rfl:i=g.L.length:=o_;rw[D2]at c;have p:(g.Up++[yW g o]).getD g.L.length []=yW g o:=by rw[<-d];exact D2 _ _ _
  rw[p];have w:=a.there y c;refine⟨(aW g.I y).toNat,dF.2 ⟨y,c,rfl⟩,?_⟩;have m:=q _ (dF.2 ⟨y,c,rfl⟩);rw[mY o_];exact aIW w;intro i f;simp only[dZ,GT]at f⊢;rw[MS,u];have C:aCZ (g.Up++[yW g o]) (g.L.length+1)=aCZ g.Up g.L.length++[Fa (AM cs g.L) o.Past]:=by
   rw[aCZ,aON _ _ _ o_];have p:(g.Up++[yW g o]).getD g.L.length []=yW g o:=by rw[<-d];exact D2 _ _ _
   rw[p];congr 2;unfold Fa;refine(aOO _ (λk=>(aCZ g.Up g.L.length).getD k 0) (λx=>(aW g.I x).toNat) o.Past 1 ?_).symm;intro x j;have m:=q _ (dF.2 ⟨x,j,rfl⟩);rw[PGM.nd,aDZ,b.sim.i];exact ih.lv _ m
  rw[C];rcases eD i g.L.length with h1|h1;rw[Ol _ _ _ _ (by rw[r];exact h1),Ol _ _ _ _ (by rw[aKm];exact h1)];exact ih.lv i h1;obtain rfl:i=g.L.length:=o_;have B:((AM cs g.L).nodes++[(⟨o,C7 o,BF (AM cs g.L) o,Fa (AM cs g.L) o.Past⟩:ND)]).getD g.L.length XD=⟨o,C7 o,BF (AM cs g.L) o,Fa (AM cs g.L) o.Past⟩:=by rw[<-r];exact D2 _ _ _
  have A:(aCZ g.Up g.L.length++[Fa (AM cs g.L) o.Past]).getD g.L.length 0=Fa (AM cs g.L) o.Past:=by
   have:=aKm g.Up g.L.length
   conv=>lhs;arg 2;rw[<-this]
   exact D2 _ _ _
  rw[B,A]
def aN7{lt:Nat->Nat->Bool}(f:∀a b,lt a b=true->lt b a=false)(e:∀a b c,lt b a=false->lt c b=false->lt c a=false)(p:Nat):∀out:V_,out.Pairwise (λx y=>lt y x=false) ->
 (out.take (out.takeWhile λq=>lt q p).length++p::out.drop (out.takeWhile λq=>lt q p).length).Pairwise λx y=>lt y x=false
 |[],_=>by simp| q::out,h=>by
  obtain⟨h1,h2⟩:=H5.1 h
  cases d:lt q p with
  |true=>
   rw[List.takeWhile_cons_of_pos (p:=λq=>lt q p) d,sE,QI,aBO,jC];refine H5.2 ⟨?_,aN7 f e p out h2⟩;grind
  |false=>
   rw[List.takeWhile_cons_of_neg (p:=λq=>lt q p) ax];grind
def aPv(c:B_)(I:D_)(a b:Nat)(h:ahM c I a b=true):ahM c I b a=false:=by
 unfold ahM at *
 split at h;rename_i e;rw[if_pos e.symm];exact Id.lt_asymm h;grind
def aP9(d:B_)(I:D_)(a b c:Nat)(h:ahM d I b a=false)(k:ahM d I c b=false):ahM d I c a=false:=by
 unfold ahM at *
 split at h<;>split at k;rename_i f e;rw[if_pos (e.trans f)];exact Id.nlt_trans k h;simp_all;simp_all;grind
def aMd(a:B_)(I:D_):∀(ps out:V_),out.Pairwise (λx y=>ahM a I y x=false)->(ps.foldl (aOo a I) out).Pairwise λx y=>ahM a I y x=false|[],_,h=>h| p::ps,out,h=>aMd a I ps _ (by
   have:=aN7 (lt:=ahM a I) (aPv a I) (aP9 a I) p out h
   exact this)
section
variable{cs:List CardM}{g:GM}
def aPY(b:cardsOk cs)(h:Reach cs g)(i:Nat)(j:i<g.L.length):(AM cs g.L).nd (g.I.getD i default)=(AM cs g.L).nodes.getD i XD/\((AM cs g.L).nd (g.I.getD i default)).o=g.L.getD i default:=by
 have a:=h.good b;have r:=h.row b;have hI:=a.wf.i;have f:(AM cs g.L).nodes.length=g.L.length:=by have:=congrArg List.length a.sim.l;rwa[aP]at this
 have e:g.I.getD i default=g.I[i]'o_:=u_;have d:(AM cs g.L).at (g.I.getD i default)=i:=by
  rw[aDZ,a.sim.i,e];have h1:0<=aW g.I g.I[i]:=(Cz _ _).2 (eQ _);have h2:=aIW h1;have h3:(aW g.I g.I[i]).toNat<g.I.length:=m_;rw[jN h3]at h2;exact(C9 r.nd).1 (Option.some.inj h2)
 have c:(AM cs g.L).nd (g.I.getD i default)=(AM cs g.L).nodes.getD i XD:=by rw[PGM.nd,d]
 refine⟨c,?_⟩;rw[c];have h1:((AM cs g.L).nodes.map (·.o))[i]?=g.L[i]?:=by rw[a.sim.l]
 simp_all
def aOP(a:cardsOk cs)(h:Reach cs g)(i:Nat)(b:i<g.L.length):Su (AM cs g.L) (g.I.getD i default)=(aCZ g.Up g.L.length).getD i 0:=by
 have c:=h.good a;have hI:=c.wf.i;have d:g.I.getD i default=g.I[i]'o_:=u_;rw[Su,if_pos (by rw[c.sim.i,d];exact eQ _),(aPY a h i b).1,(h.row a).lv i b]
def aPZ(a:cardsOk cs)(h:Reach cs g)(i k:Nat)(c:i<g.L.length)(b:k<g.L.length):P0 (AM cs g.L) (g.I.getD i default) (g.I.getD k default)=ahM (aCZ g.Up g.L.length) g.I i k:=by unfold P0 ahM;rw[aOP a h i c,aOP a h k b];grind
def aOa{I:D_}:∀{l:D_},(∀x∈l,x∈I)->(aF0 I l).map (λi=>I.getD i default)=l|[],_=>rfl|x::l,h=>by have:=aIW ((Cz I x).2 (h x (by simp)));simp only[aF0,fG,rH,this,Mi];congr 1;exact aOa λy a=>h y (by simp[a])
def aQS(d:cardsOk cs)(h:Reach cs g){l:D_}(c:∀x∈l,x∈g.I):eO (AM cs g.L) l=(aLL (aCZ g.Up g.L.length) g.I (aF0 g.I l)).map λi=>g.I.getD i default:=by
 have o:=h.good d;have hI:=o.wf.i;have b:(aLL (aCZ g.Up g.L.length) g.I (aF0 g.I l)).Perm (aF0 g.I l):=by have:=aMa (aCZ g.Up g.L.length) g.I (aF0 g.I l) [];rwa[jO]at this
 have a:∀p∈aLL (aCZ g.Up g.L.length) g.I (aF0 g.I l),p<g.L.length:=λp f=>by obtain⟨x,e,rfl⟩:=dF.1 (b.mem_iff.1 f);have:=aIW ((Cz g.I x).2 (c x e));grind
 refine aK8 ((mE _ l).trans ?_) (U4 _ l) ?_;have:=(b.map λi=>g.I.getD i default).symm;rwa[aOa c]at this;rw[Mh];refine(aMd (aCZ g.Up g.L.length) g.I (aF0 g.I l) [] List.Pairwise.nil).imp_of_mem ?_;intro i k m j n;rw[aPZ d h k i (a k j) (a i m)];exact n
end
def aOs(g:GM)(b:List Bool)(x:Id):List Bool:=b.set (aW g.I x).toNat true
def aMe(g:GM)(ss:D_):List Bool:=ss.foldl (aOs g) (List.replicate g.L.length false)
def aOQ{g:GM}:∀(ss:D_)(b:List Bool),(ss.foldl (aOs g) b).length=b.length|[],_=>rfl|x::ss,b=>by rw[CW,aOQ ss,aOs,cL]
abbrev aIG(l:List Bool):List (List AV):=l.map λb=>[.v (.bool b)]
def aN8(B:List Bool)(k:Nat):(aIG B).set k [.v (.bool true)]=aIG (B.set k true):=by rw[aIG,aIG,Ba]
def aQ0(g:GM)(hg:g.ok)(hgi:g.I.length=g.L.length)(ss ol:D_)(ho:aA PQ G aES [.ag g.A,ids ss] [] λr T=>r=ids ol/\T=[])(hol:ol.length<=1000)(hm:∀x∈ol,x∈g.I)(hsl:ss.length<=1000)(hms:∀x∈ss,x∈g.I):
 aA PQ G aK1 [.ag g.A,ids ss] [] λr T=>r=.ag [.own 0,.own 1,.own 2,.own 3]/\T=[some (.arr 1 ((ol.map λx=>(aW g.I x).toNat).map λ(k:Nat)=>[iv (k:Int)])),some (.arr 1 (aIG (aMe g (jI (ss.filter (aE5 ss)))))),some (.arr 1 (aIG (aMe g (jI (ss.filter (aE5 ss)))))),some (.arr 1 (aIG (List.replicate g.L.length false)))]:=by
 have hn:=hg.n;have hV:=aPU (G:=G) ss (by omega);have hPl:=λx=>Dt (G:=G) g x hg;refine aC aN5 ?_;simp only[go_sem];refine cX ho ?_;simp only[go_sem,aP,show(g.L.length:Int)<=(g.L.length:Int) from Int.le_refl _,show(g.L.length:Int)*1<=140737488355328 by omega,show(g.L.length:Int)<=(maxLen:Int) by unfold maxLen;omega];have er:List.replicate g.L.length [AV.v (.bool false)]=aIG (List.replicate g.L.length false):=by rw[aIG,YH]
 rw[er];obtain⟨F0,eF⟩:∃F0:List Bool,F0=List.replicate g.L.length false:=⟨_,rfl⟩
 have hF:F0.length=g.L.length:=by rw[eF];simp
 rw[<-eF];refine aQ ol.length (λi=>⟨0,[(1,ids ss),(2,.ptr 0 0),(4,.ptr 1 0),(5,.ptr 2 0),(6,ids ol),(7,iv i)],[some (.box g.A),some (.box [.v (.slice none 0 0),.v (.slice none 0 0),.v (.slice none 0 0),.v (.slice none 0 0)]),some (.box [.own 3,.own 4,.own 5,.own 6]),some (.arr 1 (((ol.take i).map λx=>(aW g.I x).toNat).map λ(k:Nat)=>[iv (k:Int)])),some (.arr 1 (aIG F0)),some (.arr 1 (aIG F0)),some (.arr 1 (aIG F0))]⟩) (λ_=>True) ?_ trivial ?_ ?_;simp only[go_sem,uQ,uP];intro i hi _;have ws:=fQ i (by omega);have g0:(ol.map Id.A)[i]?=some ol[i].A:=aO _ ol i hi;have hp:=hPl ol[i];have hx:=(Cz g.I ol[i]).2 (hm _ (eQ hi));have e:aW g.I ol[i]=(((aW g.I ol[i]).toNat:Nat):Int):=by omega
 rw[e]at hp;have hl:((ol.take i).map λx=>(aW g.I x).toNat).length<=1000:=by rw[aP,eC];omega
 have et:((ol.take (i+1)).map λx=>(aW g.I x).toNat)=((ol.take i).map λx=>(aW g.I x).toNat)++[(aW g.I ol[i]).toNat]:=by rw[lB hi,bZ];rfl
 rw[et,bZ];generalize(ol.take i).map (λx=>(aW g.I x).toNat)=R at *
 generalize(aW g.I ol[i]).toNat=k at *
 simp only[go_sem,aP,aT hi,hi,g0];refine cX hp ?_;simp only[go_sem,aP,show(R.length+1)*8<=140737488355328 by omega,show R.length+1<=maxLen by unfold maxLen;omega,ws,fG,uP];intro _;rw[dE];simp only[go_sem,aP,aS (bP _)];refine cX hV ?_;have hmv:∀x∈jI (ss.filter (aE5 ss)),x∈g.I:=λx hx=>hms _ (gR.1 ((dQ _).mem_iff.1 hx)).1;have hlv:(jI (ss.filter (aE5 ss))).length<=1000:=by rw[Qn];exact uR (List.length_filter_le _ _) hsl
 generalize jI (ss.filter (aE5 ss))=V at *
 simp only[go_sem,rI];refine aQ V.length (λi=>⟨0,[(2,.ptr 0 0),(4,.ptr 1 0),(5,.ptr 2 0),(8,ids V),(9,iv i)],[some (.box g.A),some (.box [.v (.slice none 0 0),.v (.slice none 0 0),.v (.slice none 0 0),.v (.slice none 0 0)]),some (.box [.own 3,.own 4,.own 5,.own 6]),some (.arr 1 ((ol.map λx=>(aW g.I x).toNat).map λ(k:Nat)=>[iv (k:Int)])),some (.arr 1 (aIG ((V.take i).foldl (aOs g) F0))),some (.arr 1 (aIG ((V.take i).foldl (aOs g) F0))),some (.arr 1 (aIG F0))]⟩) (λ_=>True) ?_ trivial ?_ ?_;simp only[go_sem,uQ,Kk,rI];intro i hi _;have ws:=fQ i (by omega);have g0:(V.map Id.A)[i]?=some V[i].A:=aO _ V i hi;have hp:=hPl V[i];have hx:=(Cz g.I V[i]).2 (hmv _ (eQ hi));have hx2:(aW g.I V[i]).toNat<g.L.length:=by rw[<-hgi];exact(sV.1 (aIW hx)).1
 have e:aW g.I V[i]=(((aW g.I V[i]).toNat:Nat):Int):=by omega
 rw[e]at hp;have et:(V.take (i+1)).foldl (aOs g) F0=((V.take i).foldl (aOs g) F0).set (aW g.I V[i]).toNat true:=by rw[lB hi,Hy];rfl
 have hB:=aOQ (g:=g) (V.take i) F0;rw[et];generalize(V.take i).foldl (aOs g) F0=B at *
 generalize(aW g.I V[i]).toNat=k at *
 simp only[go_sem,aP,aT hi,hi,g0];have hk:k<B.length:=by omega
 refine cX hp ?_;have gB:(aIG B)[k]?=some [.v (.bool B[k])]:=aO _ B k hk;simp only[go_sem,hk,aP,cL,gB,undef,aN8,ws];intro _;rw[dE];simp only[go_sem,aP,aS (bP _),aMe,<-eF]
def aLP(g:GM)(l:LD)(x:Nat):V_:=if decide (x∈aCW g l)=true then l.row.filter λy=>aE4 g x y||(aCE g l y&&aC1 g l x y) else [x]
def aJb(v:List Bool)(ks:V_):List Bool:=ks.foldl (λv k=>v.set k true) v
def aHf(g:GM)(l:LD)(x:Nat):LD:=⟨l.row,aJb l.v (aLP g l x),l.f,l.d.set x true⟩
def aJG(g:GM)(s:B_):Nat->LD->LD|0,l=>l|n+1,l=>if aHe g l s<0 then l else aJG g s n (aHf g l (aHe g l s).toNat)
def LD.left(l:LD):Nat:=(l.d.filter λb=>!b).length
def aJL:∀(ks:V_)(v:List Bool),(aJb v ks).length=v.length|[],_=>rfl|k::ks,v=>by rw[aJb,CW];exact(aJL ks _).trans cL
def aNh{g:GM}{l:LD}(a:l.ok g)(x:Nat):(aHf g l x).ok g:=⟨a.row,a.n,(aJL _ _).trans a.v,by rw[aHf,cL];exact a.d⟩
def aLQ {g:GM} {l:LD} {s:B_}:∀(r:V_)(b:Int),aJK g l s r b=b\/∃x∈r,aJK g l s r b=(x:Int)/\aCE g l x=true
 |[],_=>.inl rfl
 | x::r,b=>by
  rw[aJK];split;rename_i c;split;rcases aLQ (g:=g) (l:=l) (s:=s) r (if b<0\/aBB s (byD g x)<aBB s (byD g b.toNat) then x else b) with h|⟨y,a,h⟩
  rw[h];split;exact .inr ⟨x,.head _,rfl,c⟩;exact .inl rfl;exact .inr ⟨y,.tail _ a,h⟩;exact .inr ⟨x,.head _,rfl,c⟩;rcases aLQ (g:=g) (l:=l) (s:=s) r b with h|⟨y,a,h⟩
  exact .inl h;exact .inr ⟨y,.tail _ a,h⟩
def aPa{g:GM}{l:LD}{s:B_}(h:¬aHe g l s<0):∃x∈l.row,aHe g l s=(x:Int)/\aCE g l x=true:=by rcases aLQ (g:=g) (l:=l) (s:=s) l.row (-1) with h1|h1;exact absurd (show aHe g l s<0 by rw[aHe,h1];decide) h;exact h1
def aNi:∀(d:List Bool)(x:Nat),x<d.length->d.getD x false=false->((d.set x true).filter λb=>!b).length+1=(d.filter λb=>!b).length
 |[],x,h,_=>absurd h s_|b::d,0,_,a=>by
  obtain rfl:b=false:=a;simp
 |b::d,x+1,h,a=>by have ih:=aNi d x y_ M_;cases b<;>simp_all
def LT4(l:LD):aK:=[some (.arr 1 (l.row.map λ(k:Nat)=>[iv (k:Int)])),some (.arr 1 (aIG l.v)),some (.arr 1 (aIG l.f)),some (.arr 1 (aIG l.d))]
def LT7(g:GM)(l:LD):aK:=some (.box g.A)::some (.box [.v (.slice none 0 0),.v (.slice none 0 0),.v (.slice none 0 0),.v (.slice none 0 0)])::some (.box [.own 3,.own 4,.own 5,.own 6])::LT4 l
def LT8(g:GM)(l:LD)(L:V_):aK:=[some (.box g.A),some (.box [.v (.slice none 0 0),.v (.slice none 0 0),.v (.slice none 0 0),.v (.slice none 0 0)]),some (.box [.own 4,.own 5,.own 6,.own 7]),some (.arr 1 (L.map λ(k:Nat)=>[iv (k:Int)])),some (.arr 1 (l.row.map λ(k:Nat)=>[iv (k:Int)])),some (.arr 1 (aIG l.v)),some (.arr 1 (aIG l.f)),some (.arr 1 (aIG l.d))]
def aOR(g:GM)(J:g.ok)(ss:D_)(p:LD)(F:p.ok g)(hw:p.row.length<=900)(W:∀v i ab,(aE2 g ((p.row.take i).foldl (aE3 g v) []) ab).need)(s:B_)(hs:s.length<=100000)(hL:aA PQ G aK1 [.ag g.A,ids ss] [] λr T=>r=.ag [.own 0,.own 1,.own 2,.own 3]/\T=LT4 p)(hS:aA PQ G aGf [.ag g.A,ids ss] [] λr T=>r=rG s/\T=[]):
 aA PQ G aBF [.ag g.A,ids ss] [] λr T=>r=.ag [.own 0,.own 1,.own 2,.own 3]/\T=LT4 (aJG g s p.left p):=by
 have hn:=J.n;have hN:∀l:LD,l.ok g->aA PQ G aIX [.ag g.A,.ag l.A,rG s] [] λr T=>r=iv (aHe g l s)/\T=[]:=λl o=>aPX (G:=G) g J l o s hs;have aa:=hN p F;apply aC aM7;simp only[go_sem];apply kM hL;simp only[go_sem,LT4];apply cX hS;simp only[go_sem];apply iJ (aB _) rfl rfl aa;simp only[go_sem];apply cO (λm st=>∃l:LD,l.ok g/\l.row=p.row/\l.left=m/\aJG g s m l=aJG g s p.left p/\st=⟨0,[(2,.ptr 0 0),(4,.ptr 1 0),(5,.ptr 2 0),(6,rG s),(7,iv (aHe g l s))],LT7 g l⟩) p.left ⟨p,F,rfl,rfl,rfl,by simp only[go_sem,LT7,LT4]⟩;rintro m st ⟨l,o,U,hm,M,rfl⟩;rcases Int.lt_or_le (aHe g l s) 0 with D|ac;have e:aJG g s m l=l:=by
  cases m with
  |zero=>rfl|succ m=>rw[aJG,if_pos D]
 rw[<-M,e];simp only[go_sem,LT7,LT4,decide_eq_false (o_:¬(0:Int)<=aHe g l s)];obtain⟨x,hx,ex,V⟩:=aPa (o_:¬aHe g l s<0);have u:=o.row x hx;have hd:l.d.getD x false=false:=by
  unfold aCE at V
  cases h:l.d.getD x false with
  |false=>rfl|true=>rw[h]at V;simp at V
 have ae:=aNi l.d x (by rw[o.d];exact u) hd;have hG:=aO8 (G:=G) g J l o (by rw[U];exact hw) (by rw[U];exact W l.v);have hH:=aI8 (G:=G) (aCW g l) x (by have:=aIK (g:=g) (v:=l.v) l.row [];have:=o.n;unfold aCW;simp only[gQ]at *;omega);rw[ex];obtain⟨m,rfl⟩:∃m',m=m'+1:=⟨m-1,by unfold LD.left at hm;omega⟩
 rw[aJG,if_neg o_,ex,nI]at M;have t:=aNh o x;have E:(aHf g l x).left=m:=by unfold LD.left at hm⊢;simp only[aHf];omega
 generalize q:aLP g l x=b at *
 simp only[go_sem,LT7,LT4];apply cH (aB _) rfl rfl hG;rintro _ T' ⟨rfl,rfl⟩;refine⟨z_,by simp only[cA,forall_eq,xH,dF];rintro e ⟨a,_,rfl⟩ c hc;exact⟨_,cA.1 hc⟩,?_⟩;simp only[go_sem];apply iJ (aB _) rfl rfl hH;simp only[go_sem];generalize hP:(λy=>aE4 g x y||(aCE g l y&&aC1 g l x y))=P at *
 refine aQ l.row.length (λi=>⟨0,[(2,.ptr 0 0),(4,.ptr 1 0),(5,.ptr 2 0),(6,rG s),(7,iv x),(8,.v (.bool (decide (x∈aCW g l)))),(9,.own 3),(10,iv i)],LT8 g l ((l.row.take i).filter P)⟩) (λ_=>True) ?_ trivial ?_ ?_;simp only[go_sem,LT8,uQ,List.filter_nil,uP];intro i j _;have w:=fQ i (by have:=o.n;omega);have Q:=o.row _ (eQ j);have z:(l.row.map λ(k:Nat)=>[iv (k:Int)])[i]?=some [iv (l.row[i]:Int)]:=aO _ l.row i j;have N:=aM9 (G:=G) g J x l.row[i] u Q;have Z:=aOM (G:=G) g l o l.row[i] Q hn;have hW:=aO9 (G:=G) g J l o x l.row[i] u Q;have af:((l.row.take i).filter P).length<=1000:=by have h1:=List.length_filter_le P (l.row.take i);rw[eC]at h1;have:=o.n;omega
 have ft:(l.row.take (i+1)).filter P=(l.row.take i).filter P++(if(aE4 g x l.row[i]||(aCE g l l.row[i]&&aC1 g l x l.row[i]))=true then [l.row[i]] else []):=by rw[lB j,Mf,List.filter_cons,List.filter_nil,<-hP]
 rw[ft];generalize(l.row.take i).filter P=R at *
 generalize aE4 g x l.row[i]=C at *
 generalize aCE g l l.row[i]=K at *
 generalize aC1 g l x l.row[i]=O at *
 rcases(show C=true\/(C=false/\K=false)\/(C=false/\K=true/\O=false)\/(C=false/\K=true/\O=true) by cases C<;>cases K<;>cases O<;>simp) with rfl|⟨rfl,rfl⟩|⟨rfl,rfl,rfl⟩|⟨rfl,rfl,rfl⟩
 rw[EI,if_pos rfl];simp only[go_sem,LT8,aP,aT j,j,z];apply cX N;simp only[go_sem,LT8,undef,w,aP,bZ,fG,uP,(o_:(R.length+1)*8<=140737488355328),(g_:R.length+1<=maxLen)];rw[EH,lR,if_neg d_,jO];simp only[go_sem,LT8,aP,aT j,j,z];apply cX N;simp only[go_sem,LT8];apply iJ (aB _) rfl rfl Z;simp only[go_sem,LT8,undef,w];rw[EH,mF,if_neg d_,jO];simp only[go_sem,LT8,aP,aT j,j,z];apply cX N;simp only[go_sem,LT8];apply iJ (aB _) rfl rfl Z;simp only[go_sem];apply iJ (aB _) rfl rfl hW;simp only[go_sem,LT8,undef,w];rw[EH,mF,if_pos rfl];simp only[go_sem,LT8,aP,aT j,j,z];apply cX N;simp only[go_sem,LT8];apply iJ (aB _) rfl rfl Z;simp only[go_sem];apply iJ (aB _) rfl rfl hW;simp only[go_sem,LT8,undef,w,aP,bZ,fG,uP,(o_:(R.length+1)*8<=140737488355328),(g_:R.length+1<=maxLen)];intro _;rw[dE];have S:∀k∈b,k<g.L.length:=by rw[<-q];unfold aLP;split;exact λk u=>o.row k (gR.1 u).1;intro k Y;rw[cA.1 Y];exact u
 have ad:b.length<=1000:=by rw[<-q];unfold aLP;split;exact uR (List.length_filter_le _ _) o.n;simp
 have H:x<l.d.length:=by rw[o.d];exact u
 have gd:(aIG l.d)[x]?=some [.v (.bool l.d[x])]:=aO _ l.d x H;have nG:aHf g l x=⟨l.row,aJb l.v b,l.f,l.d.set x true⟩:=by rw[aHf,q]
 rcases(show(decide (x∈aCW g l)=false/\b=[x])\/(decide (x∈aCW g l)=true/\b=l.row.filter P) by
  cases c1:decide (x∈aCW g l);exact .inl ⟨rfl,by rw[<-q,aLP,c1,if_neg d_]⟩
  exact .inr ⟨rfl,by rw[<-q,aLP,c1,if_pos rfl,hP]⟩) with⟨c1,ev⟩|⟨c1,ev⟩
 all_goals (
  simp only[go_sem,LT8,aP,aS (bP _),c1,H,gd,undef,aN8]
  refine aQ b.length (λi=>⟨0,[(2,.ptr 0 0),(4,.ptr 1 0),(5,.ptr 2 0),(6,rG s),(9,.own 3),(12,iv i)],LT8 g ⟨l.row,aJb l.v (b.take i),l.f,l.d.set x true⟩ b⟩) (λ_=>True) ?_ trivial ?_ ?_
  simp only[go_sem,LT8,ev,fG,uP,uQ,aJb,Kk]
  intro i j _
  have w:=fQ i o_
  have hv:=S _ (eQ j)
  have z:(b.map λ(k:Nat)=>[iv (k:Int)])[i]?=some [iv (b[i]:Int)]:=aO _ b i j
  have hB:=(aJL (b.take i) l.v).trans o.v
  have ft:aJb l.v (b.take (i+1))=(aJb l.v (b.take i)).set b[i] true:=by rw[aJb,lB j,Hy];rfl
  rw[ft]
  generalize aJb l.v (b.take i)=B at *
  have I:b[i]<B.length:=o_
  have gB:(aIG B)[b[i]]?=some [.v (.bool B[b[i]])]:=aO _ B _ I
  simp only[go_sem,LT8,aP,aT j,j,z,I,gB,undef,aN8,w]
  intro _
  rw[dE]
  rw[nG]at t E M
  have X:=hN _ t
  simp only[go_sem,LT8,aP,aS (bP _)]
  apply iJ (aB _) rfl rfl X
  simp only[go_sem]
  exact⟨m,Nat.lt_succ_self m,_,t,U,E,M,rfl⟩)
end Hud
