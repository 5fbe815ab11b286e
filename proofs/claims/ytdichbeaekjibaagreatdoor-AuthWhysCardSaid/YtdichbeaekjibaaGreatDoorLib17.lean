import Derived.Test.YtdichbeaekjibaaGreatDoorLib16
set_option linter.all false
set_option maxHeartbeats 40000000
namespace Hud
open Go
variable{G:L_}
def P1:O_:=[iv 0,iv 0,iv 0,iv 0,.v (.slice none 0 0),iv 0,iv 0,iv 0,iv 0,.v (.slice none 0 0),iv 0,iv 0,.v (.int .u64 0),iv 0,.v (.slice none 0 0),.v (.slice none 0 0),iv 0,iv 0,.v (.int .u64 0),.v (.slice none 0 0),iv 0,iv 0,.v (.slice none 0 0),.v (.int .u64 0),.v (.slice none 0 0),.v (.int .u64 0),.v (.int .u64 0)]
def ndT(n:ND):n.A.take 27=n.o.A:=Y_
def aFR{g:PGM}(c:g.ok){x:Id}(b:x∈g.I):(g.nd x).o.ok:=by
 obtain⟨j,h1,h2,_⟩:=dG b;have a:j<g.nodes.length:=by grind[PGM.I]
 rw[RA h1,rH,jN a];exact c.ops _ (eQ a)
def aDQ(g:PGM)(c:g.ok)(x:Id)(b:x∈g.I):aA PQ G bY [.ptr 0 0,.ag x.A] (TG 0 g) λr T=>r=.tup [.ag (g.nd x).o.A,.v (.bool true)]/\T=TG 0 g:=by
 apply aC yZ;have p:=AL x;have a:=qH x g.I 0;obtain⟨j,h1,h2,_⟩:=dG b;have e:=RA h1;rw[h1]at a;have i:=yC g.I.length j h2;have f:j<g.nodes.length:=by grind[PGM.I]
 have k:(g.nodes.map ND.A)[j]?=some (g.nd x).A:=u_;have h:=(Q9 c x).1;have m:=ND.Alen (g.nd x) h;have l:=ndT (g.nd x);have d:=aFR c b;simp only[iX,mG]at a;generalize(g.nd x)=n at *
 simp only[go_sem,TG,MG,a,i,aP,f,k,m,l];apply cX (ZH n.o d);simp only[go_sem]
def aAY(g:PGM)(x:Id)(b:x∉g.I):aA PQ G bY [.ptr 0 0,.ag x.A] (TG 0 g) λr T=>r=.tup [.ag P1,.v (.bool false)]/\T=TG 0 g:=by refine aC yZ ?_;have c:=AL x;have a:=qH x g.I 0;rw[eG b]at a;simp only[xD]at a;simp only[go_sem,TG,MG,a,P1]
end Hud
namespace Hud
set_option maxRecDepth 99999
open Go
open W
def Lb:=eVf (cF mI [])
def KA:=eVf (cF pN [])
def P2:=eVf (cF wB [])
def Oc:=eVf (cF Bh [(5,none,3)])
def Cv:=eVf (cF eZ [])
def Oe:=eVf (cF Bj [])
def Sv:=eVf (cF F6 [])
def ES:=eVf (cF oO [])
def Gg:=eVf (cF nJ [(2,none,3),(3,none,3),(0,none,1002)])
def Lc:=eVf (cF DM [])
def ET:=eVf (cF tX [])
def BG:=eVf (cF pD [(0,none,1002)])
def Ld:cF DQ [(4,none,2),(12,none,2)]=some ⟨75,[(4,none)],Z [0] (S [R0 4 1 [M z],R0 15 1 [A 5 (x (.mkm true))],R0 16 1 [A 6 (x (.mkm false))],S [R 18 0 [1] [A 17 t1,n (t 17),A 19 w0],ra 0 19 (t 18) 20 [17,19,5,18] 58 (S [R0 21 2 [L 3 (i 3 (t 17) (t 19)),J 8 (s 3 (al zI) (t 22))],R0 23 5 [q2 [z0,z0] (l (f 0 t8)) (l (f 1 t8)),J 9 (s 2 (al [z0,z0]) (t 27))],D 28 6 [] [v5,L 2 t9,ad (x (.lku true [.int .i64,.int .i64] z0 (zt 28) (zt 29) false)) w1,e 1 (K [zo 31 (.bin .add (zt 30) (zw 1)),zo 30 (.lku true [.int .i64,.int .i64] z0 (zt 28) (zt 29) false)] (xh (.men true [.int .i64,.int .i64] z0 (zt 28) (zt 29)))),Yh (.mst (zt 28) (zt 33) (zt 31))],S [R 34 3 [9] [v5,L 2 t9,ls (x (.lku true [.int .i64,.int .i64] z0 (zt 34) (zt 35) false)) w2],If 37 [8] (ex 1)],R 39 4 [44,43,38] [v6,l (f 0 t8),x (.lku false [.int .i64] z0 (zt 39) (zt 41) true),J 38 (v 42),J 43 (e 0 (t 38)),e 1 (t 38),A 10 (t 43),A 11 (t 44)],R 45 7 [11,10] [O (o v11) (ls (l (f 1 t8)) v10)],Iz 52 [] (R 53 5 [8] [v6,l (f 0 t8),l (f 1 t8),Y (.mup false [.int .i64] (zt 53) (zt 55) (zt 57))]) [8]])],S [iz 12,ow 12 2],S [R 59 1 [6] [v6,x (.rgm (zt 59))],lo 2 (S [R0 61 1 [e 0 (x (.nxt (zt 60)))],Ie 62 [] .skip [60] (ex 2),bw 3 (S [R0 63 3 [e 0 (x (.ent (zt 60))),e 1 (t 63),A 13 (t 64),A 14 (t 65)],R 66 6 [13,14] [A 12 (a 2 16 v12 (ba 2 [z0,z0] (q2 [z0,z0] v13 v14)))],ow 12 2])])],R0 72 2 [c2 jR v12 (kc (.func qT))],S [R 74 1 [12] [A 4 v12],ow 4 2],.ret])⟩:=a_
def Sw:=eVf (cF Jp [(9,none,3)])
def KB:=eVf (cF wN [])
def D0:=eVf (cF kJ [])
def JD:=eVf (cF uX [(5,some 0,1)])
def Cw:=eVf (cF mL [(0,none,1002)])
def KD:=eVf (cF CG [])
def Cx:=eVf (cF mM [])
def Fb:=eVf (cF uY [])
def Fc:=eVf (cF qF [])
def yD:=eVf (cF iN [])
def JE:=eVf (cF qT [])
def Hi:=eVf (cF pG [])
def Og:=eVf (cF Kw [])
def D1:=eVf (cF nD [])
def BH:=eVf (cF nN [])
def Cy:=eVf (cF CH [])
end Hud
namespace Hud
open Go
variable{G:L_}
def oH(g:PGM)(x y:Id):Bool:=decide (x∈g.I)&&(decide (y∈g.I)&&qK (g.nd y).W (g.at x))
def XF(es:N_)(j p:Nat)(c post:O_)(q:c.length=p)(W:V_)(n:Nat)(d:Hu W)(w:n<256)(t:es[j]?=some (c++(oC W++post))):aA PQ G pE [.elt 0 35 j p,iv n] [some (.arr 35 es)] λr T=>r=.v (.bool (qK W n))/\T=[some (.arr 35 es)]:=by
 apply aC Ar;have l:bV .quo (.int .i64 (n:Int)) (.int .i64 64)=some (.int .i64 ((n/64:Nat):Int)):=J6 n 64 d_ o_;have q2:bV .rem (.int .i64 (n:Int)) (.int .i64 64)=some (.int .i64 ((n%64:Nat):Int)):=J7 n 64 d_;have s:n%64<64:=zM _ d_;have h:n/64<4:=o_;have f:=AJ d (n/64);have k:=Q4 (W.getD (n/64) 0) (n%64) s f;have u:bV .and (.int .u64 ((W.getD (n/64) 0/2^(n%64):Nat):Int)) (.int .u64 1)=some (.int .u64 ((W.getD (n/64) 0/2^(n%64) &&& 1:Nat):Int)):=J5 _ 1 (QJ (Ml _ _) f) d_;have t1:=K0 (W.getD (n/64) 0) (n%64);have i:=Sq c (oC W) post (n/64) (by rw[aP,d.1];exact h);rw[Dw W (n/64) (by rw[d.1];exact h),q]at i;have o:(0:Int)<=((n/64:Nat):Int):=o_;have m:((n/64:Nat):Int)<4:=o_;have g:qK W n=(W.getD (n/64) 0).testBit (n%64):=rfl;rw[g,<-t1];clear t1 g;generalize n/64=a at *
 generalize n%64=b at *
 generalize c++(oC W++post)=e at *
 simp only[go_sem,↓l,↓q2,↓k,↓u,o,m,i,t,Bb,pQ]
def aDR (g:PGM) (i:g.ok) (x y:Id):aA PQ G eZ [.ptr 0 0,.ag x.A,.ag y.A] (TG 0 g) λr T=>r=.v (.bool (oH g x y))/\T=TG 0 g:=by
 apply aC Cv;have s:=AL x;have q:=AL y;have b:=qH x g.I 0;have a:=qH y g.I 0;by_cases h1:x∈g.I;obtain⟨j,m,p,_⟩:=dG h1;have l:=yC g.I.length j p;rw[m]at b;simp only[iX,mG]at b;by_cases h2:y∈g.I;obtain⟨k,d,e,_⟩:=dG h2;have h:=yC g.I.length k e;rw[d]at a;simp only[iX,mG]at a;have f:k<g.nodes.length:=by grind[PGM.I]
 have z:j<g.nodes.length:=by grind[PGM.I]
 have w:=i.n;have u:(g.nodes.map ND.A)[k]?=some ((g.nd y).o.A++(g.nd y).id.A++(oC (g.nd y).W++[iv (g.nd y).lv])):=by rw[gE,jN f,RA d,rH,jN f];rfl
 have c:oH g x y=qK (g.nd y).W j:=by unfold oH;rw[decide_eq_true h1,decide_eq_true h2,show g.at x=j by simp[PGM.at,m]];rfl
 rw[c];have t:=XF (G:=G) (g.nodes.map ND.A) k 30 ((g.nd y).o.A++(g.nd y).id.A) [iv (g.nd y).lv] (by rw[dZ,OpM.len];rfl) (g.nd y).W j (Q9 i y) o_ u;simp only[go_sem,TG,MG,b,a,l,h,aP,f];apply aG [2] (aB _) d_ s_ rfl rfl t;rintro r B ⟨rfl,rfl⟩;simp only[go_sem];rw[eG h2]at a;simp only[xD]at a;have c:oH g x y=false:=by grind[oH]
 rw[c];simp only[go_sem,TG,MG,b,a,l];rw[eG h1]at b;simp only[xD]at b;have c:oH g x y=false:=by grind[oH]
 rw[c];by_cases h2:y∈g.I;obtain⟨k,d,e,_⟩:=dG h2;have h:=yC g.I.length k e;rw[d]at a;simp only[iX,mG]at a;simp only[go_sem,TG,MG,b,a,h];rw[eG h2]at a;simp only[xD]at a;simp only[go_sem,TG,MG,b,a]
def aAZ(g:PGM)(a:g.ok):aA PQ G kJ [.ptr 0 0] (TG 0 g) λr T=>r=.ls 5 (g.cards.map CardM.A)/\T=TG 0 g:=by refine aC D0 ?_;have b:=a.cn;simp only[go_sem,TG,MG];apply cX (BB _ I_);simp only[go_sem]
def U6(cs:List CardM)(o:OpM)(d:Int):Bool :=
 if o.Kind==13 then d==o.Old else if o.Device !=0 then d==o.Device else(gM cs d).2&&((gM cs d).1.Member==o.Member)
def Oh(cs:List CardM)(a b:OpM):Bool :=
 if a.Kind==3||a.Kind==13 then !((a.Kind==13&&b.Kind==12)&&decide (a.Of=b.Of))&&U6 cs a b.By else
 if a.Kind==12 then(b.Kind==13&&decide (b.Of=a.Of))&&decide (a.At<=b.At) else false
def lA(g:PGM)(x y:Id):Bool :=
 decide (x∈g.I)&&(decide (y∈g.I)&&(!decide (x=y)&&(!oH g y x&&(!oH g x y&&Oh g.cards (g.nd x).o (g.nd y).o))))
def aFS(g:PGM)(c:g.ok)(o:OpM)(d:Int):aA PQ G Bj [.ptr 0 0,.ag o.A,iv d] (TG 0 g) λr T=>r=.v (.bool (U6 g.cards o d))/\T=TG 0 g:=by refine aC Oe ?_;unfold U6;have b:=ZI (G:=G) g d (by have:=c.cn;omega);simp only[go_sem,TG,MG]at b⊢;cases f:(o.Kind==13);cases a:(o.Device !=0);simp only[go_sem,a];apply aG [0,1,2] (aB _) d_ s_ f_ f_ b;rintro r h ⟨rfl,rfl⟩;cases e:(gM g.cards d).2;simp only[go_sem,CardM.A_def,undef];simp only[go_sem,CardM.A_def];simp only[go_sem,a];simp only[go_sem]
def B3(g:GM)(ids:D_)(i:Nat):Bool:=ids.any λx=>decide (0<=aW g.I x)&&(g.In.getD (aW g.I x).toNat []).getD i false
def Le(I:D_)(p:Nat->Bool)(n:Nat):D_:=((List.range n).filter p).map λi=>I.getD i default
def rV(g:GM)(ids:D_):D_:=jI (Le g.I (B3 g ids) g.L.length)
def uD(I a out:D_)(x:Id):D_:=if(decide (0<=aW I x)&&(!decide (x∈a)&&!decide (x∈out))) then out++[x] else out
def yV(g:GM)(ids:D_):D_:=jI (ids.foldl (uD g.I (rV g ids)) [])
def vL(I out:D_)(x:Id):D_:=if(decide (0<=aW I x)&&!decide (x∈out)) then out++[x] else out
def Fd(g:GM)(ids:D_):D_:=jI (ids.foldl (vL g.I) (rV g ids))
def vM(d:Int)(n:Int)(x:Id):Int:=if x.a=d then(if n<x.b then x.b else n) else n
def Sx(ids:D_)(d:Int):Int:=ids.foldl (vM d) 0+1
def vN(g:GM)(t:Int)(x:Id):Int:=if 0<=aW g.I x then(if t<(g.L.getD (aW g.I x).toNat default).At then(g.L.getD (aW g.I x).toNat default).At else t) else t
def Fe(g:GM)(ids:D_):Int:=ids.foldl (vN g) 0
def aDS(I:D_)(p:Nat->Bool)(n:Nat):Le I p (n+1)=Le I p n++(if p n then [I.getD n default] else []):=by grind[Le,List.range_succ]
def JF(I:D_)(p:Nat->Bool)(n:Nat):(Le I p n).length<=n:=by grind[Le,List.length_map]
def U7 (g:GM) (a:D_) (d:g.ok) (M:a.length<=100000):aA PQ G An [.ag g.A,ids a] [] λr T=>r=.own 0/\T=[some (.arr 3 ((rV g a).map Id.A))]:=by
 apply aC Pb;have K:=d.n;simp only[go_sem];refine aQ g.L.length (λi=>⟨0,[(1,ids a),(2,.ptr 0 0),(5,.own 1),(6,iv i)],[some (.box g.A),some (.arr 3 ((Le g.I (B3 g a) i).map Id.A))]⟩) (λ_=>True) ?_ trivial ?_ ?_;rfl;intro i h _;have q:=fQ i o_;have F:(g.I.map Id.A)[i]?=some (g.I.getD i default).A:=by rw[gE,rH,jN (by rw[d.i];exact h)];rfl
 have D:=d.i;have m:=JF g.I (B3 g a) i;rw[aDS];generalize Le g.I (B3 g a) i=X at *
 generalize g.I.getD i default=J at *
 simp only[go_sem,aP,aT h];refine aQ a.length (λk=>⟨0,[(1,ids a),(2,.ptr 0 0),(5,.own 1),(6,iv i),(7,.v (.bool ((a.take k).any λx=>decide (0<=aW g.I x)&&(g.In.getD (aW g.I x).toNat []).getD i false))),(8,iv k)],[some (.box g.A),some (.arr 3 (X.map Id.A))]⟩) (λ_=>True) ?_ trivial ?_ ?_;simp only[go_sem,uQ,List.any_nil];intro k p _;have H:(a.map Id.A)[k]?=some a[k].A:=aO _ a k p;have j:=fQ k o_;rw[ZE _ a k p];generalize((a.take k).any λx=>decide (0<=aW g.I x)&&(g.In.getD (aW g.I x).toNat []).getD i false)=is;generalize a[k]=x at *
 simp only[go_sem,aP,aT p,H];apply cX (Dt g x d);have y:=AZ g.I x;cases is;simp only[go_sem,ge_iff_le];cases s:decide (0<=aW g.I x);simp only[go_sem,undef,j,lR,EB];have o:0<=aW g.I x:=of_decide_eq_true s;have B:=d.inn;have w:(aW g.I x).toNat<g.L.length:=o_;have f:(g.In.map λl=>[wI l])[(aW g.I x).toNat]?=some [wI (g.In.getD (aW g.I x).toNat [])]:=u_;have u:(g.In.getD (aW g.I x).toNat []).length=g.L.length:=by rw[rH,jN o_];exact d.ins _ (eQ _)
 have E:((g.In.getD (aW g.I x).toNat []).map λb=>[AV.v (.bool b)])[i]?=some [AV.v (.bool ((g.In.getD (aW g.I x).toNat []).getD i false))]:=u_;have z:(if 0>aW g.I x then(0:Int) else aW g.I x)=aW g.I x:=if_neg o_;simp only[go_sem,z,o,f,E,j,mF,EH];simp only[go_sem,undef,j,EI];intro _;rw[dE];have C:(a.any λx=>decide (0<=aW g.I x)&&(g.In.getD (aW g.I x).toNat []).getD i false)=B3 g a i:=rfl;rw[C];cases s:B3 g a i;simp only[go_sem,aP,aS (bP _),q];simp only[go_sem,aP,aS (bP _),q,F,bZ,(g_:X.length+1<=maxLen),(o_:(X.length+1)*24<=140737488355328)];intro _;have m:=JF g.I (B3 g a) g.L.length;simp only[go_sem,aP,aS (bP _)];apply cH (aB _) rfl rfl (AD _ o_);rintro r N ⟨rfl,rfl⟩;refine⟨z_,by simp only[cA,xH,forall_eq,dF];rintro e ⟨b,_,rfl⟩ c t;simp only[Id.A,cS,pP,or_false]at t;rcases t with rfl|rfl|rfl<;>exact⟨_,rfl⟩,?_⟩;simp only[go_sem];rfl
def aB0(g:GM)(a:D_)(c:g.ok)(b:a.length<=100000):aA PQ G An [.ag g.A,ids a] [] λr T=>r=ids (rV g a)/\T=[]:=by refine(U7 g a c b).fin [0] ?_;rintro r d ⟨rfl,rfl⟩;simp only[go_sem,gQ]
def MR(l:D_):∀e∈l.map Id.A,∀c∈e,∃x,c=AV.v x:=by grind[Id.A]
def Oi(g:GM)(a:D_)(b:g.ok):(rV g a).length<=1000:=by unfold rV;rw[Qn];have:=JF g.I (B3 g a) g.L.length;have:=b.n;omega
def KE(I a:D_):∀(l:D_)(out:D_),(l.foldl (uD I a) out).length<=out.length+l.length|[],out=>by simp|x::l,out=>by rw[CW];have:=KE I a l (uD I a out x);grind[uD,List.length_cons]
def GN(I:D_):∀(l:D_)(out:D_),(l.foldl (vL I) out).length<=out.length+l.length|[],out=>by simp|x::l,out=>by rw[CW];have:=GN I l (vL I out x);grind[vL,List.length_cons]
def GO{α a:Type}(f:a->α->a)(b:a)(l:List α)(i:Nat)(h:i<l.length):(l.take (i+1)).foldl f b=f ((l.take i).foldl f b) l[i]:=by rw[lB h,Hy];rfl
def aFT(g:GM)(a:D_)(h:g.ok)(l:a.length<=100000):aA PQ G xR [.ag g.A,ids a] [] λr T=>r=.own 0/\T=[some (.arr 3 ((yV g a).map Id.A))]:=by
 apply aC Nb;have m:=Oi g a h;simp only[go_sem];apply cX (aB0 g a h l);unfold yV;generalize rV g a=c at *
 simp only[go_sem];refine aQ a.length (λi=>⟨0,[(1,ids a),(2,.ptr 0 0),(5,ids c),(6,.own 1),(7,iv i)],[some (.box g.A),some (.arr 3 (((a.take i).foldl (uD g.I c) []).map Id.A))]⟩) (λ_=>True) ?_ trivial ?_ ?_;simp only[go_sem,uQ,Kk]
 ·intro i d _;have e:=fQ i o_;have f:(a.map Id.A)[i]?=some a[i].A:=aO _ a i d;have b:=KE g.I c (a.take i) [];rw[eC]at b;simp only[gQ]at b;rw[GO _ _ a i d];generalize(a.take i).foldl (uD g.I c) []=out at *
  generalize a[i]=x at *
  have k:out.length+1<=maxLen:=g_;have j:(out.length+1)*24<=140737488355328:=o_;simp only[go_sem,aP,aT d,f];apply cX (Dt g x h);simp only[go_sem,ge_iff_le];cases h1:decide (0<=aW g.I x);simp only[go_sem,undef,e,uD,h1,lR,jJ];simp only[go_sem,f];apply cX (uJ c x g_);cases h2:decide (x∈c);rotate_left;simp only[go_sem,undef,e,uD,h1,h2,lI,lR,Ea,jJ];simp only[go_sem,f];apply cH (aB _) rfl rfl (uJ out x o_);rintro r n ⟨rfl,rfl⟩;refine⟨z_,s_,?_⟩;cases h3:decide (x∈out);simp only[go_sem,aP,f,k,j,e,uD,h1,h2,h3,sF,mF,bZ];simp only[go_sem,e,uD,h1,h2,h3,lI,sF,Ea,jJ]
 intro _;rw[dE];have b:=KE g.I c a [];simp only[gQ]at b;generalize a.foldl (uD g.I c) []=out at *
 simp only[go_sem,aP,aS (bP _)];apply cH (aB _) rfl rfl (AD out o_);rintro r n ⟨rfl,rfl⟩;refine⟨z_,by simp only[cA,xH,forall_eq];exact MR _,?_⟩;simp only[go_sem]
def XG(g:GM)(a:D_)(f:g.ok)(l:a.length<=100000):aA PQ G qR [.ag g.A,ids a] [] λr T=>r=.own 0/\T=[some (.arr 3 ((Fd g a).map Id.A))]:=by
 apply aC PX;have m:=Oi g a f;simp only[go_sem];apply kM (U7 g a f l);unfold Fd;generalize rV g a=d at *
 simp only[go_sem];refine aQ a.length (λi=>⟨0,[(1,ids a),(2,.ptr 0 0),(5,.own 1),(6,iv i)],[some (.box g.A),some (.arr 3 (((a.take i).foldl (vL g.I) d).map Id.A))]⟩) (λ_=>True) ?_ trivial ?_ ?_;rfl;intro i b _;have e:=fQ i o_;have h:(a.map Id.A)[i]?=some a[i].A:=aO _ a i b;have c:=GN g.I (a.take i) d;rw[eC]at c;rw[GO _ _ a i b];generalize(a.take i).foldl (vL g.I) d=out at *
 generalize a[i]=x at *
 have k:out.length+1<=maxLen:=g_;have j:(out.length+1)*24<=140737488355328:=o_;simp only[go_sem,aP,aT b,h];apply cX (Dt g x f);simp only[go_sem,ge_iff_le];cases h1:decide (0<=aW g.I x);simp only[go_sem,undef,e,vL,h1,lR,jJ];simp only[go_sem,h];apply cH (aB _) rfl rfl (uJ out x o_);rintro r n ⟨rfl,rfl⟩;refine⟨z_,s_,?_⟩;cases h3:decide (x∈out);simp only[go_sem,aP,h,k,j,e,vL,h1,h3,sF,mF,bZ];simp only[go_sem,e,vL,h1,h3,lI,Ea,jJ];intro _;rw[dE];have c:=GN g.I a d;generalize a.foldl (vL g.I) d=out at *
 simp only[go_sem,aP,aS (bP _)];apply cH (aB _) rfl rfl (AD out o_);rintro r n ⟨rfl,rfl⟩;refine⟨z_,by simp only[cA,xH,forall_eq];exact MR _,?_⟩;simp only[go_sem]
def U9(g:GM)(a:D_)(c:g.ok)(b:a.length<=100000):aA PQ G xR [.ag g.A,ids a] [] λr T=>r=ids (yV g a)/\T=[]:=by refine(aFT g a c b).fin [0] ?_;rintro r d ⟨rfl,rfl⟩;simp only[go_sem,gQ]
def ZL(g:GM)(a:D_)(c:g.ok)(b:a.length<=100000):aA PQ G qR [.ag g.A,ids a] [] λr T=>r=ids (Fd g a)/\T=[]:=by refine(XG g a c b).fin [0] ?_;rintro r d ⟨rfl,rfl⟩;simp only[go_sem,gQ]
def JG(g:GM)(a:g.ok):aA PQ G AU [.ag g.A] [] λr T=>r=ids (jI g.I)/\T=[]:=by refine aA.fin (p:=λr T=>r=.own 0/\T=[some (.arr 3 ((jI g.I).map Id.A))]) (aC SB ?_) [0] ?_;have b:=a.n;have c:=a.i;simp only[go_sem];apply kM (AD g.I o_);simp only[go_sem];rintro r d ⟨rfl,rfl⟩;simp only[go_sem,gQ]
def XH(d:Int):∀(l:D_)(n:Int),n<=l.foldl (vM d) n|[],n=>Int.le_refl _|x::l,n=>Int.le_trans (by unfold vM;split<;>(try split)<;>omega) (XH d l (vM d n x))
def XI(d B:Int):∀(l:D_)(n:Int),n<=B->(∀x∈l,x.b<=B)->l.foldl (vM d) n<=B|[],n,h,_=>h|x::l,n,h,a=>XI d B l _ (by have:=a x EV;unfold vM;split<;>(try split)<;>omega) λy c=>a y (GU _ c)
def aH7(g:GM)(e:D_)(d:Int)(m:e.length<=100000)(l:∀x∈e,x.b<=9223372036854775806):aA PQ G F8 [.ag g.A,ids e,iv d] [] λr T=>r=iv (Sx e d)/\T=[]:=by
 apply aC SC;simp only[go_sem];refine aQ e.length (λi=>⟨0,[(1,ids e),(2,iv d),(7,iv ((e.take i).foldl (vM d) 0)),(8,iv i)],[]⟩) (λ_=>True) ?_ trivial ?_ ?_;rfl;intro i f _;have j:=fQ i o_;have k:(e.map Id.A)[i]?=some [.v (.int .i64 e[i].a),.v (.int .i64 e[i].b),.v (.int .u64 e[i].c)]:=aO _ e i f;rw[GO _ _ e i f];generalize(e.take i).foldl (vM d) 0=n at *
 generalize e[i]=x at *
 simp only[go_sem,aP,aT f,k];refine aL (λh=>?_) (λh=>?_)<;>simp only[beq_iff_eq,beq_eq_false_iff_ne,ne_eq]at h;simp only[go_sem,k,j,vM,h,gt_iff_lt];simp only[go_sem,j,vM,h];intro _;rw[dE];have h1:=XH d e 0;have h2:=XI d 9223372036854775806 e 0 o_ l;have w1:IntKind.i64.wrap (e.foldl (vM d) 0+1)=Sx e d:=aJ o_ o_;simp only[go_sem,aP,aS (bP _),w1]
def aDT(g:GM)(a:D_)(c:g.ok)(l:a.length<=100000):aA PQ G DP [.ag g.A,ids a] [] λr T=>r=iv (Fe g a)/\T=[]:=by
 apply aC PY;have k:=c.n;simp only[go_sem];refine aQ a.length (λi=>⟨0,[(1,ids a),(2,.ptr 0 0),(5,iv ((a.take i).foldl (vN g) 0)),(6,iv i)],[some (.box g.A)]⟩) (λ_=>True) ?_ trivial ?_ ?_;rfl;intro i b _;have d:=fQ i o_;have j:(a.map Id.A)[i]?=some a[i].A:=aO _ a i b;rw[GO _ _ a i b];generalize(a.take i).foldl (vN g) 0=n at *
 generalize a[i]=x at *
 simp only[go_sem,aP,aT b,j];apply cX (Dt g x c);have f:=AZ g.I x;simp only[go_sem,ge_iff_le];refine aL (λh=>?_) (λh=>?_)<;>simp only[decide_eq_true_eq,decide_eq_false_iff_not]at h;have e:(aW g.I x).toNat<g.L.length:=by have:=c.i;omega
 have cE:(g.L.map OpM.A)[(aW g.I x).toNat]?=some (g.L.getD (aW g.I x).toNat default).A:=u_;simp only[go_sem,h,cE,d,vN,gt_iff_lt];simp only[go_sem,d,vN,h];intro _;rw[dE];simp only[go_sem,aP,aS (bP _),Fe]
def CardM.K(c:CardM):C_:=[.int .i64 c.Device,.int .i64 c.Member,.int .u64 c.Lead,.int .u64 c.Keep,.int .u64 c.Sign]
def aIf(x y:CardM):Int:=x.Device-y.Device
def uE(l:List CardM):List CardM:=l.mergeSort λx y=>decide (x.Device<=y.Device)
structure cardsOk(l:List CardM):Prop where
 n:l.length<=1000
 ne:l≠[]
 cs:∀c∈l,c.ok
 dv:∀c∈l,0<=c.Device/\c.Device<=1000
 un:∀c∈l,∀d∈l,c.Device=d.Device->c=d
def BI{l:List CardM}{c:CardM}:c∈uE l↔c∈l:=(H4 l _).mem_iff
def XJ(l:List CardM):(uE l).length=l.length:=(H4 l _).length_eq
def VA{l:List CardM}(h:∀c∈l,∀d∈l,c.Device=d.Device->c=d)(x:Int)(c:CardM):l.find? (λc=>c.Device==x)=some c↔(c∈l/\c.Device=x):=by
 constructor;grind;rintro⟨a,b⟩
 cases e:l.find? (λc=>c.Device==x) with
 |none=>exact absurd (Eb.1 e c a) (by simp[b])|some d=>
  grind
def XK{l:List CardM}(h:cardsOk l)(d:Int):gM (uE l) d=gM l d:=by
 have:(uE l).find? (λc=>c.Device==d)=l.find? (λc=>c.Device==d):=by
  cases e:l.find? (λc=>c.Device==d) with
  |none=>
   rw[Eb]at e⊢;intro c a;exact e c (BI.1 a)
  |some c=>
   rw[VA h.un]at e;rw[VA (λc a d b=>h.un c (BI.1 a) d (BI.1 b))];exact⟨BI.2 e.1,e.2⟩
 grind[gM]
def aFU(x y:CardM)(b:0<=x.Device/\x.Device<=1000)(a:0<=y.Device/\y.Device<=1000):aA PQ G tG [.ag x.A,.ag y.A] [] λr T=>r=iv (aIf x y)/\T=[]:=by refine aC Jv ?_;have w:IntKind.i64.wrap (x.Device-y.Device)=x.Device-y.Device:=aJ o_ o_;simp only[go_sem,CardM.A_def,w,aIf]
def aFV(l:List CardM)(e:cardsOk l):aA PQ G kK [.own 0,.cl tG []] [some (.arr 5 (l.map CardM.A))] λr T=>r=.tup []/\T=[some (.arr 5 ((uE l).map CardM.A))]:=by
 let α:={c:CardM // c∈l}
 have:Inhabited α:=⟨⟨l.head e.ne,List.head_mem e.ne⟩⟩
 let cf:α->α->Int:=λx y=>aIf x.1 y.1;have d:∀x y:α,Go.Proofs.ltOf cf x y=decide (x.1.Device<y.1.Device):=by intro x y;unfold Go.Proofs.ltOf;show decide (x.1.Device-y.1.Device<0)=_;simp_all;omega
 have f:=SW (α:=α) (k:=5) (enc:=λc=>c.1.K) Go.Proofs.Tryz.laysSortC Go.Proofs.Tryz.isAgg121 Go.Proofs.Tryz.sizeOf121 (λ_=>rfl) (λx v h=>by simp[CardM.K]at h;rcases h with rfl|rfl|rfl|rfl|rfl<;>rfl)
  (λx c i=>by simp[cellsOf,CardM.K]at i;rcases i with rfl|rfl|rfl|rfl|rfl<;>rfl) (cf:=cf)
  ⟨λx=>by rw[d];simp,λx y z h1 h2=>by rw[d]at *;simp at *;omega,λx y z h1 h2=>by rw[d]at *;simp at *;omega⟩
  (λx y h1 h2=>by rw[d]at *;simp at h1 h2;exact Subtype.ext (e.un _ x.2 _ y.2 o_)) (g:=tG) (Go.Proofs.enters_of Go.Proofs.Tryz.func109 a_ rfl) (Go.Proofs.enters_of Go.Proofs.Tryz.func108 a_ rfl) (G:=G) (λx y=>aFU x.1 y.1 (e.dv _ x.2) (e.dv _ y.2)) l.attach (by rw[List.length_attach];have:=e.n;omega)
 have o:l.attach.map (cellsOf λc:α=>c.1.K)=l.map CardM.A:=by rw[show(cellsOf λc:α=>c.1.K)=CardM.A∘Subtype.val from rfl,<-rI,X4]
 have m:(l.attach.mergeSort λx y=>!(Go.Proofs.ltOf cf y x)).map (cellsOf λc:α=>c.1.K)=(uE l).map CardM.A:=by
  rw[show(cellsOf λc:α=>c.1.K)=CardM.A∘Subtype.val from rfl,<-rI];congr 1;have j:(λx y:α=>!(Go.Proofs.ltOf cf y x))=λx y:α=>decide (x.1.Device<=y.1.Device):=m_;rw[j,List.map_mergeSort (s:=λx y:CardM=>decide (x.Device<=y.Device)) (λa _ b _=>rfl),X4];rfl
 rw[o,m]at f;exact f
def aIg(l:List CardM)(a:cardsOk l):aA PQ G Bi [.ls 5 (l.map CardM.A)] [] λr T=>r=.ptr 0 0/\T=[some (.box [.own 1,.mp 2,.v (.slice none 0 0)]),some (.arr 5 ((uE l).map CardM.A)),some (MG [])]:=by refine aC Ny ?_;have b:=a.n;simp only[go_sem];apply kM (rE (l.map CardM.A) I_);simp only[go_sem];apply aG (T2:=[some (.arr 5 (l.map CardM.A))]) [0] (aB _) d_ s_ rfl f_ (aFV l a);rintro r c ⟨rfl,rfl⟩;simp only[go_sem,MG,uP,Mk,gQ]
def aKl(l:List CardM)(a:cardsOk l):aA PQ G Bi [.ls 5 (l.map CardM.A)] [] λr T=>r=.ptr 0 0/\T=[some (.box [.ls 5 ((uE l).map CardM.A),.mp 1,.v (.slice none 0 0)]),some (MG [])]:=by refine(aIg l a).fin [1] ?_;rintro r b ⟨rfl,rfl⟩;simp only[go_sem,MG,uP,Mk]
def aFW {g:PGM} (b:g.ok) (l:D_):0<=Fa g l/\Fa g l<=g.nodes.length+1:=by
 have a:∀(l:D_)(m:Int),0<=m->m<=g.nodes.length+1->0<=l.foldl (λm x=>max m ((g.nd x).lv+1)) m/\l.foldl (λm x=>max m ((g.nd x).lv+1)) m<=g.nodes.length+1:=by
  intro l
  induction l with
  |nil=>exact λm h0 h1=>⟨h0,h1⟩| cons x l ih=>
   intro m h0 h1;have c:0<=(g.nd x).lv/\(g.nd x).lv<=g.nodes.length:=by unfold PGM.nd;rw[rH];rcases eD (g.at x) g.nodes.length with h|h;rw[jN h];exact b.lv _ (eQ h);grind[XD]
   grind
 exact a l 1 o_ o_
def aDU{g:PGM}(a:g.ok)(o:OpM):Hu (BF g o):=Sp (JC a _) (JB _ _)
def XL(g:PGM)(o:OpM):(sR g o).1=g\/(sR g o).1=⟨g.cards,g.nodes++[⟨o,C7 o,BF g o,Fa g o.Past⟩]⟩/\g.nodes.length<200:=by grind[sR,Oa,Q8]
def aFX{g:PGM}{o:OpM}(a:g.ok)(d:o.ok)(c:(C7 o).ok):(sR g o).1.ok:=by rcases XL g o with h|⟨h,f⟩<;>rw[h];exact a;have e:=aFW a o.Past;refine⟨c_,a.cn,a.cs,?_,?_,?_,?_⟩<;>intro x b<;>simp only[cG,cA]at b<;>rcases b with b|rfl;exact a.ops x b;exact d;exact a.ids x b;exact c;exact a.ws x b;exact aDU a o;have:=a.lv x b;simp_all;omega;simp_all
def AM(cs:List CardM)(l:List OpM):PGM:=l.foldl (λp o=>(sR p o).1) ⟨uE cs,[]⟩
theorem MS(cs:List CardM)(l:List OpM)(o:OpM):AM cs (l++[o])=(sR (AM cs l) o).1:=by simp[AM]
def XM{cs:List CardM}(d:cardsOk cs):∀(l:List OpM),(∀o∈l,o.ok/\(C7 o).ok)->(AM cs l).ok:=by
 have h0:(⟨uE cs,[]⟩:PGM).ok:=⟨s_,by show(uE cs).length<=1000;rw[XJ];exact d.n,λc h=>d.cs c (BI.1 h),s_,s_,s_,s_⟩
 have b:∀(l:List OpM)(p:PGM),p.ok->(∀o∈l,o.ok/\(C7 o).ok)->(l.foldl (λp o=>(sR p o).1) p).ok:=by
  intro l
  induction l with
  |nil=>exact λp h _=>h|cons o l ih=>exact λp h a=>ih _ (aFX h (a o s_).1 (a o s_).2) (λx e=>a x (by simp[e]))
 exact λl a=>b l _ h0 a
inductive RU(Up:List (List Nat))(up:List Nat):Nat->Prop
 |base {k:Nat}:k∈up->RU Up up k|step {j k:Nat}:RU Up up j->k∈Up.getD j []->RU Up up k
theorem RU.tail{a:List V_}{up:V_}{k:Nat}:RU a up k↔k∈up\/∃j,RU a up j/\k∈a.getD j []:=by
 constructor;intro h
 cases h with
 |base h=>exact .inl h|step h1 h2=>exact .inr ⟨_,h1,h2⟩
 rintro(h|⟨j,h1,h2⟩);exact .base h;exact .step h1 h2
def RU.head{b:List V_}{up:V_}{k:Nat}:RU b up k↔k∈up\/∃i∈up,RU b (b.getD i []) k:=by
 constructor;intro h
 induction h with
 |base h=>exact .inl h|step h1 h2 ih=>
  rcases ih with ih|⟨i,a,ih⟩
  exact .inr ⟨_,ih,.base h2⟩;exact .inr ⟨i,a,.step ih h2⟩
 rintro(h|⟨i,a,h⟩);exact .base h
 induction h with
 |base h=>exact .step (.base a) h|step h1 h2 ih=>exact .step ih h2
def RU.lt{a:List V_}{up:V_}{n:Nat}(b:∀k∈up,k<n)(c:∀i,∀k∈a.getD i [],k<i){k:Nat}(h:RU a up k):k<n:=by
 induction h with
 |base h=>exact b _ h|step h1 h2 ih=>have:=c _ _ h2;omega
def aB1(u:V_)(a:List Bool)(h:∀k∈u,k<a.length)(k:Nat):(u.foldl (λb k=>b.set k true) a).getD k false=(decide (k∈u)||a.getD k false):=by
 induction u generalizing a with
 |nil=>simp|cons x u ih=>
  grind
def XN(c:List V_)(up:V_)(a:List Bool)(i:Nat)(j:i<a.length)(h:∀k∈c.getD i [],k<i)(k:Nat):
 ((OG c up a i).getD k false=true)↔(a.getD k false=true\/(k=i/\i∈up)\/((a.getD i false=true\/i∈up)/\k∈c.getD i [])):=by
 have d:∀k,((if decide (i∈up) then a.set i true else a).getD k false=true)↔(a.getD k false=true\/(k=i/\i∈up)):=m_;have e:(if decide (i∈up) then a.set i true else a).length=a.length:=by split<;>simp
 unfold OG;generalize(if decide (i∈up) then a.set i true else a)=b at *
 by_cases g:b.getD i false=true;rw[if_pos g,aB1 _ _ (λk f=>by rw[e];have:=h k f;omega),Ec,d,decide_eq_true_eq];grind;grind
def Oj (b:List V_) (up:V_) (n:Nat) (g:∀k∈up,k<n) (f:∀i,∀k∈b.getD i [],k<i):∀(i:Nat)(a:List Bool),a.length=n->i<=n ->
 (∀k,i<=k->((a.getD k false=true)↔RU b up k))->(∀k,k<i->((a.getD k false=true)↔∃j,i<=j/\RU b up j/\k∈b.getD j []))->∀k,((Kx b up i a).getD k false=true)↔RU b up k
 |0,a,_,_,h1,_=>λk=>h1 k o_| i+1,a,m,p,h1,h2=>by
  have l:=XN b up a i o_ (f i);have e:(a.getD i false=true\/i∈up)↔RU b up i:=by grind[RU.tail]
  refine Oj b up n g f i (OG b up a i) (by rw[Q1];exact m) o_ ?_ ?_;grind;intro k o;rw[l,h2 k o_,e];constructor;rintro(⟨j,h3,d,c⟩|h3|h3);exact⟨j,o_,d,c⟩;omega;exact⟨i,cN _,h3.1,h3.2⟩;rintro⟨j,h3,d,c⟩;rcases eD i j with h|h;exact .inl ⟨j,h,d,c⟩;obtain rfl:j=i:=o_;exact .inr (.inr ⟨d,c⟩)
def Ok(g:GM)(up:V_)(a:∀k∈up,k<g.L.length)(b:∀i,∀k∈g.Up.getD i [],k<i)(k:Nat):((oL g up).getD k false=true)↔RU g.Up up k:=by refine Oj g.Up up g.L.length a b _ _ s_ (cN _) ?_ ?_ k;intro k c;constructor;intro h;rw[rH,sX c_]at h;exact absurd h d_;intro h;have:=h.lt a b;omega;intro k c;constructor;intro h;rw[rH,List.getElem?_replicate,if_pos c]at h;exact absurd h d_;rintro⟨j,h1,h2,_⟩;have:=h2.lt a b;omega
def RU.more{a:List V_}{u up:V_}{k:Nat}(b:∀k∈up,k<a.length)(d:∀i,∀k∈a.getD i [],k<i):RU (a++[u]) up k↔RU a up k:=by
 have c:∀j,j<a.length->(a++[u]).getD j []=a.getD j []:=λj e=>m_;constructor;intro h
 induction h with
 |base h=>exact .base h|step h1 h2 ih=>exact .step ih (by rwa[c _ (ih.lt b d)]at h2)
 intro h
 induction h with
 |base h=>exact .base h|step h1 h2 ih=>exact .step ih (by rwa[c _ (h1.lt b d)])
def aDV(W V:V_)(h:W.length=V.length)(i:Nat):(Kz W V).getD i 0=W.getD i 0 ||| V.getD i 0:=by grind[Kz]
def aB2(W V:V_)(h:W.length=V.length)(i:Nat):(Cu W V).getD i 0=W.getD i 0 &&& V.getD i 0:=by grind[Cu]
def ZM{W V:V_}(a:Hu W)(b:Hu V)(k:Nat):qK (Kz W V) k=(qK W k||qK V k):=by unfold qK;rw[aDV W V (by rw[a.1,b.1]),YP]
def ZN(k:Nat):qK z4 k=false:=by grind[qK,z4]
def aDW{W:V_}(a:Hu W)(n k:Nat)(b:n<256):qK (Py W n) k=(decide (k=n)||qK W k):=by
 unfold qK Py;have c:n/64<W.length:=by rw[a.1];omega
 grind
def aB3{W V:V_}(c:Hu W)(f:Hu V)(h:∀k,k<256->qK W k=true->qK V k=false):Cu W V=z4:=by
 have j:=U3 c f;refine Ki (by rw[j];rfl) λi l _=>?_;have a:i<4:=o_;have g:z4[i]'(by simpa[z4]using a)=0:=by grind[z4]
 rw[g];have e:=aB2 W V (by rw[c.1,f.1]) i;rw[rH,jN l,Mi]at e;rw[e];refine Nat.eq_of_testBit_eq λb=>?_;rw[Nat.testBit_and,aBK];rcases eD b 64 with d|d;have h1:(64*i+b)/64=i:=o_;have h2:(64*i+b)%64=b:=o_;have:=h (64*i+b) o_;grind[qK];rw[Nat.testBit_lt_two_pow (CV (AJ c i) (show 18446744073709551616<=2^b from Gl (n:=2) (i:=64) o_ d))];rfl
def aDX(g:PGM)(f:g.nodes.length<=200)(l:D_)(e:∀x∈l,g.at x<256)(k:Nat):(qK (Hg g l) k=true)↔∃x∈l,g.at x=k:=by
 have a:∀(l:D_)(W:V_),Hu W->(∀x∈l,g.at x<256)->((qK (l.foldl (λW x=>Py W (g.at x)) W) k=true)↔(qK W k=true\/∃x∈l,g.at x=k)):=by
  intro l
  induction l with
  |nil=>intro W _ _;simp|cons x l ih=>
   intro W c b;rw[CW,ih _ (ZG c _) (λy d=>b y ax),aDW c _ _ (b x s_),Ec,decide_eq_true_eq];grind
 unfold Hg;rw[a l z4 Ob e,ZN];simp
def aDY{g:PGM}(b:g.ok)(l:D_)(k:Nat):(qK (Hh g l) k=true)↔∃x∈l,qK (g.nd x).W k=true:=by
 have a:∀(l:D_)(W:V_),Hu W->((qK (l.foldl (λW x=>Kz W (g.nd x).W) W) k=true)↔(qK W k=true\/∃x∈l,qK (g.nd x).W k=true)):=by
  intro l
  induction l with
  |nil=>intro W _;simp|cons x l ih=>
   intro W c;rw[CW,ih _ (Sp c (Q9 b x)),ZM c (Q9 b x),Ec];grind
 unfold Hh;rw[a l z4 Ob,ZN];simp
def aDZ(g:PGM)(x:Id):g.at x=(aW g.I x).toNat:=by grind[PGM.at,aW,qX]
def Cz(I:D_)(x:Id):0<=aW I x↔x∈I:=by have:=mN (λy=>decide (y=x)) I;grind[aW]
def aFY(g:PGM)(a:Int)(l:D_)(h0:0<=a)(h:∀x∈l,(g.nd x).o.At<=a):G0 g l<=a:=by
 have b:∀(l:D_)(m:Int),m<=a->(∀x∈l,(g.nd x).o.At<=a)->l.foldl (λm x=>max m (g.nd x).o.At) m<=a:=by
  intro l
  induction l with
  |nil=>exact λm h _=>h|cons x l ih=>
   grind
 exact b l 0 h0 h
end Hud
