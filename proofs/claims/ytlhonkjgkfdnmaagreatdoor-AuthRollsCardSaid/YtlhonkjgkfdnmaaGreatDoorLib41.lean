import Derived.Test.YtlhonkjgkfdnmaaGreatDoorLib36
import Derived.Test.YtlhonkjgkfdnmaaGreatDoorLib40
set_option linter.all false
set_option maxHeartbeats 40000000
namespace Hud
open Go
variable{G:L_}
def qC(V:D_)(bs:V_)(a:Nat):AObj:=.map true (V.map Id.K) (V.map λ_=>.v (.bool true)) bs a
structure LAt(T:aK)(l v f:Nat)(p:Nat×Nat×Nat)(row V F:List Id):Prop where
 box:T[l]?=some (some (.box [.ptr p.1 0,ids row,.mp v,.mp f]))
 vo:∃bs cl,T[v]?=some (some (qC V bs cl))/\Bs V.length bs cl
 fo:∃bs cl,T[f]?=some (some (qC F bs cl))/\Bs F.length bs cl
 ne:l≠v/\l≠f/\v≠f/\v≠p.1/\v≠p.2.1/\v≠p.2.2
def iS(g:PGM)(V:D_)(out:D_)(x:Id):D_:=if x∉V/\mT (Lo g out x) (g.nd x).o=0 then out++[x] else out
def mW(g:PGM)(V row:D_):D_:=row.foldl (iS g V) []
def S9{g:PGM}{V out:D_}{x:Id}:(iS g V out x).Sublist (out++[x]):=by grind[iS]
theorem Aa{g:PGM}{V:D_}:∀(row out:D_),(row.foldl (iS g V) out).Sublist (out++row)|[],out=>by simp|x::row,out=>by refine(Aa row _).trans ?_;have:=(S9 (g:=g) (V:=V) (out:=out) (x:=x)).append_right row;simpa using this
def RV{g:PGM}(b:GGood g){ss:D_}(c:∀x∈ss,x∈g.I)(d:ss.Nodup)(x:Id):RGood ss.reverse g.cards (Lo g ss x):=by have:=B6 b (ss.filter λy=>oH g y x) (RGood.new (D:=[]) b.cards) (λy a=>c y (gR.1 a).1) (by rw[jO];exact d.sublist List.filter_sublist);refine this.mono λy a=>?_;simp_all
def TB{L:aK}{n:Nat}{a:Option AObj}(h:L.length=n):(L++[a])[n]?=some a:=by subst h;simp
section
variable{T:aK}{p:Nat×Nat×Nat}{g:PGM}{l v f:Nat}{row V F:D_}
def LAt.app{X:aK}(h:LAt T l v f p row V F):LAt (T++X) l v f p row V F :=
 ⟨aF h.box,let⟨b,c,x,y⟩:=h.vo;⟨b,c,aF x,y⟩,let⟨b,c,x,y⟩:=h.fo;⟨b,c,aF x,y⟩,h.ne⟩
def Xr (hK:AK G) (h:GAt T p g) (u:GGood g) (hl:LAt T l v f p row V F) (O:∀x∈row,x∈g.I) (hn:row.Nodup):
 aA PQ G nJ [.ptr l 0] T λy T'=>y=ids (mW g V row)/\T'=T:=by
 refine(aA.keepLs (q:=λk es=>k=3/\es=(mW g V row).map Id.A) (fT Gg ?_)).mono ?_;rotate_left;simp;have L:=λX:aK=>aF (X:=X) hl.box;simp only[go_sem,L,ids,aP];have ab:row.length<=200:=by have:=List.Nodup.length_le_of_subset hn O;have h2:=u.ok.n;grind[PGM.I,List.length_map]
 obtain⟨bs,cl,hv,ah⟩:=hl.vo;have av:=λX:aK=>aF (X:=X) hv;unfold qC at av
 refine kL (λn st=>∃i,i<=row.length/\n=row.length-i/\∃(X:aK)(k:Nat),X[k]?=some (some (.arr 3 (((row.take i).foldl (iS g V) []).map Id.A))) /\
  ∃S,(S=[(13,iv i),(12,iv row.length),(11,ids row),(3,.own (T.length+k)),(0,.ptr l 0)]\/S=[(13,iv i),(3,.own (T.length+k)),(12,iv row.length),(11,ids row),(0,.ptr l 0)])/\st=⟨T.length,S,T++X⟩) row.length ⟨0,pR _,rfl,_,0,rfl,_,.inl rfl,rfl⟩ ?_
 rintro n st ⟨i,hi,ad,X,k,M,S,hS,rfl⟩;rcases eD i row.length with r|af;rotate_left
 ·obtain rfl:i=row.length:=o_;rw[dE]at M;rcases hS with rfl|rfl
  all_goals simp only[go_sem,aS (bP _)]
  all_goals exact⟨aH,_,3,_,rfl,o_,by rw[aZ];exact M,rfl,rfl⟩
 have N:=fQ i o_;have E:=O _ (eQ r);have g0:(row.map Id.A)[i]?=some row[i].A:=aO _ row i r;have w:(row.take (i+1)).foldl (iS g V) []=iS g V ((row.take i).foldl (iS g V) []) row[i]:=by rw[lB r,Hy];rfl
 have t:((row.take i).foldl (iS g V) []).Sublist (row.take i):=by grind[Aa]
 generalize aa:(row.take i).foldl (iS g V) []=out at *
 have B:∀x∈out,x∈g.I:=λx hx=>O x (C8 (t.subset hx));have C:out.Nodup:=(hn.sublist (List.take_sublist _ _)).sublist t;have ac:out.length<=200:=f_;have U:=RV u B C row[i];have cE:=λX=>S5 (G:=G) (h.app (X:=X)) u.ok row[i] E;have P:=u.op E;have d:eR [.int .i64,.int .i64,.int .u64] [.int .i64 row[i].a,.int .i64 row[i].b,.int .u64 row[i].c] (V.map Id.K) 0=some ((V.findIdx? λy=>decide (y=row[i])).map (· + 0)):=qH row[i] V 0;generalize row[i]=z at *
 have m:=λY:aK=>aF (X:=Y) M;have H:=λZ:aK=>aIC (G:=G) (T:=T++(X++Z)) h.app u (L _) (T.length+k) out (by rw[aZ];exact m _) B C z;have R:out.length+1<=maxLen:=a_;have Q:(out.length+1)*24<=140737488355328:=o_;rcases hS with rfl|rfl
 all_goals simp only[go_sem,aT r,g0,ids,aZ,cP,fF,iR,sW,L,Id.A_def,eB,jC,dM,Nat.reduceAdd]
 all_goals refine⟨?_,?_⟩
 all_goals refine jA (cE _) ?_
 all_goals rintro y T' ⟨rfl,eT⟩
 all_goals obtain rfl:=eT.symm
 all_goals simp only[go_sem,aZ,cP,fF,oX,sW,yG,L,eB,jC,dM,Nat.reduceAdd]
 all_goals by_cases hz:z∈V
 iterate 4
  obtain⟨j,e1,lj,_⟩:=dG hz
  rw[e1]at d
  simp only[iX,mG]at d
  have gv:(V.map λ_=>AV.v (.bool true))[j]?=some (.v (.bool true)):=t_
  have ae:=AL z
  have e:iS g V out z=out:=by grind[iS]
  rw[e]at w
  simp only[go_sem,av,d,gv,undef,N]
  exact⟨row.length-(i+1),o_,i+1,o_,rfl,_,k,by rw[w];exact m _,_,og,rfl⟩
  rw[eG hz]at d
  simp only[xD]at d
  simp only[go_sem,aZ,fF,oX,sW,jC,dM,Nat.reduceAdd,av,d]
  apply jA (H _)
  rintro y T' ⟨s,rfl,hA⟩
  obtain⟨X2,J⟩:=hA.ext
  have W:=hA.at'
  simp only[eB,jC,dM]at J
  subst J
  have D:=O8 (G:=G) hK W U u.cards (g.nd z).o z (by have:=P.1.gl;omega)
  simp only[go_sem,aZ,fF,oX,sW,jC,dM,Nat.reduceAdd]
  apply cI D
  cases hm:(mT (Lo g out z) (g.nd z).o==0)
  have e:iS g V out z=out:=by grind[iS]
  rw[e]at w
  simp only[go_sem,hm,N]
  exact⟨row.length-(i+1),o_,i+1,o_,rfl,_,k,by rw[w];exact m _,_,og,rfl⟩
  have e:iS g V out z=out++[z]:=by grind[iS]
  rw[e]at w
  simp only[go_sem,aZ,cP,fF,oX,sW,eB,jC,dM,sY,Nat.reduceAdd,hm,N,m,aP,R,Q]
  refine⟨row.length-(i+1),o_,i+1,o_,rfl,_,X.length+(X2.length+3),?_,_,.inr rfl,rfl⟩
  rw[w,bZ]
  exact TB k0
end
def byO(o:OpM):Option Int:=if o.Kind==1 then some o.By else if o.Kind==2||o.Kind==13 then some o.Device else none
def kV(g:PGM)(out:B_)(x:Id):B_:=match byO (g.nd x).o with|some d=>if d∈out then out else out++[d]|none=>out
def BQ(g:PGM)(l:D_):B_:=(eO g l).foldl (kV g) []
def Vf{g:PGM}{out:B_}{x:Id}:(kV g out x).length<=out.length+1:=by grind[kV]
def TD{g:PGM}:∀(l:D_)(out:B_),(l.foldl (kV g) out).length<=out.length+l.length|[],_=>by simp|x::l,out=>by have:=TD (g:=g) l (kV g out x);have h:=Vf (g:=g) (out:=out) (x:=x);simp_all;omega
def aEL(T X:aK)(out:B_):Prop:=∃k,X[0]?=some (some (.box [.own (T.length+k)]))/\X[k]?=some (some (.arr 1 (out.map λn=>[iv n])))/\k≠0/\k≠2/\k≠4
section
variable{T:aK}{p:Nat×Nat×Nat}{g:PGM}
def aIN (h:GAt T p g) (hg:g.ok) (l o:D_) (hO:aA PQ G mJ [.ptr 0 0,ids l] (TG 0 g) λr s=>r=ids o/\s=TG 0 g) (cE:∀x∈o,x∈g.I) (af:o.length<=1000):aA PQ G uX [.ptr p.1 0,ids l] T λr s=>r=rG (o.foldl (kV g) [])/\s=T:=by
 have ad:∀X:aK,aA PQ G mJ [.ptr p.1 0,ids l] (T++X) λr s=>r=ids o/\s=T++X:=λX=>(h.app (X:=X)).lift (by simp only[xF,Bd,gL0 (h.app (X:=X)),ids]) rfl hO;refine(aA.keepLs (q:=λk es=>k=1/\es=((o.foldl (kV g) [])).map λn=>[iv n]) (fT JD ?_)).mono ?_;rotate_left;simp;simp only[go_sem,aD,cU,eB,jC,dM];refine F4 (post:=λy s=>y=.cl CH [.ptr (T.length+2) 0,.ptr (T.length+3) 0]/\s=T++[some (.box [.own (T.length+1)]),some (.arr 1 []),some (.box [.ptr p.1 0]),some (.box [ids l])]) (aB _) (fT Og ?_) ?_;simp only[go_sem,eB,jC,dM,dZ,sE,gQ];rintro y s ⟨rfl,rfl⟩;simp only[go_sem];refine NX rfl (vZ Cy) λr k1 k2 hy R=>?_;simp only[go_sem,eB,jC,dM];refine F4 (post:=λ_ s=>∃X:aK,s=T++X/\aEL T X ((o.foldl (kV g) []))/\X[4]?=some (some (.lp r [(5,.ptr T.length 0)]))) (aB _) (fT Cy ?_) ?_
 ·simp only[go_sem,nY];apply cI (ad _);simp only[go_sem,ids,aP]
  refine kL (λn st=>∃i,i<=o.length/\n=o.length-i/\∃X:aK,aEL T X ((o.take i).foldl (kV g) [])/\X[2]?=some (some (.box [.ptr p.1 0]))/\X[4]?=some (some (.lp r [(5,.ptr T.length 0)])) /\
   st=⟨T.length+5,[(13,iv i),(12,iv o.length),(11,ids o),(0,.yl (T.length+4)),(1,.ptr (T.length+2) 0)],T++X⟩) o.length ⟨0,pR _,rfl,_,⟨1,rfl,rfl,d_⟩,rfl,rfl,rfl⟩ ?_
  rintro n st ⟨i,hi,ah,X,⟨k,O,J,m,u,j⟩,x2,F,rfl⟩;rcases eD i o.length with t|aj;rotate_left;obtain rfl:i=o.length:=o_;rw[dE]at J;simp only[go_sem,aS (bP _)];exact⟨X,rfl,⟨k,O,J,m,u,j⟩,F⟩;have ws:=fQ i o_;have ab:=cE _ (eQ t);have g0:(o.map Id.A)[i]?=some o[i].A:=aO _ o i t;have ft:(o.take (i+1)).foldl (kV g) []=kV g ((o.take i).foldl (kV g) []) o[i]:=by rw[lB t,Hy];rfl
  have ae:((o.take i).foldl (kV g) []).length<=1000:=by have:=TD (g:=g) (o.take i) [];simp_all;omega
  generalize(o.take i).foldl (kV g) []=out at *
  have w:=λX=>S5 (G:=G) (h.app (X:=X)) hg o[i] ab;simp only[Id.A_def]at w;generalize hz:o[i]=z at *
  have l4:=dB F;have y0:=λY:aK=>aF (X:=Y) O;have N:=λY:aK=>aF (X:=Y) x2;have M:=λY:aK=>aF (X:=Y) F;have yk:=λY:aK=>aF (X:=Y) J;simp only[go_sem,aT t,g0,ids,nY,N];apply cI (w _);simp only[go_sem,nY];have ac:byO (g.nd z).o=if(g.nd z).o.Kind==1 then some (g.nd z).o.By else if(g.nd z).o.Kind==2||(g.nd z).o.Kind==13 then some (g.nd z).o.Device else none:=rfl
  generalize he:(g.nd z).o=q at *
  let e:Int->B_:=λd=>if d∈out then out else out++[d]
  have f:∀(W:aK)(d:Int)(K:AV->aK->Prop),(∀E:aK,aEL T E (e d)->E[2]?=some (some (.box [.ptr p.1 0]))->E[4]?=some (some (.lp r [(5,.ptr T.length 0)]))->K (.v (.bool true)) (T++E)) ->
    @aAb PQ G (T.length+4) [.ag [iv z.a,iv z.b,.v (.int .u64 z.c)],iv d] (T++(X++W)) ⟨K⟩:=by
   intro W d K L;apply R _ _ _ _ _ (kU (by rw[aZ];exact M _)) rfl;have w0:∀Y:aK,((X++W).set 4 none++Y)[0]?=some (some (.box [.own (T.length+k)])):=λY=>aF (by rw[aY d_];exact y0 _);have w2:∀Y:aK,((X++W).set 4 none++Y)[2]?=some (some (.box [.ptr p.1 0])):=λY=>aF (by rw[aY d_];exact N _);have wk:∀Y:aK,((X++W).set 4 none++Y)[k]?=some (some (.arr 1 (out.map λn=>[iv n]))):=λY=>aF (by rw[aY (Ne.symm j)];exact yk _);have w4:∀Y:aK,((X++W).set 4 none++Y)[4]?=some none:=λY=>aF (dS (M W));have D:=w0 [];have C:=w4 [];have S:=w2 [];have B:=wk [];rw[jO]at D C S B;simp only[go_sem,cP,fF];generalize(X++W).set 4 none=Z at *
   simp only[go_sem,D];have aa:xG (T++Z) [.own (T.length+k),iv d]=[rG out,iv d]:=by simp only[xG,tB,kU (show(T++Z)[T.length+k]?=_ by rw[aZ];exact B)]
   apply iJ (aB _) aa rfl (VF out d o_);have ak:=dB C;by_cases H:d∈out;have V:e d=out:=f_;rw[V]at L;simp only[go_sem,H,decide_true,cP];refine L _ ⟨k,?_,?_,m,u,j⟩ ?_ ?_;simp_all;grind;simp_all;exact dS C;have V:e d=out++[d]:=f_;rw[V]at L;have ol:out.length+1<=maxLen/\(out.length+1)*8<=140737488355328:=a_;have ai:=dB B;have Q:=λW:aK=>(aY (T:=Z++W) (o:=none) m).trans (w0 W);have P:=λW W':aK=>aF (X:=W') (Q W);simp only[go_sem,H,decide_false,aZ,cP,fF,iR,D,P,wk,ol.1,ol.2,aP,eB];refine L _ ⟨Z.length+1,?_,?_,o_,o_,o_⟩ ?_ ?_;simp;grind;grind;grind
  have nG:∀d,byO q=some d->kV g out z=e d:=λd H=>by simp only[kV,he,H,e]
  have U:byO q=none->kV g out z=out:=λH=>by simp only[kV,he,H]
  rcases hq1:q.Kind==1 with _|_;simp only[go_sem];rcases hq2:q.Kind==2 with _|_;rcases hq3:q.Kind==13 with _|_;simp only[go_sem,hq3];rw[ws];refine⟨_,(by omega:o.length-(i+1)<n),i+1,o_,rfl,_,?_,N _,M _,rfl⟩;rw[ft,U (by rw[ac,hq1,hq2,hq3];rfl)];exact⟨k,y0 _,yk _,m,u,j⟩;simp only[go_sem,hq3,nY];refine f _ _ _ λE a0 a2 a4=>?_;simp only[go_sem];grind;simp only[go_sem,nY];refine f _ _ _ λE a0 a2 a4=>?_;simp only[go_sem];grind;simp only[go_sem,nY];refine f _ _ _ λE a0 a2 a4=>?_;simp only[go_sem];grind
 rintro y s ⟨X,rfl,⟨k,O,J,m,u,j⟩,F⟩;have l3:=dB F;have z0:(X.set 4 none)[0]?=some (some (.box [.own (T.length+k)])):=t_;simp only[go_sem,aZ,cP,fF,F,k1,k2,aFa,z0];grind
def aBq(h:GAt T p g)(b:g.ok)(l:D_)(e:∀x∈l,x∈g.I)(d:l.Nodup)(a:l.length<=1000):aA PQ G uX [.ptr p.1 0,ids l] T λr f=>r=rG (BQ g l)/\f=T :=
 aIN h b l _ (ZK g b l d o_) (λx c=>e x ((mE g l).mem_iff.1 c)) (by rw[(mE g l).length_eq];exact a)
end
def aRf(o:OpM):aA PQ G aNk [.ag o.A] [] λr T=>r=iv ((byO o).getD 0)/\T=[]:=by refine aC aOX ?_;unfold byO;cases h1:o.Kind==1;cases h2:o.Kind==2;cases h3:o.Kind==13;simp only[go_sem,h1,h2,h3,undef,Bool.or_self];rfl;simp only[go_sem,h1,h2,h3,undef,Ed];rfl;simp only[go_sem,h1,h2,undef,EI];rfl;simp only[go_sem,h1,undef];rfl
def aIX(l:D_)(d s:Int):Nat:=l.countP λx=>x.a==d&&x.b==s
def aLT(l:D_)(d:Int)(out:Int)(x:Id):Int:=if((x.a==d&&decide (1<aIX l d x.b))&&(out==0||decide (x.b<out)))=true then x.b else out
def aM7(l:D_)(d:Int):Int:=l.foldl (aLT l d) 0
def aGf(l:D_)(x:Id):Bool:=decide (0<aM7 l x.a)&&decide (aM7 l x.a<=x.b)
def aMk(g:GM)(out:B_)(x:Id):B_:=if(decide (0<(byO (g.L.getD (aW g.I x).toNat default)).getD 0)&&!decide ((byO (g.L.getD (aW g.I x).toNat default)).getD 0∈out))=true then out++[(byO (g.L.getD (aW g.I x).toNat default)).getD 0] else out
def aRg(l:D_)(d s:Int)(m:l.length<=100000):aA PQ G aM5 [ids l,iv d,iv s] [] λr T=>r=iv (aIX l d s:Nat)/\T=[]:=by
 apply aC aOk;simp only[go_sem];refine aQ l.length (λi=>⟨0,[(0,ids l),(1,iv d),(2,iv s),(7,iv (aIX (l.take i) d s:Nat)),(8,iv i)],[]⟩) (λ_=>True) ?_ trivial ?_ ?_;simp only[go_sem,uQ,aIX,List.countP_nil];intro i e _;have g:=fQ i o_;have f:(l.map Id.A)[i]?=some l[i].A:=aO _ l i e;have k:aIX (l.take i) d s<=i:=by have:=List.countP_le_length (p:=λx:Id=>x.a==d&&x.b==s) (l:=l.take i);rw[eC]at this;unfold aIX;omega
 have j:aIX (l.take (i+1)) d s=aIX (l.take i) d s+if(l[i].a==d&&l[i].b==s)=true then 1 else 0:=by unfold aIX;rw[lB e,List.countP_append,List.countP_singleton]
 rw[j];generalize aIX (l.take i) d s=c at *
 have h:=fQ c o_;generalize l[i]=x at *
 simp only[Id.A_def]at f;cases c1:x.a==d;rw[lR,if_neg d_,mG];simp only[go_sem,aP,aT e,e,f,c1,g,undef];cases c2:x.b==s;rw[Ea,if_neg d_,mG];simp only[go_sem,aP,aT e,e,f,c1,c2,g];rw[yH,if_pos rfl];simp only[go_sem,aP,aT e,e,f,c1,c2,g,h];intro _;simp only[go_sem,aP,aS (bP _),dE]
def aPW(l:D_)(d:Int)(k:l.length<=100000):aA PQ G aLN [ids l,iv d] [] λr T=>r=iv (aM7 l d)/\T=[]:=by
 apply aC aNu;simp only[go_sem];refine aQ l.length (λi=>⟨0,[(0,ids l),(1,iv d),(5,iv ((l.take i).foldl (aLT l d) 0)),(6,iv i)],[]⟩) (λ_=>True) ?_ trivial ?_ ?_;simp only[go_sem,uQ,Kk];intro i e _;have g:=fQ i o_;have f:(l.map Id.A)[i]?=some l[i].A:=aO _ l i e;have h:=aRg (G:=G) l d l[i].b k;rw[lB e,Hy,CW,Kk];generalize(l.take i).foldl (aLT l d) 0=out at *
 unfold aLT;have j:decide ((1:Int)<((aIX l d l[i].b:Nat):Int))=decide (1<aIX l d l[i].b):=decide_eq_decide.2 o_;generalize aIX l d l[i].b=c at *
 generalize l[i]=x at *
 simp only[Id.A_def]at f;rcases(show(x.a==d)=false\/((x.a==d)=true/\decide (1<c)=false)\/((x.a==d)=true/\decide (1<c)=true/\(out==0)=true)\/((x.a==d)=true/\decide (1<c)=true/\(out==0)=false/\decide (x.b<out)=false)\/((x.a==d)=true/\decide (1<c)=true/\(out==0)=false/\decide (x.b<out)=true) by cases x.a==d<;>cases decide (1<c)<;>cases out==0<;>cases decide (x.b<out)<;>simp) with h1|⟨h1,h2⟩|⟨h1,h2,h3⟩|⟨h1,h2,h3,h4⟩|⟨h1,h2,h3,h4⟩
 rw[h1,lR,lR,if_neg d_];simp only[go_sem,aP,aT e,e,f];apply cX h;simp only[go_sem,aP,e,f,h1,g,undef];rw[h1,h2,Ea,lR,if_neg d_];simp only[go_sem,aP,aT e,e,f];apply cX h;simp only[go_sem,aP,e,f,h1,gt_iff_lt,j,h2,g,undef];rw[h1,h2,h3,yH,mF,EI,if_pos rfl];simp only[go_sem,aP,aT e,e,f];apply cX h;simp only[go_sem,aP,e,f,h1,gt_iff_lt,j,h2,h3,g,undef];rw[h1,h2,h3,h4,yH,mF,EH,if_neg d_];simp only[go_sem,aP,aT e,e,f];apply cX h;simp only[go_sem,aP,e,f,h1,gt_iff_lt,j,h2,h3,h4,g];rw[h1,h2,h3,h4,yH,mF,EH,if_pos rfl];simp only[go_sem,aP,aT e,e,f];apply cX h;simp only[go_sem,aP,e,f,h1,gt_iff_lt,j,h2,h3,h4,g];intro _;simp only[go_sem,aP,aS (bP _),dE];rfl
def aQj (l:D_) (k:l.length<=100000):aA PQ G aM4 [ids l] [] λr T=>r=ids (jI (l.filter (aGf l)))/\T=[]:=by
 refine aA.fin (p:=λr T=>r=.own 0/\T=[some (.arr 3 ((jI (l.filter (aGf l))).map Id.A))]) (aC aOn ?_) [0] ?_;rotate_left;rintro r m ⟨rfl,rfl⟩;simp only[go_sem,gQ];simp only[go_sem];refine aQ l.length (λi=>⟨0,[(0,ids l),(3,.own 0),(4,iv i)],[some (.arr 3 (((l.take i).filter (aGf l)).map Id.A))]⟩) (λ_=>True) ?_ trivial ?_ ?_;simp only[go_sem,uQ,List.filter_nil,uP];intro i c _;have f:=fQ i o_;have d:(l.map Id.A)[i]?=some l[i].A:=aO _ l i c;have g:=aPW (G:=G) l l[i].a k;have j:((l.take i).filter (aGf l)).length<=i:=by have:=List.length_filter_le (aGf l) (l.take i);rw[eC]at this;omega
 rw[lB c,Mf];have ev:aGf l l[i]=(decide (0<aM7 l l[i].a)&&decide (aM7 l l[i].a<=l[i].b)):=rfl;generalize(l.take i).filter (aGf l)=L at *
 generalize aM7 l l[i].a=n at *
 generalize l[i]=x at *
 simp only[Id.A_def]at d;cases c1:decide (0<n);have e:[x].filter (aGf l)=[]:=by simp[ev,c1]
 rw[e];simp only[go_sem,aP,aT c,c,d];apply cX g;simp only[go_sem,aP,c,d,gt_iff_lt,c1,f,undef,jO];cases c2:decide (n<=x.b);have e:[x].filter (aGf l)=[]:=by simp[ev,c1,c2]
 rw[e];simp only[go_sem,aP,aT c,c,d];apply cX g;simp only[go_sem,aP,c,d,gt_iff_lt,ge_iff_le,c1,c2,f,jO];have e:[x].filter (aGf l)=[x]:=by simp[ev,c1,c2]
 rw[e,bZ];simp only[go_sem,aP,aT c,c,d];apply cX g;simp only[go_sem,aP,c,d,gt_iff_lt,ge_iff_le,c1,c2,f,Id.A_def,(o_:(L.length+1)*24<=140737488355328),(a_:L.length+1<=maxLen)];intro _;have h:=AD (G:=G) (l.filter (aGf l)) (by have:=List.length_filter_le (aGf l) l;omega);simp only[go_sem,aP,aS (bP _),dE];generalize l.filter (aGf l)=L at *
 apply cH (args2:=[ids L]) (aB _) rfl rfl h;rintro r m ⟨rfl,rfl⟩;refine⟨w_,s8,?_⟩;simp only[go_sem]
def aPc (g:GM) (t:g.ok) (l ol:D_) (z:aA PQ G aH3 [.ag g.A,ids l] [] λr T=>r=ids ol/\T=[]) (y:ol.length<=1000) (B:∀x∈ol,x∈g.I):
 aA PQ G aIG [.ag g.A,ids l] [] λr T=>r=rG (ol.foldl (aMk g) [])/\T=[]:=by
 refine aA.fin (p:=λr T=>r=.own 0/\T=[some (.arr 1 ((ol.foldl (aMk g) []).map λn=>[iv n]))]) (aC aMw ?_) [0] ?_;rotate_left;rintro r H ⟨rfl,rfl⟩;simp only[go_sem,gQ];simp only[go_sem];apply cX z;simp only[go_sem];refine aQ ol.length (λi=>⟨0,[(2,.ptr 0 0),(5,ids ol),(6,.own 1),(7,iv i)],[some (.box g.A),some (.arr 1 (((ol.take i).foldl (aMk g) []).map λn=>[iv n]))]⟩) (λ_=>True) ?_ trivial ?_ ?_;simp only[go_sem,uQ,Kk,uP];intro i a _;have j:=fQ i o_;have h:(ol.map Id.A)[i]?=some ol[i].A:=aO _ ol i a;have w:=B _ (eQ a);have f:=aOt (G:=G) g ol[i] t;obtain⟨q,e,v,_⟩:=dG w;have u:aW g.I ol[i]=(q:Int):=by unfold aW qX;rw[e]
 have c:q<g.L.length:=by rw[<-t.i];exact v
 have s:(g.L.map OpM.A)[q]?=some g.L[q].A:=aO _ g.L q c;have E:g.L.getD q default=g.L[q]:=by simp[rH,c]
 have m:=aRf (G:=G) g.L[q];have b:=λout D=>aKc (G:=G) out ((byO g.L[q]).getD 0) D;have C:((ol.take i).foldl (aMk g) []).length<=i:=by
  have k:∀(l:D_)(out:B_),(l.foldl (aMk g) out).length<=out.length+l.length:=by
   intro l
   induction l with
   |nil=>intro out;simp|cons x l ih=>
    intro out;have:=ih (aMk g out x);have h2:(aMk g out x).length<=out.length+1:=by unfold aMk;split<;>simp
    rw[CW];simp only[sE];omega
  have:=k (ol.take i) [];rw[eC]at this;simp at this;omega
 have b:=b ((ol.take i).foldl (aMk g) []) o_;rw[lB a,Hy,CW,Kk];generalize(ol.take i).foldl (aMk g) []=out at *
 rw[u]at f;have F:aMk g out ol[i]=if(decide (0<(byO g.L[q]).getD 0)&&!decide ((byO g.L[q]).getD 0∈out))=true then out++[(byO g.L[q]).getD 0] else out:=by unfold aMk;rw[u,show((q:Int).toNat)=q from rfl,E]
 rw[F];generalize(byO g.L[q]).getD 0=d at *
 generalize g.L[q]=o at *
 simp only[Id.A_def]at h f;rcases(show decide (0<d)=false\/(decide (0<d)=true/\decide (d∈out)=true)\/(decide (0<d)=true/\decide (d∈out)=false) by cases decide (0<d)<;>cases decide (d∈out)<;>simp) with h1|⟨h1,h2⟩|⟨h1,h2⟩
 rw[h1,lR,if_neg d_];simp only[go_sem,aP,aT a,a,h];apply cX f;simp only[go_sem,aP,c,s];apply cX m;simp only[go_sem,gt_iff_lt,h1,j,undef];rw[h1,h2,lI,Ea,if_neg d_];rw[h2]at b;simp only[go_sem,aP,aT a,a,h];apply cX f;simp only[go_sem,aP,c,s];apply cX m;simp only[go_sem,gt_iff_lt,h1];apply iJ (args2:=[rG out,iv d]) (aB _) rfl rfl b;simp only[go_sem,j];rw[h1,h2,sF,yH,if_pos rfl];rw[h2]at b;simp only[go_sem,aP,aT a,a,h];apply cX f;simp only[go_sem,aP,c,s];apply cX m;simp only[go_sem,gt_iff_lt,h1];apply iJ (args2:=[rG out,iv d]) (aB _) rfl rfl b;simp only[go_sem,aP,bZ,fG,uP,j,(o_:(out.length+1)*8<=140737488355328),(a_:out.length+1<=maxLen)];intro _;simp only[go_sem,aP,aS (bP _),dE]
def aJ5(g:GM)(ss:V_)(a:Nat):RM:=ss.foldl (λr k=>if inG g a k=true then BS r (g.L.getD k default) (g.I.getD k default) else r) (RM.new g.Cards)
def aGd(g:GM)(v:List Bool)(out:V_)(k:Nat):V_:=if(!v.getD k false&&decide (mT (aJ5 g out k) (g.L.getD k default)=0))=true then out++[k] else out
structure LD where
 row:List Nat
 v:List Bool
 f:List Bool
 d:List Bool
abbrev pls(l:List Nat):AV:=.ls 1 (l.map λ(k:Nat)=>[iv (k:Int)])
def LD.A(l:LD):O_:=[pls l.row,wI l.v,wI l.f,wI l.d]
structure LD.ok(g:GM)(l:LD):Prop where
 row:∀k∈l.row,k<g.L.length
 n:l.row.length<=1000
 v:l.v.length=g.L.length
 d:l.d.length=g.L.length
def aOQ{g:GM}(d:g.ok):∀(ss:V_)(a:Nat){r:RM}{n:Nat},RB n r->(∀k∈ss,k<g.L.length)->RB (n+ss.length) (ss.foldl (λr k=>if inG g a k=true then BS r (g.L.getD k default) (g.I.getD k default) else r) r)|[],_,_,_,h,_=>h|k::ss,a,r,n,h,b=>by rw[CW,sE,(o_:n+(ss.length+1)=n+1+ss.length)];refine aOQ d ss a ?_ λj e=>b j (.tail _ e);split;refine h.do _ ?_ _;have c:=b k (.head _);rw[rH,jN c];exact(d.ops _ (eQ c)).guards.1;exact h.up (Kl n)
def RB.new{g:GM}(a:g.ok):RB 0 (RM.new g.Cards):=⟨a.cn,sy,sy,sy,sy⟩
def aQk(g:GM)(d:g.ok)(ss:V_)(m:∀k∈ss,k<g.L.length)(K:ss.length<=900)(a:Nat)(M:a<g.L.length):aA PQ G aMr [.ag g.A,.own 0,iv a] [some (.arr 1 (ss.map λ(k:Nat)=>[iv (k:Int)]))] λr T=>r=.ag (aJ5 g ss a).A/\T=[some (.arr 1 (ss.map λ(k:Nat)=>[iv (k:Int)]))]:=by
 have J:=d.n;have w:=d.inn;have y:=d.i;have q:(g.In.map λl=>[wI l])[a]?=some [wI (g.In.getD a [])]:=z_;have u:(g.In.getD a []).length=g.L.length:=d.ins _ (by rw[rH,jN (o_:a<g.In.length)];exact eQ _);have B:=aQV (G:=G) g.Cards;apply aC aOG;simp only[go_sem];apply cX B;simp only[go_sem,RM.A_def];refine aQ ss.length (λi=>⟨1,[(1,.own 0),(2,iv a),(3,.ptr 1 0),(6,.ptr 2 0),(7,.ptr 3 0),(8,iv i)],[some (.arr 1 (ss.map λ(k:Nat)=>[iv (k:Int)])),some (.box g.A),some (.box zR),some (.box (aJ5 g (ss.take i) a).A)]⟩) (λ_=>True) ?_ trivial ?_ ?_;rw[show aJ5 g (ss.take 0) a=RM.new g.Cards from rfl];generalize RM.new g.Cards=H at *
 simp only[go_sem,RM.A_def,zR,rG];intro i c _;have j:=fQ i o_;have e:=m _ (eQ c);have s:(ss.map λ(k:Nat)=>[iv (k:Int)])[i]?=some [iv (ss[i]:Int)]:=aO _ ss i c;have f:((g.In.getD a []).map λb=>[AV.v (.bool b)])[ss[i]]?=some [.v (.bool (inG g a ss[i]))]:=by rw[gE,inG,rH (l:=g.In.getD a []),jN o_];rfl
 have C:(g.L.map OpM.A)[ss[i]]?=some (g.L.getD ss[i] default).A:=by rw[gE,rH,jN e];rfl
 have D:(g.I.map Id.A)[ss[i]]?=some (g.I.getD ss[i] default).A:=z_;have z:RB (0+(ss.take i).length) (aJ5 g (ss.take i) a):=aOQ d (ss.take i) a (RB.new d) λk e=>m k (C8 e);have h:0+(ss.take i).length<=1000:=dc;have t:=d.ops (g.L.getD ss[i] default) (by rw[rH,jN e];exact eQ _);have p:=aRZ (G:=G) _ h _ z (g.L.getD ss[i] default) (g.I.getD ss[i] default) t;have E:aJ5 g (ss.take (i+1)) a=if inG g a ss[i]=true then BS (aJ5 g (ss.take i) a) (g.L.getD ss[i] default) (g.I.getD ss[i] default) else aJ5 g (ss.take i) a:=by unfold aJ5;rw[lB c,Hy];rfl
 rw[E];generalize aJ5 g (ss.take i) a=r at *
 generalize BS r (g.L.getD ss[i] default) (g.I.getD ss[i] default)=F at *
 generalize g.L.getD ss[i] default=o at *
 generalize g.I.getD ss[i] default=x at *
 cases c1:inG g a ss[i];rw[c1]at f;rw[if_neg d_];simp only[go_sem,zR,RM.A_def,rG,aP,aT c,c,s,q,f,j];rw[c1]at f;rw[if_pos rfl];simp only[go_sem,RM.A_def,rG]at p;simp only[go_sem,zR,RM.A_def,rG,aP,aT c,c,s,q,f,C,D];apply cX p;simp only[go_sem,zR,RM.A_def,rG,j];intro _;rw[dE];generalize aJ5 g ss a=r at *
 simp only[go_sem,zR,RM.A_def,rG,aP,aS (bP _)]
def aGg(g:GM)(l:LD):V_:=l.row.foldl (aGd g l.v) []
def aMC {g:GM} {v:List Bool} {k:Nat}:∀(row out:V_),k∈row.foldl (aGd g v) out->k∈out\/k∈row|[],_,h=>.inl h| x::row,out,h=>by rcases aMC row _ h with h|h;unfold aGd at h;split at h;rcases cG.1 h with h|h;exact .inl h;exact .inr (by rw[cA.1 h];exact .head _);exact .inl h;exact .inr (.tail _ h)
def aLY{g:GM}{v:List Bool}:∀(row out:V_),(row.foldl (aGd g v) out).length<=out.length+row.length
 |[],_=>by simp
 |x::row,out=>by
  have:=aLY (g:=g) (v:=v) row (aGd g v out x);have h2:(aGd g v out x).length<=out.length+1:=by unfold aGd;split<;>simp
  rw[CW,sE];omega
def aO9(o:OpM):Bool:=o.Kind==3||(o.Kind==13||o.Kind==12)
def aPz{l:List Bool}{k n:Nat}(a:l.length=n)(c:k<n):(l.map λb=>[AV.v (.bool b)])[k]?=some [.v (.bool (l.getD k false))]:=z_
def aOy (g:GM) (d:g.ok) (l:LD) (w:l.ok g) (J:l.row.length<=900) (f:∀i B,(aJ5 g ((l.row.take i).foldl (aGd g l.v) []) B).need):aA PQ G aJF [.ag g.A,.ag l.A] [] λr T=>r=.own 0/\T=[some (.arr 1 ((aGg g l).map λ(k:Nat)=>[iv (k:Int)]))]:=by
 apply aC aOo;have K:=d.n;have j:=d.i;simp only[go_sem,LD.A];refine aQ l.row.length (λi=>⟨0,[(2,.ptr 0 0),(3,.ptr 1 0),(5,.own 2),(6,iv i)],[some (.box g.A),some (.box l.A),some (.arr 1 (((l.row.take i).foldl (aGd g l.v) []).map λ(k:Nat)=>[iv (k:Int)]))]⟩) (λ_=>True) ?_ trivial ?_ ?_;simp only[go_sem,LD.A,uQ,Kk,uP];intro i a _;have u:=fQ i o_;have c:=w.row _ (eQ a);have y:(l.row.map λ(k:Nat)=>[iv (k:Int)])[i]?=some [iv (l.row[i]:Int)]:=aO _ l.row i a;have m:=aPz w.v c;have s:(g.L.map OpM.A)[l.row[i]]?=some (g.L.getD l.row[i] default).A:=by rw[gE,rH,jN c];rfl
 have t:(g.I.map Id.A)[l.row[i]]?=some (g.I.getD l.row[i] default).A:=z_;have F:=d.ops (g.L.getD l.row[i] default) (by rw[rH,jN c];exact eQ _);have h:=aLY (g:=g) (v:=l.v) (l.row.take i) [];have b:∀k∈(l.row.take i).foldl (aGd g l.v) [],k<g.L.length:=λk c=>w.row k (C8 ((aMC _ _ c).resolve_left s_));simp only[gQ,pQ,eC]at h;have D:=aQk (G:=G) g d _ b o_ l.row[i] c;have C:RB _ (aJ5 g ((l.row.take i).foldl (aGd g l.v) []) l.row[i]):=aOQ d _ l.row[i] (RB.new d) b;have q:=aQQ (G:=G) _ (g.L.getD l.row[i] default) (g.I.getD l.row[i] default) (C.ok o_) F (f i l.row[i]);have E:(l.row.take (i+1)).foldl (aGd g l.v) []=aGd g l.v ((l.row.take i).foldl (aGd g l.v) []) l.row[i]:=by rw[lB a,Hy];rfl
 rw[E];clear E C f;generalize(l.row.take i).foldl (aGd g l.v) []=out at *
 unfold aGd;generalize mT (aJ5 g out l.row[i]) (g.L.getD l.row[i] default)=e at *
 generalize aJ5 g out l.row[i]=r at *
 generalize g.L.getD l.row[i] default=o at *
 generalize g.I.getD l.row[i] default=x at *
 cases c1:l.v.getD l.row[i] false;rw[c1]at m;by_cases p:e=0;have z:(e==0)=true:=by simp[p]
 rw[decide_eq_true p,sF,mF,if_pos rfl];simp only[go_sem,LD.A,aP,aT a,a,y,m,s,t];apply aG (T2:=[some (.arr 1 (out.map λ(k:Nat)=>[iv (k:Int)]))]) [2] (aB _) d_ s_ rfl m_ D;rintro _ H ⟨rfl,rfl⟩;simp only[go_sem,RM.A_def,rG,aP,c,j,s,t]at q⊢;apply cX q;simp only[go_sem,LD.A,z,aP,bZ,fG,uP,u,(o_:(out.length+1)*8<=140737488355328),(a_:out.length+1<=maxLen)];have z:(e==0)=false:=by simp[p]
 rw[decide_eq_false p,Ea,if_neg d_];simp only[go_sem,LD.A,aP,aT a,a,y,m,s,t];apply aG (T2:=[some (.arr 1 (out.map λ(k:Nat)=>[iv (k:Int)]))]) [2] (aB _) d_ s_ rfl m_ D;rintro _ H ⟨rfl,rfl⟩;simp only[go_sem,RM.A_def,rG,aP,c,j,s,t]at q⊢;apply cX q;simp only[go_sem,LD.A,z,u];rw[c1]at m;rw[lI,lR,if_neg d_];simp only[go_sem,LD.A,aP,aT a,a,y,m,u];intro _;rw[dE];simp only[go_sem,LD.A,aP,aS (bP _)];rfl
def aQl(g:GM)(e:g.ok)(l:LD)(d:l.ok g)(c:l.row.length<=900)(a:∀i b,(aJ5 g ((l.row.take i).foldl (aGd g l.v) []) b).need):aA PQ G aJF [.ag g.A,.ag l.A] [] λr T=>r=pls (aGg g l)/\T=[]:=by refine(aOy g e l d c a).fin [0] ?_;rintro r f ⟨rfl,rfl⟩;simp only[go_sem,gQ]
def aE5(g:GM)(l:LD)(k:Nat):Bool:=!l.v.getD k false&&(!l.d.getD k false&&aO9 (g.L.getD k default))
def aPd(g:GM)(l:LD)(a:l.ok g)(k:Nat)(c:k<g.L.length)(h:g.L.length<=1000):aA PQ G aJH [.ag g.A,.ag l.A,iv k] [] λr T=>r=.v (.bool (aE5 g l k))/\T=[]:=by
 have b:=aPz a.v c;have e:=aPz a.d c;have f:(g.L.map OpM.A)[k]?=some (g.L.getD k default).A:=by rw[gE,rH,jN c];rfl
 unfold aE5 aO9;generalize g.L.getD k default=o at *
 rcases(show(l.v.getD k false=true)\/(l.v.getD k false=false/\l.d.getD k false=true)\/(l.v.getD k false=false/\l.d.getD k false=false/\(o.Kind==3)=true)\/(l.v.getD k false=false/\l.d.getD k false=false/\(o.Kind==3)=false/\(o.Kind==13)=true)\/(l.v.getD k false=false/\l.d.getD k false=false/\(o.Kind==3)=false/\(o.Kind==13)=false) by cases l.v.getD k false<;>cases l.d.getD k false<;>cases o.Kind==3<;>cases o.Kind==13<;>simp) with h1|⟨h1,h2⟩|⟨h1,h2,h3⟩|⟨h1,h2,h3,h4⟩|⟨h1,h2,h3,h4⟩
 rw[h1]at b;rw[h1,lI,lR];apply aC aGT;simp only[go_sem,LD.A,aP,c,a.v,f,b,undef];rw[h1]at b;rw[h2]at e;rw[h1,h2,lI,lR,Ea];apply aC aGT;simp only[go_sem,LD.A,aP,c,a.v,a.d,f,b,e,undef];rw[h1]at b;rw[h2]at e;rw[h1,h2,h3];apply aC aGT;simp only[go_sem,LD.A,aP,c,a.v,a.d,f,b,e,h3,undef];rw[h1]at b;rw[h2]at e;rw[h1,h2,h3,h4];apply aC aGT;simp only[go_sem,LD.A,aP,c,a.v,a.d,f,b,e,h3,h4,undef];rw[h1]at b;rw[h2]at e;rw[h1,h2,h3,h4];apply aC aGT;simp only[go_sem,LD.A,aP,c,a.v,a.d,f,b,e,h3,h4]
def aE4(g:GM)(l:LD)(x y:Nat):Bool:=!decide (x=y)&&l.row.any λz=>(decide (z=x)||inG g x z)&&aHG g y z
def aOz(g:GM)(q:g.ok)(l:LD)(u:l.ok g)(x y:Nat)(M:x<g.L.length)(F:y<g.L.length):aA PQ G aK4 [.ag g.A,.ag l.A,iv x,iv y] [] λr T=>r=.v (.bool (aE4 g l x y))/\T=[]:=by
 have N:=q.n;have K:=q.inn;have I:=u.n;have w:=λz E=>aOu (G:=G) g q y z F E;have d:(g.In.map λl=>[wI l])[x]?=some [wI (g.In.getD x [])]:=z_;have H:(g.In.getD x []).length=g.L.length:=q.ins _ (by rw[rH,jN (o_:x<g.In.length)];exact eQ _);have p:((x:Int)==(y:Int))=decide (x=y):=so;unfold aE4;cases D:decide (x=y);rotate_left;rw[lI,lR];apply aC aLQ;simp only[go_sem,LD.A,p,D];rw[sF,mF];apply aC aLQ;simp only[go_sem,LD.A,p,D];refine aQ l.row.length (λi=>⟨0,[(2,iv x),(3,iv y),(4,.ptr 0 0),(5,.ptr 1 0),(9,iv i)],[some (.box g.A),some (.box l.A)]⟩) (λi=>(l.row.take i).any (λz=>(decide (z=x)||inG g x z)&&aHG g y z)=false) ?_ s_ ?_ ?_;simp only[go_sem,LD.A];intro i a c;have s:=fQ i o_;have J:=u.row _ (eQ a);have o:(l.row.map λ(k:Nat)=>[iv (k:Int)])[i]?=some [iv (l.row[i]:Int)]:=aO _ l.row i a;have e:((l.row[i]:Int)==(x:Int))=decide (l.row[i]=x):=so;have m:((g.In.getD x []).map λb=>[AV.v (.bool b)])[l.row[i]]?=some [.v (.bool (inG g x l.row[i]))]:=by rw[gE,inG,rH (l:=g.In.getD x []),jN o_];rfl
 have f:=w l.row[i] J;have C:(l.row.take (i+1)).any (λz=>(decide (z=x)||inG g x z)&&aHG g y z)=((decide (l.row[i]=x)||inG g x l.row[i])&&aHG g y l.row[i]):=by rw[lB a,List.any_append,c];simp
 have B:((decide (l.row[i]=x)||inG g x l.row[i])&&aHG g y l.row[i])=true->l.row.any (λz=>(decide (z=x)||inG g x z)&&aHG g y z)=true:=λh=>CX.2 ⟨_,eQ a,h⟩;rw[C];clear C c w;generalize l.row.any (λz=>(decide (z=x)||inG g x z)&&aHG g y z)=W at *
 generalize aHG g y l.row[i]=j at *
 generalize inG g x l.row[i]=iz at *
 rcases(show(decide (l.row[i]=x)=false/\iz=false)\/(decide (l.row[i]=x)=false/\iz=true/\j=false)\/(decide (l.row[i]=x)=false/\iz=true/\j=true)\/(decide (l.row[i]=x)=true/\j=false)\/(decide (l.row[i]=x)=true/\j=true) by cases decide (l.row[i]=x)<;>cases iz<;>cases j<;>simp) with⟨h1,h2⟩|⟨h1,h2,h3⟩|⟨h1,h2,h3⟩|⟨h1,h3⟩|⟨h1,h3⟩
 subst h2;rw[h1];simp only[go_sem,LD.A,aP,aT a,a,o,e,h1,d,m,s,undef];subst h2 h3;rw[h1];simp only[go_sem,LD.A,aP,aT a,a,o,e,h1,d,m];apply cX f;simp only[go_sem,LD.A,s];subst h2 h3;have t:=B de;rw[t];simp only[go_sem,LD.A,aP,aT a,a,o,e,h1,d,m];apply cX f;simp only[go_sem];subst h3;rw[h1];simp only[go_sem,LD.A,aP,aT a,a,o,e,h1,d,m,undef];apply cX f;simp only[go_sem,LD.A,s];subst h3;have t:=B de;rw[t];simp only[go_sem,LD.A,aP,aT a,a,o,e,h1,d,m,undef];apply cX f;simp only[go_sem];intro c;rw[dE]at c;rw[c];simp only[go_sem,LD.A,aP,aS (bP _)]
def aCE(s:B_)(d:Int):Nat:=(s.findIdx? λx=>x==d).getD s.length
def byD(g:GM)(x:Nat):Int:=(g.L.getD x default).By
def aKs(g:GM)(l:LD)(s:B_):V_->Int->Int|[],b=>b|x::r,b=>if aE5 g l x=true then(if(l.row.any λy=>aE5 g l y&&aE4 g l x y)=true then aKs g l s r (if b<0\/aCE s (byD g x)<aCE s (byD g b.toNat) then x else b) else x) else aKs g l s r b
def aJa(g:GM)(l:LD)(s:B_):Int:=aKs g l s l.row (-1)
def aPA (s:B_) (d:Int) (m:s.length<=100000):aA PQ G aJf [rG s,iv d] [] λr T=>r=iv (aCE s d:Nat)/\T=[]:=by
 apply aC aN7;simp only[go_sem];refine aQ s.length (λi=>⟨0,[(0,rG s),(1,iv d),(5,iv i)],[]⟩) (λi=>∀j(h:j<s.length),j<i->(s[j]==d)=false) ?_ (by intro j _ h;omega) ?_ ?_;simp only[go_sem];intro i b a;have k:=fQ i o_;have g:(s.map λn=>[iv n])[i]?=some [iv s[i]]:=aO _ s i b;cases c1:s[i]==d;have c:∀j(h:j<s.length),j<i+1->(s[j]==d)=false:=λj h f=>by
  rcases eD j i with h1|h1;exact a j h h1;obtain rfl:j=i:=o_;exact c1
 simp only[go_sem,rG,aP,aT b,b,g,c1,k];exact c;have e:aCE s d=i:=by unfold aCE;rw[Ad.2 ⟨b,c1,λj f=>by simp[a j o_ f]⟩];rfl
 rw[e];simp only[go_sem,rG,aP,aT b,b,g,c1];intro a;have e:aCE s d=s.length:=by
  unfold aCE
  rw[Md.2 λx l=>by
   obtain⟨j,f,rfl⟩:=List.mem_iff_getElem.1 l
   exact a j f f]
  rfl
 rw[e];simp only[go_sem,rG,aP,aS (bP _)]
def aQn (g:GM) (P:g.ok) (l:LD) (B:l.ok g) (s:B_) (X:s.length<=100000):aA PQ G aJG [.ag g.A,.ag l.A,rG s] [] λr T=>r=iv (aJa g l s)/\T=[]:=by
 have Y:=P.n;have Z:=B.n;have cE:=λk J=>aPd (G:=G) g l B k J Y;have C:=λx y t W=>aOz (G:=G) g P l B x y t W;have D:=λd=>aPA (G:=G) s d X;have gL:∀k,k<g.L.length->(g.L.map OpM.A)[k]?=some (g.L.getD k default).A:=λk J=>by rw[gE,rH,jN J];rfl
 apply aC aOr;simp only[go_sem,LD.A];apply cO (λm O=>∃(i:Nat)(b:Int),m=l.row.length-i/\i<=l.row.length/\(b=-1\/∃q:Nat,b=(q:Int)/\q<g.L.length)/\aKs g l s (l.row.drop i) b=aJa g l s/\O=⟨0,[(2,rG s),(3,.ptr 0 0),(4,.ptr 1 0),(7,iv b),(8,iv i)],[some (.box g.A),some (.box l.A)]⟩) l.row.length ⟨0,-1,rfl,pR _,.inl rfl,rfl,by simp only[go_sem,LD.A]⟩;rintro m O ⟨i,b,rfl,hi,Q,f,rfl⟩;rcases eD i l.row.length with e|aa;rotate_left;obtain rfl:i=l.row.length:=o_;rw[List.drop_length]at f;rw[<-f];simp only[go_sem,LD.A,aP,aS (bP _),aKs];have H:=fQ i o_;have t:=B.row _ (eQ e);have M:(l.row.map λ(k:Nat)=>[iv (k:Int)])[i]?=some [iv (l.row[i]:Int)]:=aO _ l.row i e;have z:=cE l.row[i] t;have R:=gL l.row[i] t;rw[Kc e,aKs]at f;simp only[LD.A]at z;cases c1:aE5 g l l.row[i];rw[c1]at z;rw[c1,if_neg d_]at f;simp only[go_sem,LD.A,aP,aT e,e,M];apply cX z;simp only[go_sem,LD.A,H];exact⟨l.row.length-(i+1),o_,i+1,b,rfl,o_,Q,f,rfl⟩;rw [c1]at z;rw[c1,if_pos rfl]at f;rcases Q with rfl|⟨q,rfl,I⟩
 simp only[go_sem,LD.A,aP,aT e,e,M];apply cX z;simp only[go_sem];refine aQ l.row.length (λk=>⟨0,[(2,rG s),(3,.ptr 0 0),(4,.ptr 1 0),(7,iv (-1)),(8,iv i),(9,iv (l.row[i]:Int)),(10,.v (.bool (!(l.row.take k).any λy=>aE5 g l y&&aE4 g l l.row[i] y))),(11,iv k)],[some (.box g.A),some (.box l.A)]⟩) (λ_=>True) ?_ trivial ?_ ?_;simp only[go_sem,LD.A,uQ,List.any_nil,sF];intro k a _;have w:=fQ k o_;have o:=B.row _ (eQ a);have p:(l.row.map λ(k:Nat)=>[iv (k:Int)])[k]?=some [iv (l.row[k]:Int)]:=aO _ l.row k a;have c:=cE l.row[k] o;have h:=C l.row[i] l.row[k] t o;have N:((l.row.take (k+1)).any λy=>aE5 g l y&&aE4 g l l.row[i] y)=(((l.row.take k).any λy=>aE5 g l y&&aE4 g l l.row[i] y)||(aE5 g l l.row[k]&&aE4 g l l.row[i] l.row[k])):=by rw[lB a,List.any_append];simp
 rw[N];generalize((l.row.take k).any λy=>aE5 g l y&&aE4 g l l.row[i] y)=A at *
 generalize aE5 g l l.row[k]=u at *
 generalize aE4 g l l.row[i] l.row[k]=w1 at *
 have E:=c;simp only[LD.A]at c h;rcases(show u=false\/(u=true/\w1=false)\/(u=true/\w1=true) by cases u<;>cases w1<;>simp) with rfl|⟨rfl,rfl⟩|⟨rfl,rfl⟩
 simp only[go_sem,LD.A,aP,aT a,a,p];apply cX c;simp only[go_sem,LD.A,w,undef,lR,EB];simp only[go_sem,LD.A,aP,aT a,a,p];apply cX c;simp only[go_sem,LD.A,aP,a,p];apply cX h;simp only[go_sem,LD.A,w,mF,EB];simp only[go_sem,LD.A,aP,aT a,a,p];apply cX c;simp only[go_sem,LD.A,aP,a,p];apply cX h;simp only[go_sem,LD.A,w,mF,Ed,lI];intro _;rw[dE];simp only[go_sem,LD.A,aP,aS (bP _)];refine aL (λj=>?_) (λj=>?_);have j:(l.row.any λy=>aE5 g l y&&aE4 g l l.row[i] y)=false:=di;rw[j,if_neg d_]at f;simp only[go_sem,f];have j:(l.row.any λy=>aE5 g l y&&aE4 g l l.row[i] y)=true:=di;rw[j,if_pos rfl]at f;rw[if_pos (.inl d_)]at f;simp only[go_sem,LD.A,undef,H];exact⟨l.row.length-(i+1),o_,i+1,_,rfl,o_,.inr ⟨_,rfl,t⟩,f,rfl⟩;have cq:decide ((q:Int)<0)=false:=decide_eq_false o_;have S:=gL q I;simp only[go_sem,LD.A,aP,aT e,e,M];apply cX z;simp only[go_sem];refine aQ l.row.length (λk=>⟨0,[(2,rG s),(3,.ptr 0 0),(4,.ptr 1 0),(7,iv (q:Int)),(8,iv i),(9,iv (l.row[i]:Int)),(10,.v (.bool (!(l.row.take k).any λy=>aE5 g l y&&aE4 g l l.row[i] y))),(11,iv k)],[some (.box g.A),some (.box l.A)]⟩) (λ_=>True) ?_ trivial ?_ ?_;simp only[go_sem,LD.A,uQ,List.any_nil,sF];intro k a _;have w:=fQ k o_;have o:=B.row _ (eQ a);have p:(l.row.map λ(k:Nat)=>[iv (k:Int)])[k]?=some [iv (l.row[k]:Int)]:=aO _ l.row k a;have c:=cE l.row[k] o;have h:=C l.row[i] l.row[k] t o;have N:((l.row.take (k+1)).any λy=>aE5 g l y&&aE4 g l l.row[i] y)=(((l.row.take k).any λy=>aE5 g l y&&aE4 g l l.row[i] y)||(aE5 g l l.row[k]&&aE4 g l l.row[i] l.row[k])):=by rw[lB a,List.any_append];simp
 rw[N];generalize((l.row.take k).any λy=>aE5 g l y&&aE4 g l l.row[i] y)=A at *
 generalize aE5 g l l.row[k]=u at *
 generalize aE4 g l l.row[i] l.row[k]=w1 at *
 have E:=c;simp only[LD.A]at c h;rcases(show u=false\/(u=true/\w1=false)\/(u=true/\w1=true) by cases u<;>cases w1<;>simp) with rfl|⟨rfl,rfl⟩|⟨rfl,rfl⟩
 simp only[go_sem,LD.A,aP,aT a,a,p];apply cX c;simp only[go_sem,LD.A,w,undef,lR,EB];simp only[go_sem,LD.A,aP,aT a,a,p];apply cX c;simp only[go_sem,LD.A,aP,a,p];apply cX h;simp only[go_sem,LD.A,w,mF,EB];simp only[go_sem,LD.A,aP,aT a,a,p];apply cX c;simp only[go_sem,LD.A,aP,a,p];apply cX h;simp only[go_sem,LD.A,w,mF,Ed,lI];intro _;rw[dE];simp only[go_sem,LD.A,aP,aS (bP _)];refine aL (λj=>?_) (λj=>?_);have j:(l.row.any λy=>aE5 g l y&&aE4 g l l.row[i] y)=false:=di;rw[j,if_neg d_]at f;simp only[go_sem,f];have j:(l.row.any λy=>aE5 g l y&&aE4 g l l.row[i] y)=true:=di;rw[j,if_pos rfl]at f;have c2:(if(0:Int)>(q:Int) then(0:Int) else(q:Int))=(q:Int):=if_neg o_;have F:(if(q:Int)<0 then(0:Int) else(q:Int))=(q:Int):=if_neg o_;have V:=D (g.L.getD l.row[i] default).By;have U:=D (g.L.getD q default).By;have bs:decide (((aCE s (g.L.getD l.row[i] default).By:Nat):Int)<((aCE s (g.L.getD q default).By:Nat):Int))=decide (aCE s (g.L.getD l.row[i] default).By<aCE s (g.L.getD q default).By):=decide_eq_decide.2 o_;simp only[byD,show((q:Int).toNat)=q from rfl]at f;generalize aCE s (g.L.getD l.row[i] default).By=e1 at *
 generalize aCE s (g.L.getD q default).By=e2 at *
 simp only[go_sem,LD.A,cq,c2,F,aP,t,I,R,S];apply cX V;simp only[go_sem,LD.A,c2,F,aP,t,I,R,S];apply cX U;simp only[go_sem,bs];refine aL (λK=>?_) (λK=>?_);rw[if_pos (.inr (of_decide_eq_true K))]at f;simp only[go_sem,LD.A,H];exact⟨l.row.length-(i+1),o_,i+1,_,rfl,o_,.inr ⟨_,rfl,t⟩,f,rfl⟩;rw[if_neg (by have:=of_decide_eq_false K;omega)]at f;simp only[go_sem,LD.A,H];exact⟨l.row.length-(i+1),o_,i+1,_,rfl,o_,.inr ⟨_,rfl,I⟩,f,rfl⟩
def aOR(g:GM)(b:List Bool)(x:Id):List Bool:=b.set (aW g.I x).toNat true
def aMF(g:GM)(ss:D_):List Bool:=ss.foldl (aOR g) (List.replicate g.L.length false)
def aPi{g:GM}:∀(ss:D_)(b:List Bool),(ss.foldl (aOR g) b).length=b.length|[],_=>rfl|x::ss,b=>by rw[CW,aPi ss,aOR,cL]
abbrev aJE(l:List Bool):List (List AV):=l.map λb=>[.v (.bool b)]
def aOc(B:List Bool)(k:Nat):(aJE B).set k [.v (.bool true)]=aJE (B.set k true):=by rw[aJE,aJE,Ba]
def aQp(g:GM)(hg:g.ok)(hgi:g.I.length=g.L.length)(ss ol:D_)(ho:aA PQ G aH3 [.ag g.A,ids ss] [] λr T=>r=ids ol/\T=[])(hol:ol.length<=1000)(hm:∀x∈ol,x∈g.I)(hsl:ss.length<=1000)(hms:∀x∈ss,x∈g.I):
 aA PQ G aKU [.ag g.A,ids ss] [] λr T=>r=.ag [.own 0,.own 1,.own 2,.own 3]/\T=[some (.arr 1 ((ol.map λx=>(aW g.I x).toNat).map λ(k:Nat)=>[iv (k:Int)])),some (.arr 1 (aJE (aMF g (jI (ss.filter (aGf ss)))))),some (.arr 1 (aJE (aMF g (jI (ss.filter (aGf ss)))))),some (.arr 1 (aJE (List.replicate g.L.length false)))]:=by
 have hn:=hg.n;have hV:=aQj (G:=G) ss (by omega);have hPl:=λx=>Dt (G:=G) g x hg;refine aC aO8 ?_;simp only[go_sem];refine cX ho ?_;simp only[go_sem,aP,show(g.L.length:Int)<=(g.L.length:Int) from Int.le_refl _,show(g.L.length:Int)*1<=140737488355328 by omega,show(g.L.length:Int)<=(maxLen:Int) by unfold maxLen;omega];have er:List.replicate g.L.length [AV.v (.bool false)]=aJE (List.replicate g.L.length false):=by rw[aJE,YH]
 rw[er];obtain⟨F0,eF⟩:∃F0:List Bool,F0=List.replicate g.L.length false:=⟨_,rfl⟩
 have hF:F0.length=g.L.length:=by rw[eF];simp
 rw[<-eF];refine aQ ol.length (λi=>⟨0,[(1,ids ss),(2,.ptr 0 0),(4,.ptr 1 0),(5,.ptr 2 0),(6,ids ol),(7,iv i)],[some (.box g.A),some (.box [.v (.slice none 0 0),.v (.slice none 0 0),.v (.slice none 0 0),.v (.slice none 0 0)]),some (.box [.own 3,.own 4,.own 5,.own 6]),some (.arr 1 (((ol.take i).map λx=>(aW g.I x).toNat).map λ(k:Nat)=>[iv (k:Int)])),some (.arr 1 (aJE F0)),some (.arr 1 (aJE F0)),some (.arr 1 (aJE F0))]⟩) (λ_=>True) ?_ trivial ?_ ?_;simp only[go_sem,uQ,uP];intro i hi _;have ws:=fQ i (by omega);have g0:(ol.map Id.A)[i]?=some ol[i].A:=aO _ ol i hi;have hp:=hPl ol[i];have hx:=(Cz g.I ol[i]).2 (hm _ (eQ hi));have e:aW g.I ol[i]=(((aW g.I ol[i]).toNat:Nat):Int):=by omega
 rw[e]at hp;have hl:((ol.take i).map λx=>(aW g.I x).toNat).length<=1000:=by rw[aP,eC];omega
 have et:((ol.take (i+1)).map λx=>(aW g.I x).toNat)=((ol.take i).map λx=>(aW g.I x).toNat)++[(aW g.I ol[i]).toNat]:=by rw[lB hi,bZ];rfl
 rw[et,bZ];generalize(ol.take i).map (λx=>(aW g.I x).toNat)=R at *
 generalize(aW g.I ol[i]).toNat=k at *
 simp only[go_sem,aP,aT hi,hi,g0];refine cX hp ?_;simp only[go_sem,aP,show(R.length+1)*8<=140737488355328 by omega,show R.length+1<=maxLen by unfold maxLen;omega,ws,fG,uP];intro _;rw[dE];simp only[go_sem,aP,aS (bP _)];refine cX hV ?_;have hmv:∀x∈jI (ss.filter (aGf ss)),x∈g.I:=λx hx=>hms _ (gR.1 ((dQ _).mem_iff.1 hx)).1;have hlv:(jI (ss.filter (aGf ss))).length<=1000:=by rw[Qn];exact uR (List.length_filter_le _ _) hsl
 generalize jI (ss.filter (aGf ss))=V at *
 simp only[go_sem,rI];refine aQ V.length (λi=>⟨0,[(2,.ptr 0 0),(4,.ptr 1 0),(5,.ptr 2 0),(8,ids V),(9,iv i)],[some (.box g.A),some (.box [.v (.slice none 0 0),.v (.slice none 0 0),.v (.slice none 0 0),.v (.slice none 0 0)]),some (.box [.own 3,.own 4,.own 5,.own 6]),some (.arr 1 ((ol.map λx=>(aW g.I x).toNat).map λ(k:Nat)=>[iv (k:Int)])),some (.arr 1 (aJE ((V.take i).foldl (aOR g) F0))),some (.arr 1 (aJE ((V.take i).foldl (aOR g) F0))),some (.arr 1 (aJE F0))]⟩) (λ_=>True) ?_ trivial ?_ ?_;simp only[go_sem,uQ,Kk,rI];intro i hi _;have ws:=fQ i (by omega);have g0:(V.map Id.A)[i]?=some V[i].A:=aO _ V i hi;have hp:=hPl V[i];have hx:=(Cz g.I V[i]).2 (hmv _ (eQ hi));have hx2:(aW g.I V[i]).toNat<g.L.length:=by rw[<-hgi];exact(sV.1 (aKH hx)).1
 have e:aW g.I V[i]=(((aW g.I V[i]).toNat:Nat):Int):=by omega
 rw[e]at hp;have et:(V.take (i+1)).foldl (aOR g) F0=((V.take i).foldl (aOR g) F0).set (aW g.I V[i]).toNat true:=by rw[lB hi,Hy];rfl
 have hB:=aPi (g:=g) (V.take i) F0;rw[et];generalize(V.take i).foldl (aOR g) F0=B at *
 generalize(aW g.I V[i]).toNat=k at *
 simp only[go_sem,aP,aT hi,hi,g0];have hk:k<B.length:=by omega
 refine cX hp ?_;have gB:(aJE B)[k]?=some [.v (.bool B[k])]:=aO _ B k hk;simp only[go_sem,hk,aP,cL,gB,undef,aOc,ws];intro _;rw[dE];simp only[go_sem,aP,aS (bP _),aMF,<-eF]
def aM8(g:GM)(l:LD)(x:Nat):V_:=if decide (x∈aGg g l)=true then l.row.filter λy=>aHG g x y||(aE5 g l y&&aE4 g l x y) else [x]
def aK1(v:List Bool)(ks:V_):List Bool:=ks.foldl (λv k=>v.set k true) v
def aJb(g:GM)(l:LD)(x:Nat):LD:=⟨l.row,aK1 l.v (aM8 g l x),l.f,l.d.set x true⟩
def aKm(g:GM)(s:B_):Nat->LD->LD|0,l=>l|n+1,l=>if aJa g l s<0 then l else aKm g s n (aJb g l (aJa g l s).toNat)
def LD.left(l:LD):Nat:=(l.d.filter λb=>!b).length
def aKI:∀(ks:V_)(v:List Bool),(aK1 v ks).length=v.length|[],_=>rfl|k::ks,v=>by rw[aK1,CW];exact(aKI ks _).trans cL
def aOe{g:GM}{l:LD}(a:l.ok g)(x:Nat):(aJb g l x).ok g:=⟨a.row,a.n,(aKI _ _).trans a.v,by rw[aJb,cL];exact a.d⟩
def aM9 {g:GM} {l:LD} {s:B_}:∀(r:V_)(b:Int),aKs g l s r b=b\/∃x∈r,aKs g l s r b=(x:Int)/\aE5 g l x=true
 |[],_=>.inl rfl
 | x::r,b=>by
  rw[aKs];split;rename_i c;split;rcases aM9 (g:=g) (l:=l) (s:=s) r (if b<0\/aCE s (byD g x)<aCE s (byD g b.toNat) then x else b) with h|⟨y,a,h⟩
  rw[h];split;exact .inr ⟨x,.head _,rfl,c⟩;exact .inl rfl;exact .inr ⟨y,.tail _ a,h⟩;exact .inr ⟨x,.head _,rfl,c⟩;rcases aM9 (g:=g) (l:=l) (s:=s) r b with h|⟨y,a,h⟩
  exact .inl h;exact .inr ⟨y,.tail _ a,h⟩
def aPC{g:GM}{l:LD}{s:B_}(h:¬aJa g l s<0):∃x∈l.row,aJa g l s=(x:Int)/\aE5 g l x=true:=by rcases aM9 (g:=g) (l:=l) (s:=s) l.row (-1) with h1|h1;exact absurd (show aJa g l s<0 by rw[aJa,h1];decide) h;exact h1
def aOf:∀(d:List Bool)(x:Nat),x<d.length->d.getD x false=false->((d.set x true).filter λb=>!b).length+1=(d.filter λb=>!b).length
 |[],x,h,_=>absurd h s_|b::d,0,_,a=>by
  obtain rfl:b=false:=a;simp
 |b::d,x+1,h,a=>by have ih:=aOf d x x_ H_;cases b<;>simp_all
def LT4(l:LD):aK:=[some (.arr 1 (l.row.map λ(k:Nat)=>[iv (k:Int)])),some (.arr 1 (aJE l.v)),some (.arr 1 (aJE l.f)),some (.arr 1 (aJE l.d))]
def LT7(g:GM)(l:LD):aK:=some (.box g.A)::some (.box [.v (.slice none 0 0),.v (.slice none 0 0),.v (.slice none 0 0),.v (.slice none 0 0)])::some (.box [.own 3,.own 4,.own 5,.own 6])::LT4 l
def LT8(g:GM)(l:LD)(L:V_):aK:=[some (.box g.A),some (.box [.v (.slice none 0 0),.v (.slice none 0 0),.v (.slice none 0 0),.v (.slice none 0 0)]),some (.box [.own 4,.own 5,.own 6,.own 7]),some (.arr 1 (L.map λ(k:Nat)=>[iv (k:Int)])),some (.arr 1 (l.row.map λ(k:Nat)=>[iv (k:Int)])),some (.arr 1 (aJE l.v)),some (.arr 1 (aJE l.f)),some (.arr 1 (aJE l.d))]
def aPj(g:GM)(J:g.ok)(ss:D_)(p:LD)(F:p.ok g)(hw:p.row.length<=900)(W:∀v i ab,(aJ5 g ((p.row.take i).foldl (aGd g v) []) ab).need)(s:B_)(hs:s.length<=100000)(hL:aA PQ G aKU [.ag g.A,ids ss] [] λr T=>r=.ag [.own 0,.own 1,.own 2,.own 3]/\T=LT4 p)(hS:aA PQ G aIG [.ag g.A,ids ss] [] λr T=>r=rG s/\T=[]):
 aA PQ G aEU [.ag g.A,ids ss] [] λr T=>r=.ag [.own 0,.own 1,.own 2,.own 3]/\T=LT4 (aKm g s p.left p):=by
 have hn:=J.n;have hN:∀l:LD,l.ok g->aA PQ G aJG [.ag g.A,.ag l.A,rG s] [] λr T=>r=iv (aJa g l s)/\T=[]:=λl o=>aQn (G:=G) g J l o s hs;have aa:=hN p F;apply aC aMx;simp only[go_sem];apply kM hL;simp only[go_sem,LT4];apply cX hS;simp only[go_sem];apply iJ (aB _) rfl rfl aa;simp only[go_sem];apply cO (λm st=>∃l:LD,l.ok g/\l.row=p.row/\l.left=m/\aKm g s m l=aKm g s p.left p/\st=⟨0,[(2,.ptr 0 0),(4,.ptr 1 0),(5,.ptr 2 0),(6,rG s),(7,iv (aJa g l s))],LT7 g l⟩) p.left ⟨p,F,rfl,rfl,rfl,by simp only[go_sem,LT7,LT4]⟩;rintro m st ⟨l,o,U,hm,M,rfl⟩;rcases Int.lt_or_le (aJa g l s) 0 with D|ac;have e:aKm g s m l=l:=by
  cases m with
  |zero=>rfl|succ m=>rw[aKm,if_pos D]
 rw[<-M,e];simp only[go_sem,LT7,LT4,decide_eq_false (o_:¬(0:Int)<=aJa g l s)];obtain⟨x,hx,ex,V⟩:=aPC (o_:¬aJa g l s<0);have u:=o.row x hx;have hd:l.d.getD x false=false:=by
  unfold aE5 at V
  cases h:l.d.getD x false with
  |false=>rfl|true=>rw[h]at V;simp at V
 have ae:=aOf l.d x (by rw[o.d];exact u) hd;have hG:=aOy (G:=G) g J l o (by rw[U];exact hw) (by rw[U];exact W l.v);have hH:=aI8 (G:=G) (aGg g l) x (by have:=aLY (g:=g) (v:=l.v) l.row [];have:=o.n;unfold aGg;simp only[gQ]at *;omega);rw[ex];obtain⟨m,rfl⟩:∃m',m=m'+1:=⟨m-1,by unfold LD.left at hm;omega⟩
 rw[aKm,if_neg o_,ex,nI]at M;have t:=aOe o x;have E:(aJb g l x).left=m:=by unfold LD.left at hm⊢;simp only[aJb];omega
 generalize q:aM8 g l x=b at *
 simp only[go_sem,LT7,LT4];apply cH (aB _) rfl rfl hG;rintro _ T' ⟨rfl,rfl⟩;refine⟨w_,by simp only[cA,forall_eq,xH,dF];rintro e ⟨a,_,rfl⟩ c hc;exact⟨_,cA.1 hc⟩,?_⟩;simp only[go_sem];apply iJ (aB _) rfl rfl hH;simp only[go_sem];generalize hP:(λy=>aHG g x y||(aE5 g l y&&aE4 g l x y))=P at *
 refine aQ l.row.length (λi=>⟨0,[(2,.ptr 0 0),(4,.ptr 1 0),(5,.ptr 2 0),(6,rG s),(7,iv x),(8,.v (.bool (decide (x∈aGg g l)))),(9,.own 3),(10,iv i)],LT8 g l ((l.row.take i).filter P)⟩) (λ_=>True) ?_ trivial ?_ ?_;simp only[go_sem,LT8,uQ,List.filter_nil,uP];intro i j _;have w:=fQ i (by have:=o.n;omega);have Q:=o.row _ (eQ j);have z:(l.row.map λ(k:Nat)=>[iv (k:Int)])[i]?=some [iv (l.row[i]:Int)]:=aO _ l.row i j;have N:=aOu (G:=G) g J x l.row[i] u Q;have Z:=aPd (G:=G) g l o l.row[i] Q hn;have hW:=aOz (G:=G) g J l o x l.row[i] u Q;have af:((l.row.take i).filter P).length<=1000:=by have h1:=List.length_filter_le P (l.row.take i);rw[eC]at h1;have:=o.n;omega
 have ft:(l.row.take (i+1)).filter P=(l.row.take i).filter P++(if(aHG g x l.row[i]||(aE5 g l l.row[i]&&aE4 g l x l.row[i]))=true then [l.row[i]] else []):=by rw[lB j,Mf,List.filter_cons,List.filter_nil,<-hP]
 rw[ft];generalize(l.row.take i).filter P=R at *
 generalize aHG g x l.row[i]=C at *
 generalize aE5 g l l.row[i]=K at *
 generalize aE4 g l x l.row[i]=O at *
 rcases(show C=true\/(C=false/\K=false)\/(C=false/\K=true/\O=false)\/(C=false/\K=true/\O=true) by cases C<;>cases K<;>cases O<;>simp) with rfl|⟨rfl,rfl⟩|⟨rfl,rfl,rfl⟩|⟨rfl,rfl,rfl⟩
 rw[EI,if_pos rfl];simp only[go_sem,LT8,aP,aT j,j,z];apply cX N;simp only[go_sem,LT8,undef,w,aP,bZ,fG,uP,(o_:(R.length+1)*8<=140737488355328),(a_:R.length+1<=maxLen)];rw[EH,lR,if_neg d_,jO];simp only[go_sem,LT8,aP,aT j,j,z];apply cX N;simp only[go_sem,LT8];apply iJ (aB _) rfl rfl Z;simp only[go_sem,LT8,undef,w];rw[EH,mF,if_neg d_,jO];simp only[go_sem,LT8,aP,aT j,j,z];apply cX N;simp only[go_sem,LT8];apply iJ (aB _) rfl rfl Z;simp only[go_sem];apply iJ (aB _) rfl rfl hW;simp only[go_sem,LT8,undef,w];rw[EH,mF,if_pos rfl];simp only[go_sem,LT8,aP,aT j,j,z];apply cX N;simp only[go_sem,LT8];apply iJ (aB _) rfl rfl Z;simp only[go_sem];apply iJ (aB _) rfl rfl hW;simp only[go_sem,LT8,undef,w,aP,bZ,fG,uP,(o_:(R.length+1)*8<=140737488355328),(a_:R.length+1<=maxLen)];intro _;rw[dE];have S:∀k∈b,k<g.L.length:=by rw[<-q];unfold aM8;split;exact λk u=>o.row k (gR.1 u).1;intro k Y;rw[cA.1 Y];exact u
 have ad:b.length<=1000:=by rw[<-q];unfold aM8;split;exact uR (List.length_filter_le _ _) o.n;simp
 have H:x<l.d.length:=by rw[o.d];exact u
 have gd:(aJE l.d)[x]?=some [.v (.bool l.d[x])]:=aO _ l.d x H;have nG:aJb g l x=⟨l.row,aK1 l.v b,l.f,l.d.set x true⟩:=by rw[aJb,q]
 rcases(show(decide (x∈aGg g l)=false/\b=[x])\/(decide (x∈aGg g l)=true/\b=l.row.filter P) by
  cases c1:decide (x∈aGg g l);exact .inl ⟨rfl,by rw[<-q,aM8,c1,if_neg d_]⟩
  exact .inr ⟨rfl,by rw[<-q,aM8,c1,if_pos rfl,hP]⟩) with⟨c1,ev⟩|⟨c1,ev⟩
 all_goals (
  simp only[go_sem,LT8,aP,aS (bP _),c1,H,gd,undef,aOc]
  refine aQ b.length (λi=>⟨0,[(2,.ptr 0 0),(4,.ptr 1 0),(5,.ptr 2 0),(6,rG s),(9,.own 3),(12,iv i)],LT8 g ⟨l.row,aK1 l.v (b.take i),l.f,l.d.set x true⟩ b⟩) (λ_=>True) ?_ trivial ?_ ?_
  simp only[go_sem,LT8,ev,fG,uP,uQ,aK1,Kk]
  intro i j _
  have w:=fQ i o_
  have hv:=S _ (eQ j)
  have z:(b.map λ(k:Nat)=>[iv (k:Int)])[i]?=some [iv (b[i]:Int)]:=aO _ b i j
  have hB:=(aKI (b.take i) l.v).trans o.v
  have ft:aK1 l.v (b.take (i+1))=(aK1 l.v (b.take i)).set b[i] true:=by rw[aK1,lB j,Hy];rfl
  rw[ft]
  generalize aK1 l.v (b.take i)=B at *
  have I:b[i]<B.length:=o_
  have gB:(aJE B)[b[i]]?=some [.v (.bool B[b[i]])]:=aO _ B _ I
  simp only[go_sem,LT8,aP,aT j,j,z,I,gB,undef,aOc,w]
  intro _
  rw[dE]
  rw[nG]at t E M
  have X:=hN _ t
  simp only[go_sem,LT8,aP,aS (bP _)]
  apply iJ (aB _) rfl rfl X
  simp only[go_sem]
  exact⟨m,Nat.lt_succ_self m,_,t,U,E,M,rfl⟩)
def aMn(g:GM)(l:LD):D_:=(aGg g l).map λk=>g.I.getD k default
def aRi(g:GM)(l:LD)(ss:D_)(x:Id):Int :=
 if x∈ss then if l.f.getD (aW g.I x).toNat false=true then 13 else if(aW g.I x).toNat∈aGg g l then 0 else if(aGg g l).any (λy=>aHG g y (aW g.I x).toNat)=true then 15 else if mT (aJ5 g (aGg g l) (aW g.I x).toNat) (g.L.getD (aW g.I x).toNat default)=0 then 15 else mT (aJ5 g (aGg g l) (aW g.I x).toNat) (g.L.getD (aW g.I x).toNat default) else 4
def aQq{g:GM}{ss:D_}{l:LD}(h:aA PQ G aEU [.ag g.A,ids ss] [] λr T=>r=.ag [.own 0,.own 1,.own 2,.own 3]/\T=LT4 l):aA PQ G aEU [.ag g.A,ids ss] [] λr T=>r=.ag l.A/\T=[]:=by refine h.fin [0,1,2,3] ?_;rintro r a ⟨rfl,rfl⟩;simp only[go_sem,LT4,LD.A,gQ]
def aPD(g:GM)(h:g.ok)(ss:D_)(l:LD)(c:l.ok g)(q:l.row.length<=900)(b:∀i j,(aJ5 g ((l.row.take i).foldl (aGd g l.v) []) j).need)(w:aA PQ G aEU [.ag g.A,ids ss] [] λr T=>r=.ag l.A/\T=[]):
 aA PQ G aJd [.ag g.A,ids ss] [] λr T=>r=ids (aMn g l)/\T=[]:=by
 have C:=h.n;have e:=h.i;have u:=aQl (G:=G) g h l c q b;have s:(aGg g l).length<=1000:=by have:=aLY (g:=g) (v:=l.v) l.row [];have:=c.n;unfold aGg;simp only[gQ]at *;omega
 have f:∀k∈aGg g l,k<g.L.length:=λk d=>c.row k ((aMC _ _ d).resolve_left s_);unfold aMn;generalize aGg g l=o at *
 refine aA.fin (p:=λr T=>r=.own 0/\T=[some (.arr 3 ((o.map λk=>g.I.getD k default).map Id.A))]) (aC aN3 ?_) [0] ?_;rotate_left;rintro r D ⟨rfl,rfl⟩;simp only[go_sem,ids,gQ,rI];simp only[go_sem];apply cX w;simp only[go_sem];apply cX u;simp only[go_sem];refine aQ o.length (λi=>⟨0,[(2,.ptr 0 0),(5,.own 1),(6,pls o),(7,iv i)],[some (.box g.A),some (.arr 3 (((o.take i).map λk=>g.I.getD k default).map Id.A))]⟩) (λ_=>True) ?_ trivial ?_ ?_;simp only[go_sem,uQ,uP];intro i a _;have m:=fQ i o_;have d:=f _ (eQ a);have z:(o.map λ(k:Nat)=>[iv (k:Int)])[i]?=some [iv (o[i]:Int)]:=aO _ o i a;have y:(g.I.map Id.A)[o[i]]?=some (g.I.getD o[i] default).A:=z_;have B:((o.take (i+1)).map λk=>g.I.getD k default)=((o.take i).map λk=>g.I.getD k default)++[g.I.getD o[i] default]:=by rw[lB a,bZ];rfl
 rw[B];have t:((o.take i).map λk=>g.I.getD k default).length<=1000:=by rw[aP,eC];omega
 generalize((o.take i).map λk=>g.I.getD k default)=R at *
 generalize g.I.getD o[i] default=x at *
 simp only[go_sem,aP,aT a,a,z,d,e,y,m,bZ,fG,uP,(o_:(R.length+1)*24<=140737488355328),(a_:R.length+1<=maxLen)];intro _;rw[dE];simp only[go_sem,aP,aS (bP _)]
end Hud
