import Derived.Test.YtdichbeaekjibaaGreatDoorLib09
import Derived.ProofKit
import Derived.Deep.Slices
set_option linter.all false
set_option maxHeartbeats 40000000
namespace Hud
open Go
variable{G:L_}
def UW(o:OpM):List (Int×Nat×Bool):=[(1,9,o.Device !=0),(2,12,o.Old !=0),(4,15,o.Member !=0),(8,18,o.Role !=0),(16,22,decide ((o.Path.length:Int)>0)),(32,26,!(o.Epoch.a==0&&(o.Epoch.b==0&&o.Epoch.c==0))),(64,29,o.N !=0),(128,33,decide ((o.Body.length:Int)>0)),(256,37,decide ((o.Refs.length:Int)>0)),(512,41,!(o.Of.a==0&&(o.Of.b==0&&o.Of.c==0))),
 (1024,45,decide ((o.Guards.length:Int)>0)),(2048,48,o.Need !=0),(4096,51,o.Wait !=0),(8192,55,decide ((o.Boxes.length:Int)>0)),(16384,58,((o.Pub:Int)!=0)),(32768,62,decide ((o.Hist.length:Int)>0))]
def aAx(o:OpM):aA PQ G DW [.ag o.A] [] λr T=>r=iv ((sC (jQ o):Nat):Int)/\T=[]:=by
 apply aC LR;simp only[go_sem,OpM.A_def,aP];refine aHI rfl (Nv (T0:=[some (.box o.A),none]) (i:=1) (m:=6) s_ rfl ?_ 16 (UW o) [] rfl ?_ ?_ ?_);intro X;simp only[go_sem,OpM.A_def,aP];intro e j;simp only[UW,cS,pP,or_false]at j;rcases j with rfl|rfl|rfl|rfl|rfl|rfl|rfl|rfl|rfl|rfl|rfl|rfl|rfl|rfl|rfl|rfl<;>rfl;show([1,2,4,8,16,32,64,128,256,512,1024,2048,4096,8192,16384,32768]:B_).Nodup;decide;intro X N;have g:X.Perm (jQ o):=N;have M:∀e∈X,∃k:Nat,e.1=(k:Int)/\k<65536:=λe j=>by have:=g.mem_iff.1 j;simp only[jQ,cS,pP,or_false]at this;rcases this with rfl|rfl|rfl|rfl|rfl|rfl|rfl|rfl|rfl|rfl|rfl|rfl|rfl|rfl|rfl|rfl;exact⟨1,rfl,d_⟩;exact⟨2,rfl,d_⟩;exact⟨4,rfl,d_⟩;exact⟨8,rfl,d_⟩;exact⟨16,rfl,d_⟩;exact⟨32,rfl,d_⟩;exact⟨64,rfl,d_⟩;exact⟨128,rfl,d_⟩;exact⟨256,rfl,d_⟩;exact⟨512,rfl,d_⟩;exact⟨1024,rfl,d_⟩;exact⟨2048,rfl,d_⟩;exact⟨4096,rfl,d_⟩;exact⟨8192,rfl,d_⟩;exact⟨16384,rfl,d_⟩;exact⟨32768,rfl,d_⟩
 have L:X.length=16:=g.length_eq;rw[<-Nw g];clear N g;simp only[go_sem,MP,OpM.A_def];have F:∀e∈Io X [],e.1.toNat<65536:=λe j=>by simp[Io]at j
 refine cO (λn J=>∃a:V_,n=16-a.length/\a.Nodup/\(∀b∈a,b<X.length)/\J=⟨0,[(3,iv ((sC (Io X a):Nat):Int)),(64,.ptr 0 0)],[some (.mit (some 1) X.length a X.length),some (MP X)]⟩) 16 ⟨[],rfl,Mm,λb f=>by simp at f,?_⟩ ?_;simp only[go_sem,MP];rfl;rintro n J ⟨a,rfl,D,s,rfl⟩;have O:a.length<=16:=by have h1:a.length<=(List.range X.length).length:=xY D λb f=>uM.2 (s b f);simp_all
 have E:∀e∈Io X a,e.1.toNat<65536:=λe j=>by obtain⟨b,f,rfl⟩:=dF.1 j;have H:=s b f;obtain⟨k,h1,h2⟩:=M X[b] (eQ H);simp_all
 have q:sC (Io X a)<65536:=WS _ 0 d_ E;simp only[go_sem];refine aGW rfl rfl (cN _) (cN _) (λp=>?_) λb f z=>?_;have:=Nw (aFf D s p);simp only[go_sem,this];obtain⟨k,h1,h2⟩:=M X[b] (eQ f);have h3:(X.map λe=>[Value.int .i64 e.1])[b]?=some [.int .i64 (k:Int)]:=by simp[f,h1]
 have I:(X.map λe=>AV.v (.bool e.2))[b]?=some (.v (.bool X[b].2)):=by simp[f]
 have l:iY false [Value.int .i64 (k:Int)]=.int .i64 (k:Int):=fI rfl rfl;have w:=aCI (sC (Io X a)) k q h2;have B:sC (Io X (a++[b]))=Yq (sC (Io X a)) X[b]:=by simp only[sC,Io,bZ,fG,uP,Hy,CW,Kk,rH,jN f,Mi]
 have d:∀v:Nat,Yq (sC (Io X a)) X[b]=v->∃m,m<16-a.length/\∃c:V_,m=16-c.length/\c.Nodup/\(∀b∈c,b<X.length)/\(⟨0,[(3,iv v),(64,.ptr 0 0)],[some (.mit (some 1) X.length (a++[b]) X.length),some (MP X)]⟩:St)=⟨0,[(3,iv ((sC (Io X c):Nat):Int)),(64,.ptr 0 0)],[some (.mit (some 1) X.length c X.length),some (MP X)]⟩:=λv Q=>by have C:(a++[b]).Nodup:=vQ.2 ⟨D,s_,λx u y K e=>z (by rw[cA]at K;rw[<-K,<-e];exact u)⟩;have P:(a++[b]).length<=(List.range X.length).length:=xY C λx u=>uM.2 ((cG.1 u).elim (s x) λh=>by rw[cA.1 h];exact f);grind
 unfold Yq at d;rw[h1]at d;simp only[nI]at d;generalize X[b].2=t at I d
 cases t with
 |true=>
  simp only[go_sem,MP,Ke,CJ f,h3,I,↓l,↓w,h1];simp_all
 |false=>
  simp only[go_sem,MP,Ke,CJ f,h3,I,↓l,h1];simp_all
def MH(n:NodeM):Bool:=decide ((n.Boxes.length:Int)<=12)
def MI(x:SealM):Bool:=decide ((x.Body.length:Int)<=208)
def aD0(n:NodeM):aA PQ G Bp [.ag n.A] [] λr T=>r=.v (.bool (MH n))/\T=[]:=by refine aC Nq ?_;simp only[go_sem,NodeM.A,aP,MH]
def aD1(x:SealM):aA PQ G Bq [.ag x.A] [] λr T=>r=.v (.bool (MI x))/\T=[]:=by refine aC Nr ?_;simp only[go_sem,SealM.A,aP,MI]
def aAy(o:OpM)(a:o.ok):aA PQ G Jq [.ag o.A] [] λr T=>r=.v (.bool (ED o))/\T=[]:=by
 apply aC SE;have c:=a.path.1;have b:=a.hist.1;have e:(o.Path.all λn=>decide ((n.Boxes.length:Int)<=12))=o.Path.all MH:=rfl;have d:(o.Hist.all λn=>decide ((n.Body.length:Int)<=208))=o.Hist.all MI:=rfl;simp only[go_sem]
 repeat' (first
  |((with_reducible refine aL (λh=>?_) (λh=>?_))<;>(try simp only[vP,lI,sF]at h)<;>simp only[go_sem,aP,gt_iff_lt,h,undef])
  |(with_reducible refine dO (f:=bM) ?_;refine aU (aB _) rfl (tR _ _ _) rfl ?_;simp only[go_sem,aP,gt_iff_lt,undef])|(with_reducible refine dO (f:=jX) ?_;refine aU (aB _) rfl (Nz Bp MH o.Path o_ λx _=>aD0 x) rfl ?_;simp only[go_sem,aP,gt_iff_lt,undef])|(with_reducible refine dO (f:=iU) ?_;refine aU (aB _) rfl (N0 Bq MI o.Hist o_ λx _=>aD1 x) rfl ?_;simp only[go_sem,aP,gt_iff_lt,undef]))
 all_goals simp only[ED,gt_iff_lt, *,lI,sF,Ed,EI,EB,EH,if_true,if_false,jJ]
def Wl(n:NodeM)(a:n.ok):aA PQ G wP [.ag n.A] [] λr T=>r=.v (.bool (FI n))/\T=[]:=by refine aC Js ?_;have b:=a.2.1;simp only[go_sem,NodeM.A,FI];apply cX (Bt n.Pub);cases h1:HK n.Pub;simp only[go_sem,lR];simp only[go_sem];apply cX (Ql wF wA n.Boxes o_ λx _=>Nu x);simp only[go_sem,mF]
def Wm(x:SealM):aA PQ G wQ [.ag x.A] [] λr T=>r=.v (.bool (FJ x))/\T=[]:=by refine aC Jt ?_;simp only[go_sem,SealM.A,FJ];apply cX (Dg x.Of);simp only[go_sem]
def Wo(n:Int):aA PQ G wR [iv n] [] λr T=>r=.v (.bool (yS n))/\T=[]:=by refine aC Ju ?_;simp only[go_sem,yS];apply cX (tR n 1 12);simp only[go_sem]
def UX (o:OpM) (ho:o.ok) (k:Nat) (R:k<65536):aA PQ G E7 [.ag o.A,iv k] [] λr T=>r=.v (.bool (CK o k))/\T=[]:=by
 apply aC Ns;rw[L9,bC];refine cB (λs=>s=⟨0,[(2,.ptr 0 0),(1,iv k)],[some (.box o.A)]⟩) ?_ ?_;simp only[go_sem];rintro s rfl;rw[bC];refine cB (λs=>s=⟨0,[(2,.ptr 0 0),(1,iv k)],[some (.box o.A)]⟩/\(oI o.By 1 12&&oI o.Seq 1 2147483647&&oI o.At 0 2147483647)=true) ?_ ?_
 ·simp only[go_sem]
  repeat' (first
   |((with_reducible refine aL (λh=>?_) (λh=>?_))<;>(try simp only[vP,lI,sF]at h)<;>simp only[go_sem,h,undef])
   |(with_reducible refine dO (f:=bM) ?_;refine aU (aB _) rfl (tR _ _ _) rfl ?_;simp only[go_sem,undef]))
  all_goals simp only[CK, *,aBY,lR,Ea]
 rintro s ⟨rfl,bg⟩;have C:CK o k=(Pm k (FH o)&&(o.Guards.all yS&&(o.Refs.all SF&&(o.Past.all jP&&(o.Path.all FI&&(o.Boxes.all wA&&o.Hist.all FJ)))))):=by simp_all[CK,mF]
 rw[bC];refine cB (λs=>s=⟨0,[(7,iv o.Guards.length),(6,iv 1),(5,iv 1),(2,.ptr 0 0),(1,iv k)],[some (.box o.A)]⟩) ?_ ?_;simp only[go_sem,aP];rintro s rfl;rw[bC];refine cB (λs=>s=⟨0,[(8,.v (.bool (oI o.Member 1 8))),(7,iv o.Guards.length),(6,iv 1),(5,iv 1),(2,.ptr 0 0),(1,iv k)],[some (.box o.A)]⟩) ?_ ?_;simp only[go_sem];apply cX (tR o.Member 1 8);simp only[go_sem];rintro s rfl;obtain⟨I,bq⟩:∃I:Int,I=if o.Kind=3 then 0 else 1:=⟨_,rfl⟩
 obtain⟨F,bn⟩:∃F:Int,F=if o.Kind=1 then 0 else 1:=⟨_,rfl⟩
 obtain⟨H,bo⟩:∃H:Int,H=if o.Kind=1 then 20 else(o.Guards.length:Int):=⟨_,rfl⟩
 obtain⟨J,bp⟩:∃J:Bool,J=if o.Kind=3 then(oI o.Member 1 8&&(o.Device==0))||((o.Member==0)&&(o.Device !=0)) else oI o.Member 1 8:=⟨_,rfl⟩
 have hE:FH o=[(1,oI o.Device I 12),(2,oI o.Old 1 12),(4,J),(8,oI o.Role 1 3),(64,oI o.N 0 2147483647),(4096,oI o.Wait 0 2147483647),(2048,oI o.Need F H),(32,jP o.Epoch),(512,jP o.Of),(16384,HK o.Pub)]:=by rw[bq,bn,bo,bp];rfl
 apply aAw;rw[bC];refine cB (λs=>s.r=0/\s.T=[some (.box o.A)]/\sA s.s=[(1,iv k),(2,.ptr 0 0),(5,iv I),(6,iv F),(7,iv H),(8,.v (.bool J))]) ?_ ?_
 ·simp only[go_sem];clear hE;generalize oI o.Member 1 8=im at *
  repeat' (first
   |((with_reducible refine aL (λh=>?_) (λh=>?_))<;>(try simp only[vP,lI,sF]at h)<;>simp only[go_sem,h,undef]))
  all_goals simp_all
 rintro⟨r1,O,T1⟩ ⟨h1,h2,h3⟩;simp only at h1 h2 h3;subst h1 h2;have Z:O.Perm [(1,iv k),(2,.ptr 0 0),(5,iv I),(6,iv F),(7,iv H),(8,.v (.bool J))]:=by rw[<-h3];exact(UV O).symm
 have W:(O.map (·.1)).Perm [1,2,5,6,7,8]:=Z.map _;have hg:∀j x,(j,x)∈[(1,iv k),(2,AV.ptr 0 0),(5,iv I),(6,iv F),(7,iv H),(8,.v (.bool J))]->bA O j=x:=λj x hm=>Cn (W.nodup_iff.2 d_) (Z.mem_iff.2 hm);have B:∀j,j∉[1,2,5,6,7,8]->LE O j=O:=λj hj=>Ix λh=>hj (W.mem_iff.1 h);have g1:=hg 1 (iv k) s_;have g2:=hg 2 (.ptr 0 0) s_;have g5:=hg 5 (iv I) s_;have g6:=hg 6 (iv F) s_;have g7:=hg 7 (iv H) s_;have g8:=hg 8 (.v (.bool J)) s_;simp only[go_sem,g2,g5,g6,g7,g8,B 59 d_,B 60 d_,B 61 d_,B 63 d_,B 64 d_,B 66 d_,B 67 d_,B 68 d_,B 70 d_,B 71 d_,B 73 d_,B 74 d_,B 76 d_,B 77 d_,B 78 d_,B 79 d_,B 81 d_,B 82 d_,B 84 d_,B 85 d_,B 87 d_,B 88 d_];obtain⟨U,d⟩:∃U:List (Nat×AV),U=[(88,uv o.Pub),(87,.ptr 0 23),(85,.ag o.Of.A),(84,.ptr 0 16),(82,.ag o.Epoch.A),(81,.ptr 0 10),(79,iv H),(78,iv F),(77,iv o.Need),(76,.ptr 0 20),(74,iv o.Wait),(73,.ptr 0 21),(71,iv o.N),(70,.ptr 0 13),(68,iv o.Role),(67,.ptr 0 8),(66,.v (.bool J)),(64,iv o.Old),(63,.ptr 0 6),(61,iv I),(60,iv o.Device),(59,.ptr 0 5)]:=⟨_,rfl⟩
 have aa:((U++O).map (·.1)).Perm ([88,87,85,84,82,81,79,78,77,76,74,73,71,70,68,67,66,64,63,61,60,59]++[1,2,5,6,7,8]):=u_;have a:∀j,j∈([88,87,85,84,82,81,79,78,77,76,74,73,71,70,68,67,66,64,63,61,60,59]++[1,2,5,6,7,8]:V_)->j∈(U++O).map (·.1):=λj hj=>aa.mem_iff.2 hj;refine aFp λp hp=>?_;have av:∀vs:Nat->Bool,vs=(λj=>if j=62 then oI o.Device I 12 else if j=65 then oI o.Old 1 12 else if j=69 then oI o.Role 1 3 else if j=72 then oI o.N 0 2147483647 else if j=75 then oI o.Wait 0 2147483647 else if j=80 then oI o.Need F H else if j=83 then jP o.Epoch else if j=86 then jP o.Of else if j=89 then HK o.Pub else J)->([⟨5,1,62,1⟩,⟨9,2,65,2⟩,⟨11,4,66,0⟩,⟨15,8,69,3⟩,⟨19,64,72,4⟩,⟨23,4096,75,5⟩,⟨29,2048,80,6⟩,⟨33,32,83,7⟩,⟨37,512,86,8⟩,⟨41,16384,89,9⟩]:List IE).map (λe=>(e.k,vs e.s))=FH o:=λvs hv=>by subst hv;rw[hE];rfl
 obtain⟨vs,Y⟩:∃vs:Nat->Bool,vs=(λj=>if j=62 then oI o.Device I 12 else if j=65 then oI o.Old 1 12 else if j=69 then oI o.Role 1 3 else if j=72 then oI o.N 0 2147483647 else if j=75 then oI o.Wait 0 2147483647 else if j=80 then oI o.Need F H else if j=83 then jP o.Epoch else if j=86 then jP o.Of else if j=89 then HK o.Pub else J):=⟨_,rfl⟩
 refine aHV (P:=PQ) (G:=G) (p:=p) (Q:=[39,38,35,34,31,30,27,26,25,24,21,20,17,16,13,12,10,7,6,3,2,1]) (m:=58) (z:=42) (y:=43) (dz:=90) (dy:=91) (r0:=0) (cs:=[⟨4,62,bM,[.tmp 60,.tmp 61,.const (.int .i64 12)]⟩,⟨8,65,bM,[.tmp 64,.const (.int .i64 1),.const (.int .i64 12)]⟩,⟨14,69,bM,[.tmp 68,.const (.int .i64 1),.const (.int .i64 3)]⟩,⟨18,72,bM,[.tmp 71,.const (.int .i64 0),.const (.int .i64 2147483647)]⟩,⟨22,75,bM,[.tmp 74,.const (.int .i64 0),.const (.int .i64 2147483647)]⟩,⟨28,80,bM,[.tmp 77,.tmp 78,.tmp 79]⟩,⟨32,83,fC,[.tmp 82]⟩,⟨36,86,fC,[.tmp 85]⟩,⟨40,89,jS,[.tmp 88]⟩]) (es:=[⟨5,1,62,1⟩,⟨9,2,65,2⟩,⟨11,4,66,0⟩,⟨15,8,69,3⟩,⟨19,64,72,4⟩,⟨23,4096,75,5⟩,⟨29,2048,80,6⟩,⟨33,32,83,7⟩,⟨37,512,86,8⟩,⟨41,16384,89,9⟩]) (s0:=U++O) (T0:=[some (.box o.A)])
  (vs:=vs) ?_ ?_ ?_ ?_ ?_ ?_ ?_ d_ ?_ ?_ ?_ d_ ?_ 23 false false 0 [] _ _ (pR _) Mm (λe h=>by simp at h) ?_ ?_ (.inr ⟨rfl,rfl⟩) d_
 rw[hp];constructor<;>decide +kernel;rw[hp];rfl;rw[hp];simp;rw[hp];simp;rw[hp];rfl;rw[hp];rfl;exact((aa.append_right _).nodup_iff).2 d_;intro c hc s T K' g R;have bf:bA s 59=.ptr 0 5:=(g 59 (a 59 d_)).trans i_;have an:bA s 60=iv o.Device:=(g 60 (a 60 d_)).trans i_;have am:bA s 61=iv I:=(g 61 (a 61 d_)).trans i_;have be:bA s 63=.ptr 0 6:=(g 63 (a 63 d_)).trans i_;have al:bA s 64=iv o.Old:=(g 64 (a 64 d_)).trans i_;have bd:bA s 66=.v (.bool J):=(g 66 (a 66 d_)).trans i_;have bc:bA s 67=.ptr 0 8:=(g 67 (a 67 d_)).trans i_;have ak:bA s 68=iv o.Role:=(g 68 (a 68 d_)).trans i_;have bb:bA s 70=.ptr 0 13:=(g 70 (a 70 d_)).trans i_;have aj:bA s 71=iv o.N:=(g 71 (a 71 d_)).trans i_;have ba:bA s 73=.ptr 0 21:=(g 73 (a 73 d_)).trans i_;have ai:bA s 74=iv o.Wait:=(g 74 (a 74 d_)).trans i_;have az:bA s 76=.ptr 0 20:=(g 76 (a 76 d_)).trans i_;have ah:bA s 77=iv o.Need:=(g 77 (a 77 d_)).trans i_;have af:bA s 78=iv F:=(g 78 (a 78 d_)).trans i_;have ae:bA s 79=iv H:=(g 79 (a 79 d_)).trans i_;have ay:bA s 81=.ptr 0 10:=(g 81 (a 81 d_)).trans i_;have ad:bA s 82=.ag o.Epoch.A:=(g 82 (a 82 d_)).trans i_;have ax:bA s 84=.ptr 0 16:=(g 84 (a 84 d_)).trans i_;have ac:bA s 85=.ag o.Of.A:=(g 85 (a 85 d_)).trans i_;have aw:bA s 87=.ptr 0 23:=(g 87 (a 87 d_)).trans i_;have ab:bA s 88=uv o.Pub:=(g 88 (a 88 d_)).trans i_;have e1:bA s 1=iv (k:Int):=(g 1 (a 1 d_)).trans (by rw[d];exact g1);have e2:bA s 2=.ptr 0 0:=(g 2 (a 2 d_)).trans (by rw[d];exact g2);have e5:bA s 5=iv I:=(g 5 (a 5 d_)).trans (by rw[d];exact g5);have e6:bA s 6=iv F:=(g 6 (a 6 d_)).trans (by rw[d];exact g6);have e7:bA s 7=iv H:=(g 7 (a 7 d_)).trans (by rw[d];exact g7);have e8:bA s 8=.v (.bool J):=(g 8 (a 8 d_)).trans (by rw[d];exact g8);simp only[cS,pP,or_false]at hc;subst Y;rcases hc with rfl|rfl|rfl|rfl|rfl|rfl|rfl|rfl|rfl<;>simp only[fG,uP,dW,an,am,al,ak,aj,ai,ah,af,ae,ad,ac,ab];exact aU (aB _) rfl (tR o.Device I 12) rfl R;exact aU (aB _) rfl (tR o.Old 1 12) rfl R;exact aU (aB _) rfl (tR o.Role 1 3) rfl R;exact aU (aB _) rfl (tR o.N 0 2147483647) rfl R;exact aU (aB _) rfl (tR o.Wait 0 2147483647) rfl R;exact aU (aB _) rfl (tR o.Need F H) rfl R;exact aU (aB _) rfl (Dg o.Epoch) rfl R;exact aU (aB _) rfl (Dg o.Of) rfl R;exact aU (aB _) rfl (Bt o.Pub) rfl R;intro e he;simp only[cS,pP,or_false]at he;subst Y;rcases he with rfl|rfl|rfl|rfl|rfl|rfl|rfl|rfl|rfl|rfl;exact .inr ⟨_,rfl,d_,rfl⟩;exact .inr ⟨_,rfl,d_,rfl⟩;exact .inl ⟨a 66 d_,i_⟩;exact .inr ⟨_,rfl,d_,rfl⟩;exact .inr ⟨_,rfl,d_,rfl⟩;exact .inr ⟨_,rfl,d_,rfl⟩;exact .inr ⟨_,rfl,d_,rfl⟩;exact .inr ⟨_,rfl,d_,rfl⟩;exact .inr ⟨_,rfl,d_,rfl⟩;exact .inr ⟨_,rfl,d_,rfl⟩;intro s T g hT q ao o' aq;have eT:T[0]?=some (some (.box o.A)):=bH (hT 0 Nat.zero_lt_one);have bf:bA s 59=.ptr 0 5:=(g 59 (a 59 d_)).trans i_;have an:bA s 60=iv o.Device:=(g 60 (a 60 d_)).trans i_;have am:bA s 61=iv I:=(g 61 (a 61 d_)).trans i_;have be:bA s 63=.ptr 0 6:=(g 63 (a 63 d_)).trans i_;have al:bA s 64=iv o.Old:=(g 64 (a 64 d_)).trans i_;have bd:bA s 66=.v (.bool J):=(g 66 (a 66 d_)).trans i_;have bc:bA s 67=.ptr 0 8:=(g 67 (a 67 d_)).trans i_;have ak:bA s 68=iv o.Role:=(g 68 (a 68 d_)).trans i_;have bb:bA s 70=.ptr 0 13:=(g 70 (a 70 d_)).trans i_;have aj:bA s 71=iv o.N:=(g 71 (a 71 d_)).trans i_;have ba:bA s 73=.ptr 0 21:=(g 73 (a 73 d_)).trans i_;have ai:bA s 74=iv o.Wait:=(g 74 (a 74 d_)).trans i_;have az:bA s 76=.ptr 0 20:=(g 76 (a 76 d_)).trans i_;have ah:bA s 77=iv o.Need:=(g 77 (a 77 d_)).trans i_;have af:bA s 78=iv F:=(g 78 (a 78 d_)).trans i_;have ae:bA s 79=iv H:=(g 79 (a 79 d_)).trans i_;have ay:bA s 81=.ptr 0 10:=(g 81 (a 81 d_)).trans i_;have ad:bA s 82=.ag o.Epoch.A:=(g 82 (a 82 d_)).trans i_;have ax:bA s 84=.ptr 0 16:=(g 84 (a 84 d_)).trans i_;have ac:bA s 85=.ag o.Of.A:=(g 85 (a 85 d_)).trans i_;have aw:bA s 87=.ptr 0 23:=(g 87 (a 87 d_)).trans i_;have ab:bA s 88=uv o.Pub:=(g 88 (a 88 d_)).trans i_;have e1:bA s 1=iv (k:Int):=(g 1 (a 1 d_)).trans (by rw[d];exact g1);have e2:bA s 2=.ptr 0 0:=(g 2 (a 2 d_)).trans (by rw[d];exact g2);have e5:bA s 5=iv I:=(g 5 (a 5 d_)).trans (by rw[d];exact g5);have e6:bA s 6=iv F:=(g 6 (a 6 d_)).trans (by rw[d];exact g6);have e7:bA s 7=iv H:=(g 7 (a 7 d_)).trans (by rw[d];exact g7);have e8:bA s 8=.v (.bool J):=(g 8 (a 8 d_)).trans (by rw[d];exact g8);rw[hp]at aq;simp only[cS,pP,or_false]at ao;rcases ao with rfl|rfl|rfl|rfl|rfl|rfl|rfl|rfl|rfl|rfl|rfl|rfl|rfl|rfl|rfl|rfl|rfl|rfl|rfl|rfl|rfl|rfl<;>(obtain rfl:=Option.some.inj aq;simp only[go_sem,eT,bf,an,am,be,al,bd,bc,ak,bb,aj,ba,ai,az,ah,af,ae,ay,ad,ax,ac,aw,ab,e2,e5,e6,e7,e8])
 ·intro X hX;rw[av vs Y]at hX;have S:X.Perm (FH o):=hX;have L:Pm k X=Pm k (FH o):=by unfold Pm;rw[CT,oD,oD];exact⟨λh x K=>h x (S.mem_iff.2 K),λh x K=>h x (S.mem_iff.1 K)⟩
  have bt:∀e∈X,∃j:Nat,e.1=(j:Int)/\j<65536:=λe he=>by have:=S.mem_iff.1 he;simp only[FH,cS,pP,or_false]at this;rcases this with rfl|rfl|rfl|rfl|rfl|rfl|rfl|rfl|rfl|rfl;exact⟨1,rfl,d_⟩;exact⟨2,rfl,d_⟩;exact⟨4,rfl,d_⟩;exact⟨8,rfl,d_⟩;exact⟨64,rfl,d_⟩;exact⟨4096,rfl,d_⟩;exact⟨2048,rfl,d_⟩;exact⟨32,rfl,d_⟩;exact⟨512,rfl,d_⟩;exact⟨16384,rfl,d_⟩
  have V:X.length=10:=S.length_eq;rw[<-L]at C;clear hX S hE av L;have au:=US (r:=0) (T:=[some (.box o.A)]++[some (MP X),some (.mit (some 1) X.length [] X.length)]) (s:=(91,.ptr 2 0)::(90,.mp 1)::Qp 58 [⟨4,62,bM,[.tmp 60,.tmp 61,.const (.int .i64 12)]⟩,⟨8,65,bM,[.tmp 64,.const (.int .i64 1),.const (.int .i64 12)]⟩,⟨14,69,bM,[.tmp 68,.const (.int .i64 1),.const (.int .i64 3)]⟩,⟨18,72,bM,[.tmp 71,.const (.int .i64 0),.const (.int .i64 2147483647)]⟩,⟨22,75,bM,[.tmp 74,.const (.int .i64 0),.const (.int .i64 2147483647)]⟩,⟨28,80,bM,[.tmp 77,.tmp 78,.tmp 79]⟩,⟨32,83,fC,[.tmp 82]⟩,⟨36,86,fC,[.tmp 85]⟩,⟨40,89,jS,[.tmp 88]⟩] (U++O) 1 vs true 9) (t:=(91,.ptr 2 0)::(90,.mp 1)::Qp 58 [⟨4,62,bM,[.tmp 60,.tmp 61,.const (.int .i64 12)]⟩,⟨8,65,bM,[.tmp 64,.const (.int .i64 1),.const (.int .i64 12)]⟩,⟨14,69,bM,[.tmp 68,.const (.int .i64 1),.const (.int .i64 3)]⟩,⟨18,72,bM,[.tmp 71,.const (.int .i64 0),.const (.int .i64 2147483647)]⟩,⟨22,75,bM,[.tmp 74,.const (.int .i64 0),.const (.int .i64 2147483647)]⟩,⟨28,80,bM,[.tmp 77,.tmp 78,.tmp 79]⟩,⟨32,83,fC,[.tmp 82]⟩,⟨36,86,fC,[.tmp 85]⟩,⟨40,89,jS,[.tmp 88]⟩] (U++[(1,iv k),(2,.ptr 0 0),(5,iv I),(6,iv F),(7,iv H),(8,.v (.bool J))]) 1 vs true 9)
   ?_ ((((Z.append_left U).append_right _).cons _).cons _)
  ·rw [show([some (AObj.box o.A)]:aK).length=1 from rfl,show([⟨4,62,bM,[.tmp 60,.tmp 61,.const (.int .i64 12)]⟩,⟨8,65,bM,[.tmp 64,.const (.int .i64 1),.const (.int .i64 12)]⟩,⟨14,69,bM,[.tmp 68,.const (.int .i64 1),.const (.int .i64 3)]⟩,⟨18,72,bM,[.tmp 71,.const (.int .i64 0),.const (.int .i64 2147483647)]⟩,⟨22,75,bM,[.tmp 74,.const (.int .i64 0),.const (.int .i64 2147483647)]⟩,⟨28,80,bM,[.tmp 77,.tmp 78,.tmp 79]⟩,⟨32,83,fC,[.tmp 82]⟩,⟨36,86,fC,[.tmp 85]⟩,⟨40,89,jS,[.tmp 88]⟩]:List CE).length=9 from rfl,au,d];simp only[go_sem,Qp];clear au;refine cO (λn st=>∃l:V_,n=10-l.length/\l.Nodup/\(∀b∈l,b<X.length)/\(∀b∈l,∀h:b<X.length,((k &&& X[b].1.toNat==0)||X[b].2)=true)/\st=⟨0,[(1,iv k),(2,.ptr 0 0),(91,.ptr 1 0)],[some (.box o.A),some (.mit (some 2) X.length l X.length),some (MP X)]⟩) 10 ⟨[],rfl,Mm,λb M=>by simp at M,λb M=>by simp at M,?_⟩ ?_;simp only[go_sem,MP];rintro n st ⟨l,rfl,hn,g,ap,rfl⟩;have bu:l.length<=10:=by have h1:l.length<=(List.range X.length).length:=xY hn λb M=>uM.2 (g b M);simpa[V]using h1
   simp only[go_sem];refine aGW (i:=1) (j:=2) rfl rfl (cN _) (cN _) (λL=>?_) λb M bk=>?_
   ·have hX:Pm k X=true:=by unfold Pm;rw[oD];intro x K;obtain⟨j,hj,rfl⟩:=CU K;exact ap j (L j hj) hj
    rw[hX,mF]at C;have q1:=ho.guards.1;have q2:=ho.refs.1;have q3:=ho.past.1;have q4:=ho.path.1;have q5:=ho.boxes.1;have q6:=ho.hist.1;simp only[go_sem]
    repeat' (first
     |((with_reducible refine aL (λh=>?_) (λh=>?_))<;>(try simp only[vP,lI,sF]at h)<;>simp only[go_sem,h,undef])
     |(with_reducible refine dO (f:=AA) ?_;refine aU (aB _) rfl (aAj wR yS o.Guards o_ λx _=>Wo x) rfl ?_;simp only[go_sem,undef])|(with_reducible refine dO (f:=tN) ?_;refine aU (aB _) rfl (aAm Da SF o.Refs o_ λx _=>MC (x:Int)) rfl ?_;simp only[go_sem,undef])|(with_reducible refine dO (f:=oR) ?_;refine aU (aB _) rfl (aCM fC jP o.Past o_ λx _=>Dg x) rfl ?_;simp only[go_sem,undef])|(with_reducible refine dO (f:=jX) ?_;refine aU (aB _) rfl (Nz wP FI o.Path o_ λx K=>Wl x (ho.path.2 x K)) rfl ?_;simp only[go_sem,undef])|(with_reducible refine dO (f:=nO) ?_;refine aU (aB _) rfl (Ql wF wA o.Boxes o_ λx _=>Nu x) rfl ?_;simp only[go_sem,undef])|(with_reducible refine dO (f:=iU) ?_;refine aU (aB _) rfl (N0 wQ FJ o.Hist o_ λx _=>Wm x) rfl ?_;simp only[go_sem,undef]))
    all_goals rw[C]
    all_goals simp[*]
   ·obtain⟨j,h1,h2⟩:=bt X[b] (eQ M);have h3:(X.map λe=>[Value.int .i64 e.1])[b]?=some [.int .i64 (j:Int)]:=by simp[M,h1]
    have h4:(X.map λe=>AV.v (.bool e.2))[b]?=some (.v (.bool X[b].2)):=by simp[M]
    have bs:iY false [Value.int .i64 (j:Int)]=.int .i64 (j:Int):=fI rfl rfl;have bj:=aAe k j R h2;have D:((k &&& X[b].1.toNat==0)||X[b].2)=true->∃m,m<10-l.length/\∃w:V_,m=10-w.length/\w.Nodup/\(∀b∈w,b<X.length)/\(∀b∈w,∀h:b<X.length,((k &&& X[b].1.toNat==0)||X[b].2)=true)/\(⟨0,[(1,iv k),(2,.ptr 0 0),(91,.ptr 1 0)],[some (.box o.A),some (.mit (some 2) X.length (l++[b]) X.length),some (MP X)]⟩:St)=⟨0,[(1,iv k),(2,.ptr 0 0),(91,.ptr 1 0)],[some (.box o.A),some (.mit (some 2) X.length w X.length),some (MP X)]⟩:=λhv=>by have ar:(l++[b]).Nodup:=vQ.2 ⟨hn,s_,λx K y hy e=>bk (by rw[cA]at hy;rw[<-hy,<-e];exact K)⟩;have br:(l++[b]).length<=(List.range X.length).length:=xY ar λx K=>uM.2 ((cG.1 K).elim (g x) λh=>by rw[cA.1 h];exact M);simp[V]at br;refine⟨10-(l++[b]).length,c_,l++[b],rfl,ar,λx K=>(cG.1 K).elim (g x) λh=>by rw[cA.1 h];exact M,λx K bh=>?_,rfl⟩;rcases cG.1 K with h|h;exact ap x h bh;obtain rfl:=cA.1 h;exact hv
    have E:((k &&& X[b].1.toNat==0)||X[b].2)=false->CK o k=false:=λhv=>by
     rw[C];have:Pm k X=false:=by unfold Pm;rw[List.all_eq_false];exact⟨X[b],eQ M,by rw[hv];simp⟩
     rw[this,lR]
    rw[h1]at D E;simp only[nI]at D E;have bm:(((k &&& j:Nat):Int)!=0)=!(k &&& j==0):=by rw[CT];simp
    generalize X[b].2=t at h4 D E;simp only[go_sem,MP,Ke,CJ M,h3,h4,↓bs,↓bj,bm,h1];generalize(k &&& j==0)=u at D E;cases u<;>cases t<;>simp only[go_sem,MP]
    all_goals first
     |exact D rfl|rw[E rfl]
  have bi:(((91,AV.ptr 2 0)::(90,AV.mp 1)::Qp 58 [⟨4,62,bM,[.tmp 60,.tmp 61,.const (.int .i64 12)]⟩,⟨8,65,bM,[.tmp 64,.const (.int .i64 1),.const (.int .i64 12)]⟩,⟨14,69,bM,[.tmp 68,.const (.int .i64 1),.const (.int .i64 3)]⟩,⟨18,72,bM,[.tmp 71,.const (.int .i64 0),.const (.int .i64 2147483647)]⟩,⟨22,75,bM,[.tmp 74,.const (.int .i64 0),.const (.int .i64 2147483647)]⟩,⟨28,80,bM,[.tmp 77,.tmp 78,.tmp 79]⟩,⟨32,83,fC,[.tmp 82]⟩,⟨36,86,fC,[.tmp 85]⟩,⟨40,89,jS,[.tmp 88]⟩] (U++O) 1 vs true 9).map (·.1)).Perm (91::90::(([88,87,85,84,82,81,79,78,77,76,74,73,71,70,68,67,66,64,63,61,60,59]++[1,2,5,6,7,8])++[62,65,69,72,75,80,83,86,89,58])):=by simp only[fG];refine List.Perm.cons _ (List.Perm.cons _ ?_);rw[Qp,bZ];exact aa.append_right _
  exact bi.nodup_iff.2 d_
 simp only[Qp,jJ,if_false,uQ,uP,jO,d];exact List.Perm.refl _;intro j;simp
def Co{α:Type}{lt:α->α->Bool}:∀{l:List α},nT lt l=true↔∀j(h:j+1<l.length),lt l[j] l[j+1]=true|[]=>by simp[nT]|[x]=>by simp[nT]|x::y::l=>by simp only[nT,zJ,Co (l:=y::l)];constructor;grind;intro h;exact⟨h 0 s_,λj a=>h (j+1) M_⟩
def Y1{α:Type}{lt:α->α->Bool}{l:List α}{i:Nat}(a:i+1<l.length)(h:lt l[i] l[i+1]=false):nT lt l=false:=by
 cases e:nT lt l with
 |false=>rfl|true=>have:=Co.1 e i a;rw[h]at this;simp at this
def aHW(o:OpM)(m:o.ok):aA PQ G DZ [.ag o.A] [] λr T=>r=.v (.bool (ED o))/\T=[]:=by
 apply aC Pg;have s:=m.path.1;have q:=m.hist.1;simp only[go_sem];refine aQ o.Path.length (λi=>⟨0,[(1,.ptr 0 0),(3,iv i)],[some (.box o.A)]⟩) (λi=>∀j(l:j<o.Path.length),j<i->(λn:NodeM=>decide ((n.Boxes.length:Int)<=12)) o.Path[j]=true) ?_ (by intro j l h;omega) ?_ ?_;simp only[go_sem]
 ·intro i g d;have k:(o.Path.map NodeM.A)[i]?=some [uv o.Path[i].Pub,F5 o.Path[i].Boxes]:=aO _ o.Path i g;simp only[go_sem,aP,aT g,k]
  repeat' (first
   |((with_reducible refine aL (λh=>?_) (λh=>?_))<;>(try simp only[vP,lI,sF]at h)<;>simp only[go_sem,aP,g,k,fQ i o_,h,undef]))
  all_goals first
   |(refine vH (p:=λn:NodeM=>decide ((n.Boxes.length:Int)<=12)) g d ?_;clear d k;generalize o.Path[i]=x at *;simp at *;omega)|(have e:=EG (p:=λn:NodeM=>decide ((n.Boxes.length:Int)<=12)) g (by clear d k;generalize o.Path[i]=x at *;simp at *;omega);simp only[ED,e,sF,Ed,EI])
 intro d;have h3:=Bu (p:=λn:NodeM=>decide ((n.Boxes.length:Int)<=12)) d;clear d;simp only[go_sem,aP,aS (bP _)];refine aQ o.Hist.length (λi=>⟨0,[(1,.ptr 0 0),(4,iv i)],[some (.box o.A)]⟩) (λi=>∀j(l:j<o.Hist.length),j<i->(λx:SealM=>decide ((x.Body.length:Int)<=208)) o.Hist[j]=true) ?_ (by intro j l h;omega) ?_ ?_;simp only[go_sem]
 ·intro i g d;have k:(o.Hist.map SealM.A)[i]?=some [.v (.int .i64 o.Hist[i].Of.a),.v (.int .i64 o.Hist[i].Of.b),.v (.int .u64 o.Hist[i].Of.c),.ls 1 (bl o.Hist[i].Body)]:=aO _ o.Hist i g;simp only[go_sem,aP,aT g,k]
  repeat' (first
   |((with_reducible refine aL (λh=>?_) (λh=>?_))<;>(try simp only[vP,lI,sF]at h)<;>simp only[go_sem,aP,g,k,fQ i o_,h,undef]))
  all_goals first
   |(refine vH (p:=λx:SealM=>decide ((x.Body.length:Int)<=208)) g d ?_;clear d k;generalize o.Hist[i]=x at *;simp at *;omega)|(have e:=EG (p:=λx:SealM=>decide ((x.Body.length:Int)<=208)) g (by clear d k;generalize o.Hist[i]=x at *;simp at *;omega);simp only[ED,e,sF,Ed,EI])
 intro d;have t:=Bu (p:=λx:SealM=>decide ((x.Body.length:Int)<=208)) d;clear d;simp only[go_sem,aP,aS (bP _)]
 repeat' (first
  |((with_reducible refine aL (λh=>?_) (λh=>?_))<;>(try simp only[vP,lI,sF]at h)<;>simp only[go_sem,aP,h,undef])
  |(with_reducible refine dO (f:=dP) ?_;refine aU (aB _) rfl (FF _ _ _) rfl ?_;simp only[go_sem,aP,undef]))
 all_goals simp only[ED, *,lI,Ed,EI,EB,EH,if_true,if_false,jJ]
def aFq(o:OpM)(g:o.ok):aA PQ G E3 [.ag o.A] [] λr T=>r=.v (.int .i64 (jB o))/\T=[]:=by
 apply aC Ng;have x:=g.past.1;have w:=g.guards.1;have u:∀{a b:Int},a=b->AV.v (.int .i64 a)=.v (.int .i64 b):=λh=>by rw[h]
 simp only[go_sem]
 repeat' (first
  |((with_reducible refine aL (λh=>?_) (λh=>?_))<;>(try simp only[vP,lI,sF]at h)<;>simp only[go_sem,aP,gt_iff_lt,h,undef])
  |(with_reducible refine dO (f:=DY) ?_;refine aU (aB _) rfl (aHL o) rfl ?_;simp only[go_sem,aP,gt_iff_lt,undef])
  |(with_reducible refine dO (f:=wO) ?_;refine aU (aB _) rfl (aAu o) rfl ?_;simp only[go_sem,aP,gt_iff_lt,undef])
  |(with_reducible refine dO (f:=Bn) ?_;refine aU (aB _) rfl (aFn o g) rfl ?_;simp only[go_sem,aP,gt_iff_lt,undef])
  |(with_reducible refine dO (f:=DZ) ?_;refine aU (aB _) rfl (aHW o g) rfl ?_;simp only[go_sem,aP,gt_iff_lt,undef]))
 all_goals try (simp only[decide_eq_true_eq,decide_eq_false_iff_not]at *;simp[jB, *];done)
 rename_i h1 h2 h3 B z;have y:=h;clear h;simp only[decide_eq_false_iff_not]at h1 h2;have c:jB o=if nT Id.lt o.Past=false then 6 else if nT (λa b:Int=>decide (a<b)) o.Guards=false then 6 else if decide (o.Past.length=0)≠decide (o.Kind=1) then 10 else 0:=by grind[jB]
 refine aQ (o.Past.length-1) (λi=>⟨0,[(1,.ptr 0 0),(3,iv ((i+1:Nat):Int))],[some (.box o.A)]⟩) (λi=>∀j(d:j+1<o.Past.length),j<i->o.Past[j].lt o.Past[j+1]=true) ?_ ky ?_ ?_;simp only[go_sem];intro i t e;have p:(o.Past.map Id.A)[i]?=some o.Past[i].A:=aO _ o.Past i o_;have m:(o.Past.map Id.A)[i+1]?=some o.Past[i+1].A:=aO _ o.Past (i+1) o_;simp only[go_sem,aP,aT (o_:i+1<o.Past.length),p,m,F3 (o_:i<2^63-1)];apply cX (OD o.Past[i] o.Past[i+1]);simp only[go_sem];refine aL (λh=>?_) (λh=>?_)<;>simp only[go_sem,pC (o_:i+1<2^63-1)];rw[c,if_pos (Y1 (o_:i+1<o.Past.length) y_)];grind;intro e;have l:nT Id.lt o.Past=true:=Co.2 λj d=>e j d o_;rw[if_neg (by simp[l])]at c;simp only[go_sem,aP,aS (o_:¬(o.Past.length-1+1<o.Past.length))];clear e;refine aQ (o.Guards.length-1) (λi=>⟨0,[(1,.ptr 0 0),(4,iv ((i+1:Nat):Int))],[some (.box o.A)]⟩) (λi=>∀j(d:j+1<o.Guards.length),j<i->decide (o.Guards[j]<o.Guards[j+1])=true) ?_ ky ?_ ?_;simp only[go_sem];intro i t e;have p:(o.Guards.map λn=>[iv n])[i]?=some [iv o.Guards[i]]:=aO _ o.Guards i o_;have m:(o.Guards.map λn=>[iv n])[i+1]?=some [iv o.Guards[i+1]]:=aO _ o.Guards (i+1) o_;simp only[go_sem,aP,aT (o_:i+1<o.Guards.length),p,m,F3 (o_:i<2^63-1)];refine aL (λh=>?_) (λh=>?_)<;>simp only[go_sem,pC (o_:i+1<2^63-1)];rw[c,if_pos (Y1 (o_:i+1<o.Guards.length) (by simp at h⊢;omega))];grind;intro e;have k:nT (λa b:Int=>decide (a<b)) o.Guards=true:=Co.2 λj d=>e j d o_;rw[if_neg (by simp[k])]at c;simp only[go_sem,aP,aS (o_:¬(o.Guards.length-1+1<o.Guards.length))];rw[c];have q:((o.Past.length:Int)==0)=decide (o.Past.length=0):=m_;have s:(o.Kind==1)=decide (o.Kind=1):=rfl;rw[q,s];generalize decide (o.Past.length=0)=a;generalize decide (o.Kind=1)=b;cases a<;>cases b<;>simp only[go_sem]<;>rfl
def GK(G:L_):Prop:=G Ii=some (qY.map λn:Nat=>iv (n:Int))
def SY(a b:Nat)(e:a<65536)(d:b<65536):bV .andNot (.int .i64 (a:Int)) (.int .i64 (b:Int))=some (.int .i64 ((nE a b:Nat):Int)):=by
 have c:nE a b<65536:=by unfold nE;rw[YI];apply QJ aBW;rw[BitVec.toNat_ofNat];omega
 have h1:(BitVec.ofInt IntKind.i64.bits (a:Int) &&& ~~~(BitVec.ofInt IntKind.i64.bits (b:Int))).toNat=nE a b:=by show(BitVec.ofInt 64 (a:Int) &&& ~~~(BitVec.ofInt 64 (b:Int))).toNat=nE a b;unfold nE;rw[BitVec.ofInt_natCast,BitVec.ofInt_natCast]
 simp only[bV,if_true,h1];rw[aJ o_ o_]
def rr{α:Type}(lt:α->α->Bool)(d:α)(l:List α)(i:Nat):Bool:=(List.range i).all λj=>lt (l.getD j d) (l.getD (j+1) d)
def aD2{α:Type}{lt:α->α->Bool}{d:α}{l:List α}{i:Nat}(a:i+1<l.length):rr lt d l (i+1)=(rr lt d l i&&lt l[i] l[i+1]):=by unfold rr;rw[QH,YK];simp[rH,jN a,jN (o_:i<l.length)]
def aD3{α:Type}{lt:α->α->Bool}{d:α}{l:List α}:rr lt d l (l.length-1)=nT lt l:=by rw[CT,Co];unfold rr;rw[oD];constructor;intro h j a;have:=h j (uM.2 o_);simpa[rH,jN a,jN (o_:j<l.length)]using this;intro h j a;have a:=uM.1 a;have:=h j o_;simpa[rH,jN (o_:j+1<l.length),jN (o_:j<l.length)]using this
def Wp(B:GK G)(o:OpM)(k:o.ok):aA PQ G HR [.ag o.A] [] λr T=>r=iv (vF o)/\T=[]:=by
 apply aC Ph;obtain⟨c,s⟩:∃c,c=qY.map λn:Nat=>iv (n:Int):=⟨_,rfl⟩
 have t:G Ii=some c:=by rw[s];exact B
 have q:(0:Int)<=o.Kind->o.Kind<14->(c.drop o.Kind.toNat)[0]?=some (iv (vV o.Kind:Nat)):=λh1 h2=>by
  subst s;obtain⟨n,z⟩:∃n:Nat,o.Kind=(n:Int):=⟨o.Kind.toNat,o_⟩
  rw[z,vV,nI];have:n<14:=o_;clear h1 h2 z;have p:∀n,n<14->((qY.map λn:Nat=>iv (n:Int)).drop n)[0]?=some (iv ((qY.getD n 0:Nat):Int)):=λn h=>by rw[Hw,mG,gE,rH];have:n<qY.length:=h;simp[this]
  exact p n this
 clear s B;simp only[go_sem];refine aL (λh=>?_) (λh=>?_)<;>simp only[vP,lI,sF,decide_eq_false_iff_not,decide_eq_true_eq]at h;rotate_left;simp only[go_sem,decide_eq_true h];rw[vF,if_pos (.inl h)];have E:=h;simp only[go_sem,gt_iff_lt,decide_eq_false E];refine aL (λh=>?_) (λh=>?_)<;>simp only[vP,lI,sF,decide_eq_false_iff_not,decide_eq_true_eq]at h;rotate_left;simp only[go_sem,decide_eq_true h,undef];rw[vF,if_pos (.inr h)];have D:=h;have e:=q o_ o_;have m:0<=o.Kind:=o_;have l:o.Kind<14:=o_;have d:vF o=if nE (sC (jQ o)) (vV o.Kind)≠0 then 1 else if CK o (vV o.Kind)=false then 8 else if ED o then 2 else if aCJ o=false then 6 else if decide (o.Past.length=0)≠decide (o.Kind=1) then 10 else 0:=by rw[vF,if_neg o_]
 have C:=SY (sC (jQ o)) (vV o.Kind) (Nx o) (SG o.Kind);simp only[go_sem,decide_eq_false D,t,e,m,l,Bb];apply cX (aAx o);have y:(((nE (sC (jQ o)) (vV o.Kind):Nat):Int)!=0)=decide (nE (sC (jQ o)) (vV o.Kind)≠0):=by generalize nE (sC (jQ o)) (vV o.Kind)=x;rw[CT];simp
 simp only[go_sem,t,e,m,l,Bb,↓C,y];refine aL (λh=>?_) (λh=>?_)<;>simp only[decide_eq_false_iff_not,decide_eq_true_eq]at h;simp only[go_sem];rw[d,if_pos h];rw[if_neg h]at d;clear C y h;have K:=k.past.1;have q2:=k.guards.1;have w1:IntKind.i64.wrap ((o.Past.length:Int)-1)=(o.Past.length:Int)-1:=aJ o_ o_;have w2:IntKind.i64.wrap ((o.Guards.length:Int)-1)=(o.Guards.length:Int)-1:=aJ o_ o_;simp only[go_sem,aP,w1];refine aQ (o.Past.length-1) (λi=>⟨0,[(1,.ptr 0 0),(3,.v (.bool (rr Id.lt default o.Past i))),(27,iv ((o.Past.length:Int)-1)),(28,iv i)],[some (.box o.A)]⟩) (λ_=>True) ?_ trivial ?_ ?_;simp only[go_sem];rfl;intro i I _;have j:decide ((i:Int)<(o.Past.length:Int)-1)=true:=decide_eq_true o_;have w:(o.Past.map Id.A)[i]?=some o.Past[i].A:=aO _ o.Past i o_;have u:(o.Past.map Id.A)[i+1]?=some o.Past[i+1].A:=aO _ o.Past (i+1) o_;have f:=fQ i o_;rw[aD2 (o_:i+1<o.Past.length)];generalize rr Id.lt default o.Past i=b;simp only[go_sem,j];cases b;simp only[go_sem,undef,f,lR];simp only[go_sem,f,w,u];apply cX (Cm o.Past[i] o.Past[i+1]);simp only[go_sem,f,mF];intro _;have j:decide (((o.Past.length-1:Nat):Int)<(o.Past.length:Int)-1)=false:=decide_eq_false o_;rw[aD3];simp only[go_sem,aP,j,w2];refine aQ (o.Guards.length-1) (λi=>⟨0,[(1,.ptr 0 0),(3,.v (.bool (nT Id.lt o.Past&&rr (λa b:Int=>decide (a<b)) 0 o.Guards i))),(50,iv ((o.Guards.length:Int)-1)),(51,iv i)],[some (.box o.A)]⟩) (λ_=>True) ?_ trivial ?_ ?_;simp only[go_sem,rr,Mk,aGL];intro i I _;have j:decide ((i:Int)<(o.Guards.length:Int)-1)=true:=decide_eq_true o_;have w:(o.Guards.map λn=>[iv n])[i]?=some [iv o.Guards[i]]:=aO _ o.Guards i o_;have u:(o.Guards.map λn=>[iv n])[i+1]?=some [iv o.Guards[i+1]]:=aO _ o.Guards (i+1) o_;have f:=fQ i o_;rw[aD2 (o_:i+1<o.Guards.length),<-aGD];generalize(nT Id.lt o.Past&&rr (λa b:Int=>decide (a<b)) 0 o.Guards i)=b;simp only[go_sem,j];cases b;simp only[go_sem,undef,f,lR];simp only[go_sem,f,w,u,mF];intro _;have J:decide (((o.Guards.length-1:Nat):Int)<(o.Guards.length:Int)-1)=false:=decide_eq_false o_;rw[aD3];have g:(nT Id.lt o.Past&&nT (λa b:Int=>decide (a<b)) o.Guards)=aCJ o:=rfl;simp only[go_sem,J,g,t,e,m,l,Bb];apply cX (UX o k (vV o.Kind) (SG _));cases h1:CK o (vV o.Kind);simp only[go_sem];rw[d,if_pos h1];rw[if_neg sj]at d;simp only[go_sem];apply cX (aAy o k);cases h2:ED o;rotate_left;simp only[go_sem];rw[d,if_pos h2];rw[if_neg (by simp[h2])]at d;simp only[go_sem];cases h3:aCJ o;simp only[go_sem];rw[d,if_pos h3];rw[if_neg (by simp[h3])]at d;rw[d];have F:((o.Past.length:Int)==0)=decide (o.Past.length=0):=by rw[CT];simp
 have H:(o.Kind==1)=decide (o.Kind=1):=rfl;simp only[go_sem,aP,F,H];generalize decide (o.Past.length=0)=a;generalize decide (o.Kind=1)=b;cases a<;>cases b<;>simp only[go_sem]<;>rfl
end Hud
namespace Hud
open Go Go.RowKit Go.WideShapes Go.ChangeShapes Go.Deep
def Hb:LK->Value->Prop|.int k,v=>∃n,v=.int k n/\(Lit.int k n).wf=true|.bool,v=>∃b,v=.bool b|.str,v=>∃s,v=.string s/\s.size<=maxLen
def kC:List LK->C_->Prop|[],a=>a=[]|k::b,a=>∃v r,a=v::r/\Hb k v/\kC b r
def UY{a b:List LK}{u v:C_}(h:kC a u)(k:kC b v):kC (a++b) (u++v):=by
 induction a generalizing u with
 |nil=>simp only[kC]at h;subst h;simpa using k|cons x a ih=>
  simp only[kC]at h;obtain⟨w,r,rfl,h1,h2⟩:=h;simp only[jC,kC];exact⟨w,r++v,rfl,h1,ih h2⟩
mutual
def OE(P:Program):Nat->TypeId->Option (List LK)|0,_=>none|n+1,t=>match P.underlying t with|some .bool=>some [.bool]|some (.int k)=>some [.int k]|some .string=>some [.str]|some (.struct a)=>Jz P n a.toList 0|_=>none
def Jz(P:Program):Nat->List Field->Nat->Option (List LK)|0,_,_=>none|_+1,[],_=>some []|n+1,f::d,c=>match OE P n f.type,Jz P n d (c+P.cellsOf f.type) with|some a,some b=>if f.offset=c/\a.length=P.cellsOf f.type then some (a++b) else none|_,_=>none
end
section
variable{H:Type}{enc:TypeId×Value->H}{P:Program}{w:World}{base:Nat}{spare:Nat->Bool}{held:Bool}
mutual
def Qr:∀{n:Nat}{t:TypeId}{ks:List LK},OE P n t=some ks->ks.length=P.cellsOf t->∀{fuel:Nat}{cs:C_}{x:DataW H×List MemPlace},DataW.trod enc P w base spare held fuel t cs=some x->kC ks cs
 |0,_,_,h,_,_,_,_,_=>by simp[OE]at h
 | n+1,t,ks,h,q,fuel,cs,x,e=>by
  simp only[OE]at h;split at h;rename_i a;cases h;obtain⟨b,d,_⟩:=DataW.trod_bool a e;subst d;simp[kC,Hb];rename_i k a;cases h;obtain⟨m,d,_,g⟩:=DataW.trod_int a e;subst d;simp[kC,Hb,g];rename_i a;cases h;obtain⟨s,d,_,g⟩:=DataW.trod_string a e;subst d;simp[kC,Hb,g];rename_i u a;obtain⟨p,m,_,_,o,c,r⟩:=DataW.trod_struct a e
  have:=Qs h (cs:=cs) (λi f j=>by
   have h1:=r i f dc;have h2:i<p.length:=by rw[c];rcases eD i u.size with l|l;exact l;rw[sX sg]at j;simp at j
   exact⟨m,_,h1.trans (jN h2)⟩) (by rw[o,<-q,pQ])
  simpa using this;simp at h
def Qs:∀{n:Nat}{p:List Field}{off:Nat}{ks:List LK},Jz P n p off=some ks->∀{cs:C_},(∀(i:Nat)(f:Field),p[i]?=some f->∃c x,DataW.trod enc P w base spare held c f.type ((cs.drop f.offset).take (P.cellsOf f.type))=some x) ->
 cs.length=off+ks.length->kC ks (cs.drop off)
 |0,_,_,_,h,_,_,_=>by simp[Jz]at h|n+1,[],off,ks,h,cs,m,l=>by
  simp only[Jz,E_]at h;subst h;simp only[kC];exact LB (by simp at l;omega)
 | n+1,f::p,off,ks,h,cs,m,l=>by
  simp only[Jz]at h;split at h;rename_i a b h1 h2;split at h;rename_i r;cases h;obtain⟨o,j⟩:=r;obtain⟨c,x,e⟩:=m 0 f rfl;have d:=Qr h1 j e;rw[dZ]at l;have k:=Qs h2 (cs:=cs) (λi g q=>m (i+1) g (by simpa using q)) (by rw[<-j];omega);rw[o]at d;have:cs.drop off=(cs.drop off).take (P.cellsOf f.type)++cs.drop (off+P.cellsOf f.type):=by rw[<-Kg,LC]
  rw[this];exact UY d k;simp at h;simp at h
end
end
def Iy(w:World):GH:=λb=>match w.heap[b]? with|some (.cells a _ _)=>some a|_=>none
def aD4(w:World)(φ:Nat->Value):Inv (Iy w) φ w [] where
 gh:=λb g e=>by unfold Iy at e;split at e;rename_i c E a h;cases e;exact⟨E,a,h⟩;simp at e
 obj:=λi o e=>kf
 dis:=λi j f d b e=>kf
def aAz{w:World}{b o:Nat}{v:Value}(h:w.cell? ⟨b,o,none⟩=some v):oY (Iy w) b o=some v:=by unfold World.cell? at h;unfold oY Iy;split at h;rename_i c E a h1;simp only at h1;rw[h1];simpa using h;simp at h
def UZ{k:LK}{v:Value}(h:Hb k v):aX (.v v)=true:=by
 cases k with
 |int k=>obtain⟨n,rfl,_⟩:=h;rfl
 |bool=>obtain⟨b,rfl⟩:=h;rfl
 |str=>obtain⟨s,rfl,_⟩:=h;rfl
def Ua{ks:List LK}{vs:C_}(h:kC ks vs):∀{i:Nat}{v:Value},vs[i]?=some v->∃k,Hb k v:=by
 induction ks generalizing vs with
 |nil=>simp only[kC]at h;subst h;simp|cons k ks ih=>
  simp only[kC]at h;obtain⟨u,r,rfl,h1,h2⟩:=h;intro i v a
  cases i with
  |zero=>simp only[sW,E_]at a;subst a;exact⟨k,h1⟩|succ i=>exact ih h2 M_
section
variable{H:Type}{enc:TypeId×Value->H}{P:Program}{W:World}{base:Nat}{spare:Nat->Bool}{held:Bool}{h:GH}{φ:Nat->Value}
def aD5 {t e:TypeId} {ks:List LK} {n:Nat} (U:P.underlying t=some (.slice e)) (G:OE P n e=some ks) (J:ks.length=P.cellsOf e) (Y:0<ks.length) {A:Option Addr} {h B:Nat} {d:DataW H} {ps:List MemPlace}
 (K:DataW.Trod enc P W base spare held t (.slice A h B) d ps):
 ∃N:List C_,(∀x∈N,kC ks x)/\N.length<=maxLen/\Rp (Iy W) φ 0 (.ls ks.length (N.map λx=>x.map .v)) (.slice A h B):=by
 obtain⟨S,K⟩:=K;rcases open_slice U K with⟨h1,_⟩|⟨a,F,Q,m,n',D,Pl,h1,_,h3,R,V,_,z⟩
 obtain⟨rfl,rfl,rfl⟩:A=none/\h=0/\B=0:=by simpa[Value.cells]using h1
 refine⟨[],s_,s_,?_⟩;simp only[Rp,oB,uP,gQ];exact⟨none,0,rfl,cN _,pR _,s_⟩;obtain⟨rfl,rfl,rfl⟩:A=some a/\h=F/\B=Q:=by simpa[Value.cells]using h1
 have X:h<=m:=by rw[V];split<;>omega
 have f:∀i,∃C:C_,i<h->(W.cells? base (a.add (i*P.cellsOf e)) (P.cellsOf e)=some C/\kC ks C):=by intro i;by_cases w:i<h;obtain⟨C,M,L⟩:=z i o_;exact⟨C,λ_=>⟨M,Qr G J L⟩⟩;exact⟨[],λy=>absurd y w⟩
 refine⟨(List.range h).map λi=>(f i).choose,?_,by simpa using uR h3 R,?_⟩;intro x T;obtain⟨i,w,rfl⟩:=dF.1 T;exact((f i).choose_spec (uM.1 w)).2;simp only[Rp,oB,aP,QK];refine⟨some a,B,rfl,h3,R,?_⟩;rcases JX h with h0|h0;exact .inl (by subst h0;rfl);refine .inr ?_;have s:a.spot=none:=by
  obtain⟨C,c1,_⟩:=z 0 o_;obtain⟨_,E,O⟩:=World.cells?_some c1;have g:=O 0 o_;rw[jN (by rw[E];omega),Nat.zero_mul]at g;have:(a.add 0).add 0=a:=by simp[Addr.add]
  rw[this]at g;unfold World.cell? at g;split at g;split at g;simp at g;rename_i G;simpa using G;simp at g
 obtain⟨b,o,Z⟩:=a;simp only at s;subst s;refine⟨b,o,rfl,kF.mk λj e' q=>?_⟩;rw[gE,gE]at q;rcases eD j h with l|l;rw[aBQ l]at q;simp only[iX,E_]at q;subst q;obtain⟨c1,c2⟩:=(f j).choose_spec l;obtain⟨_,E,O⟩:=World.cells?_some c1;refine⟨by rw[aP,E,J],mR.mk λi c r=>?_⟩;rw[gE]at r
 cases p:(f j).choose[i]? with
 |none=>rw[p]at r;simp at r| some u=>
  rw[p]at r;simp only[iX,E_]at r;subst r;obtain⟨k,I⟩:=Ua c2 p;have w:i<P.cellsOf e:=by rw[<-E];rcases eD i (f j).choose.length with y|y;exact y;rw[sX y]at p;simp at p
  have g:=O i w;rw[p]at g;refine⟨u,UZ I,?_,by simp[oB]⟩;have:((Addr.mk b o none).add (j*P.cellsOf e)).add i=⟨b,o+j*ks.length+i,none⟩:=by rw[J];by_cases h1:j*P.cellsOf e=0<;>by_cases h2:i=0<;>simp[Addr.add,h1,h2,sY]
  rw[this]at g;exact aAz g
 rw[sX sg]at q;simp at q
def aQK{t:TypeId}{ks:List LK}{n:Nat}(e:OE P n t=some ks)(f:ks.length=P.cellsOf t){us:Array Value}{d:DataW H}{ps:List MemPlace}(a:DataW.Trod enc P W base spare held t (.agg us) d ps):
 kC ks us.toList/\Rp h φ 0 (.ag (us.toList.map .v)) (.agg us):=by
 obtain⟨b,a⟩:=a;refine⟨Qr e f a,?_⟩;simp only[Rp];refine⟨us,rfl,?_⟩;have:∀l:C_,cC h φ 0 (l.map .v) l:=by
  intro l
  induction l with
  |nil=>simp[cC]|cons c l ih=>simp only[fG,cC];exact⟨c,l,rfl,A_,ih⟩
 exact this _
def aHX{n:Int}(a:(Lit.int .i64 n).wf=true):-9223372036854775808<=n/\n<=(2^63-1):=by simp only[Lit.wf,zJ,decide_eq_true_eq]at a;exact a
def Y2:∀{es:List C_},(∀x∈es,kC [.int .i64] x)->∃l:B_,es.map (λx=>x.map AV.v)=l.map (λn=>[AV.v (.int .i64 n)])/\∀n∈l,-9223372036854775808<=n/\n<=2^63-1
 |[],_=>⟨[],rfl,s_⟩
 |e::es,b=>by obtain⟨l,h1,h2⟩:=Y2 (es:=es) λx c=>b x (by simp[c]);have:=b e s_;simp only[kC,Hb]at this;obtain⟨v,r,rfl,⟨n,rfl,d⟩,rfl⟩:=this;refine⟨n::l,sj,?_⟩;intro m a;rcases cS.1 a with rfl|a;exact aHX d;exact h2 m a
def Qt{k:World}(i:laidOutB P=true)(j:Below W.heap.size W k){e:Nat->Bool}:∀{ts:List TypeId}{vs:C_}{ds:List (DataW H)}{ps:List MemPlace},(∀t∈ts,P.readableRec t=true/\t<P.types.size) ->
 DataW.TrodAll enc P W 0 (λ_=>true) true ts vs ds ps->(∀x∈ps,x.block<W.heap.size)->(∀x∈ps,e x.block=true)->DataW.TrodAll enc P k 0 e true ts vs ds ps
 |[],[],[],ps,_,h,_,_=>by simpa[DataW.TrodAll]using h| t::ts,v::vs,d::ds,ps,f,h,b,g=>by
  simp only[DataW.TrodAll]at h⊢;obtain⟨p,q,h1,h2,rfl⟩:=h;obtain⟨m,l⟩:=f t s_
  exact⟨p,q,WideElems.Trod_stays i m l h1 (λx a=>j.same (b x (by simp[a]))) (λx a=>g x (by simp[a])),
   Qt i j (λt c=>f t (by simp[c])) h2 (λx a=>b x (by simp[a])) (λx a=>g x (by simp[a])),rfl⟩
 |[],_::_,_,_,_,h,_,_=>by simp[DataW.TrodAll]at h|[],[],_::_,_,_,h,_,_=>by simp[DataW.TrodAll]at h|_::_,[],_,_,_,h,_,_=>by simp[DataW.TrodAll]at h|_::_,_::_,[],_,_,h,_,_=>by simp[DataW.TrodAll]at h
def aAA{h':GH}{b:Nat->Value}{T':aK}{c:World}(a:Evo h φ [] W h' b T' c):Go.RowKit.Below W.heap.size W c :=
 ⟨a.os,a.tape,a.output,a.size,λk d=>a.frame k d λi o e=>kf⟩
end
end Hud
namespace Hud
open Go
variable{G:L_}
def SZ(n m:Nat)(h:n<=2^63-1):IntKind.i64.wrap ((n:Int).tdiv (m:Int))=((n/m:Nat):Int):=by rw[<-Int.ofNat_tdiv];exact Ib (uR (Ml n m) h)
def aNw(n:Nat)(h:n<=2^63-1):IntKind.i64.wrap ((n:Int).tdiv 2)=((n/2:Nat):Int):=SZ n 2 h
def aFr(n:Nat)(h:n<=2^63-1):IntKind.i64.wrap ((n:Int).tdiv 4)=((n/4:Nat):Int):=SZ n 4 h
def aJV(n:Nat)(h:n<=2^63-1):IntKind.i64.wrap ((n:Int).tdiv 8)=((n/8:Nat):Int):=SZ n 8 h
def HS(a b k:Nat)(l:V_):Prop:=SR (a+k) b l/\∀p q,a<=p->p<a+k->a+k<=q->q<b->l.getD p 0<=l.getD q 0
def aFs{a b k:Nat}{l:V_}(u:b<=l.length)(t:a+k<b)(h:HP a 0 (k+1) l)(f:HS a b (k+1) l):HP a 1 k (iO l a (a+k))/\HS a b k (iO l a (a+k)):=by
 have d:=rU l a (a+k) o_ o_;have o:=aHS h;have e:∀p,a<=p->p<=a+k->l.getD p 0<=l.getD a 0:=λp h1 h2=>by have:=o (p-a) o_;rwa[(o_:a+(p-a)=p)]at this
 refine⟨λp c h1 h2 h3=>?_,λi j h1 h2 h3=>?_,λp q h1 h2 h3 v=>?_⟩;rw[d,d,if_neg o_,if_neg o_,if_neg o_,if_neg o_];exact h p c o_ h2 o_;rw[d,d];by_cases n:i=a+k;rw[if_pos n];by_cases r:j=a+k;simp_all;rw[if_neg r,if_neg o_];exact f.2 a j (cN _) o_ o_ h3;rw[if_neg n,if_neg o_,if_neg o_,if_neg o_];exact f.1 i j o_ h2 h3;rw[d,d,if_neg (by omega:¬p=a+k)];have s:(if p=a then l.getD (a+k) 0 else l.getD p 0)<=l.getD a 0/\∀q,a+(k+1)<=q->q<b->(if p=a then l.getD (a+k) 0 else l.getD p 0)<=l.getD q 0:=by split;exact⟨e _ o_ (cN _),λq m g=>f.2 (a+k) q o_ o_ m g⟩;exact⟨e _ h1 o_,λq m g=>f.2 p q h1 o_ m g⟩
 grind
def aJW{a b k:Nat}{l d:V_}(f:a+k<=l.length)(e:HS a b k l)(c:PR a (a+k) l d):HS a b k d:=by refine⟨e.1.outside c (.inr o_),λp q h1 h2 h3 j=>?_⟩;rw[c.2.1 q (.inr h3)];exact c.all f (Q:=λx=>x<=l.getD q 0) (λi h g=>e.2 i q h g h3 j) p h1 h2
def Ub(n:Nat)(h:n<256):IntKind.u8.wrap (n:Int)=(n:Int):=by grind[IntKind.wrap,IntKind.bits,IntKind.signed]
def aFt(x:Nat)(o:x<65536):aA PQ G uZ [.v (.int .u64 (x:Int))] [] λr m=>(∃n:Nat,r=iv n/\n<=16/\x<2^n/\(x=0\/2^n<=2*x))/\m=[]:=by
 apply aC FQ;generalize f:bs _=a;have b:(List.range 256).all (λi=>match a.data[i]? with|some t=>decide (t.toNat<=8/\i<2^t.toNat/\(i=0\/2^t.toNat<=2*i))|none=>false)=true:=by rw[<-f];decide +kernel
 clear f;have e:∀i,i<256->∃t,a.data[i]?=some t/\t.toNat<=8/\i<2^t.toNat/\(i=0\/2^t.toNat<=2*i):=by intro i l;have:=oD.1 b i (uM.2 l);grind
 have j:decide ((x:Int)>=4294967296)=false:=decide_eq_false o_;have g:decide ((x:Int)>=65536)=false:=decide_eq_false o_;by_cases h:256<=x;have c:decide ((x:Int)>=256)=true:=decide_eq_true o_;have k:bV .shr (.int .u64 (x:Int)) (.int .u64 8)=some (.int .u64 ((x/256:Nat):Int)):=by
  have:(x:Int).fdiv (2^min 8 64)=((x/256:Nat):Int):=m_;rw[<-this];simp only[bV];rfl
 obtain⟨t,t1,t2,d,t4⟩:=e (x/256) o_;have w1:=Ib (o_:t.toNat<=9223372036854775807);have w2:IntKind.i64.wrap (IntKind.i64.wrap 8+(t.toNat:Int))=((8+t.toNat:Nat):Int):=by rw[show IntKind.i64.wrap 8=8 from rfl,aJ o_ o_];omega
 have w3:IntKind.i64.wrap (8+(t.toNat:Int))=((8+t.toNat:Nat):Int):=k_;simp only[go_sem,j,g,c,↓k,Ub _ (o_:x/256<256),t1,w1,w2];refine⟨8+t.toNat,rfl,o_,?_,.inr ?_⟩;grind;rw[aBX];have:(2:Nat)^8=256:=rfl;omega;have c:decide ((x:Int)>=256)=false:=decide_eq_false o_;obtain⟨t,t1,t2,d,t4⟩:=e x o_;have w1:=Ib (o_:t.toNat<=9223372036854775807);have w2:IntKind.i64.wrap (0+(t.toNat:Int))=(t.toNat:Int):=by rw[Int.zero_add];exact w1
 simp only[go_sem,j,g,c,Ub _ (o_:x<256),t1,w1,w2];exact⟨t.toNat,rfl,o_,d,t4⟩
def aD6(x:Nat)(b:x<65536):aA PQ G pF [.v (.int .u64 (x:Int))] [] λr a=>(∃n:Nat,r=iv n/\n<=16/\x<2^n/\(x=0\/2^n<=2*x))/\a=[]:=by refine aC HW ?_;simp only[go_sem];apply Jo (aFt x b);rintro r a ⟨⟨n,rfl,c⟩,rfl⟩;simp only[go_sem];exact⟨n,rfl,c⟩
def aAB(n:Nat)(h:n<=16):bV .shl (.int .u64 1) (.int .i64 (n:Int))=some (.int .u64 ((2^n:Nat):Int)):=by
 have h2:(2:Nat)^n<=2^16:=Gl o_ h;have e:(1:Int)*2^(min ((n:Int)).toNat 64)=((2^n:Nat):Int):=m_;have:IntKind.u64.wrap ((1:Int)*2^(min ((n:Int)).toNat 64))=((2^n:Nat):Int):=by rw[e,bS _ o_]
 rw[<-this];rfl
def aAC(n:Nat)(c:0<n)(b:n<65536):aA PQ G nQ [iv n] [] λr a=>(∃m:Nat,r=.v (.int .u64 (m:Int))/\n<m/\m<=2*n)/\a=[]:=by refine aC Av ?_;simp only[go_sem,bS n o_];apply Jo (aD6 n b);rintro r a ⟨⟨k,rfl,h1,h2,h3⟩,rfl⟩;simp only[go_sem,↓aAB k h1];grind
def Wq(x:Int)(y:Nat)(a:y<2^64):∃z:Nat,z<=y/\bV .and (.int .u64 x) (.int .u64 (y:Int))=some (.int .u64 (z:Int)):=by
 refine⟨(BitVec.ofInt 64 x &&& BitVec.ofInt 64 (y:Int)).toNat,?_,?_⟩;have h1:(BitVec.ofInt 64 (y:Int)).toNat=y:=u_;rw[YI,h1];exact Nat.and_le_right;have:bV .and (.int .u64 (x:Int)) (.int .u64 (y:Int))=some (.int .u64 (IntKind.u64.wrap ((BitVec.ofInt 64 (x:Int) &&& BitVec.ofInt 64 (y:Int)).toNat:Int))):=Y_;rw[this,bS _ (BitVec.isLt _)]
def aHY(x:Int):aA PQ G oS [.ptr 0 0] [some (.box [.v (.int .u64 x)])] λr a=>∃z:Int,r=.v (.int .u64 z)/\a=[some (.box [.v (.int .u64 z)])]:=by refine aC BV ?_;simp only[go_sem];simp
end Hud
