import Derived.Test.YtfbnbkidnmhhoaaGreatDoorLib09
import Derived.ProofKit
import Derived.Deep.Slices
set_option linter.all false
set_option maxHeartbeats 40000000
namespace Hud
open Go
variable{G:L_}
def UW(o:OpM):List (Int×Nat×Bool):=[(1,9,o.Device !=0),(2,12,o.Old !=0),(4,15,o.Member !=0),(8,18,o.Role !=0),(16,22,decide ((o.Path.length:Int)>0)),(32,26,!(o.Epoch.a==0&&(o.Epoch.b==0&&o.Epoch.c==0))),(64,29,o.N !=0),(128,33,decide ((o.Body.length:Int)>0)),(256,37,decide ((o.Refs.length:Int)>0)),(512,41,!(o.Of.a==0&&(o.Of.b==0&&o.Of.c==0))),
 (1024,45,decide ((o.Guards.length:Int)>0)),(2048,48,o.Need !=0),(4096,51,o.Wait !=0),(8192,55,decide ((o.Boxes.length:Int)>0)),(16384,58,((o.Pub:Int)!=0)),(32768,62,decide ((o.Hist.length:Int)>0))]
def aAx(o:OpM):aA PQ G DW [.ag o.A] [] λr T=>r=iv ((aLK (jQ o):Nat):Int)/\T=[]:=by
 apply aC LR;simp only[go_sem,OpM.A_def,aP];refine aHI rfl (Nv (T0:=[some (.box o.A),none]) (i:=1) (m:=6) k_ rfl ?_ 16 (UW o) [] rfl ?_ ?_ ?_);intro X;simp only[go_sem,OpM.A_def,aP];intro e j;simp only[UW,cS,pP,or_false]at j;rcases j with rfl|rfl|rfl|rfl|rfl|rfl|rfl|rfl|rfl|rfl|rfl|rfl|rfl|rfl|rfl|rfl<;>rfl;show([1,2,4,8,16,32,64,128,256,512,1024,2048,4096,8192,16384,32768]:O4).Nodup;decide;intro X O;have g:X.Perm (jQ o):=O;have N:∀e∈X,∃k:Nat,e.1=(k:Int)/\k<65536:=λe j=>by have:=g.mem_iff.1 j;simp only[jQ,cS,pP,or_false]at this;rcases this with rfl|rfl|rfl|rfl|rfl|rfl|rfl|rfl|rfl|rfl|rfl|rfl|rfl|rfl|rfl|rfl;exact⟨1,rfl,s_⟩;exact⟨2,rfl,s_⟩;exact⟨4,rfl,s_⟩;exact⟨8,rfl,s_⟩;exact⟨16,rfl,s_⟩;exact⟨32,rfl,s_⟩;exact⟨64,rfl,s_⟩;exact⟨128,rfl,s_⟩;exact⟨256,rfl,s_⟩;exact⟨512,rfl,s_⟩;exact⟨1024,rfl,s_⟩;exact⟨2048,rfl,s_⟩;exact⟨4096,rfl,s_⟩;exact⟨8192,rfl,s_⟩;exact⟨16384,rfl,s_⟩;exact⟨32768,rfl,s_⟩
 have M:X.length=16:=g.length_eq;rw[<-Nw g];clear O g;simp only[go_sem,MP,OpM.A_def];have H:∀e∈Io X [],e.1.toNat<65536:=λe j=>by simp[Io]at j
 refine cO (λn K=>∃a:O3,n=16-a.length/\a.Nodup/\(∀b∈a,b<X.length)/\K=⟨0,[(3,iv ((aLK (Io X a):Nat):Int)),(64,.ptr 0 0)],[some (.mit (some 1) X.length a X.length),some (MP X)]⟩) 16 ⟨[],rfl,Mm,λb f=>by simp at f,?_⟩ ?_;simp only[go_sem,MP];rfl;rintro n K ⟨a,rfl,E,u,rfl⟩;have Q:a.length<=16:=by have l:a.length<=(List.range X.length).length:=xY E λb f=>uM.2 (u b f);simp_all
 have F:∀e∈Io X a,e.1.toNat<65536:=λe j=>by obtain⟨b,f,rfl⟩:=dF.1 j;have I:=u b f;obtain⟨k,l,h2⟩:=N X[b] (eQ I);simp_all
 have s:aLK (Io X a)<65536:=WS _ 0 s_ F;simp only[go_sem];refine aGW rfl rfl (cN _) (cN _) (λq=>?_) λb f B=>?_;have:=Nw (aFf E u q);simp only[go_sem,this];obtain⟨k,l,h2⟩:=N X[b] (eQ f);have P:(X.map λe=>[Value.int .i64 e.1])[b]?=some [.int .i64 (k:Int)]:=by simp[f,l]
 have J:(X.map λe=>AV.v (.bool e.2))[b]?=some (.v (.bool X[b].2)):=by simp[f]
 have p:iY false [Value.int .i64 (k:Int)]=.int .i64 (k:Int):=fI rfl rfl;have z:=aCI (aLK (Io X a)) k s h2;have C:aLK (Io X (a++[b]))=Yq (aLK (Io X a)) X[b]:=by simp only[aLK,Io,bZ,fG,uP,Hy,CW,Kk,rH,jN f,Mi]
 have d:∀v:Nat,Yq (aLK (Io X a)) X[b]=v->∃m,m<16-a.length/\∃c:O3,m=16-c.length/\c.Nodup/\(∀b∈c,b<X.length)/\(⟨0,[(3,iv v),(64,.ptr 0 0)],[some (.mit (some 1) X.length (a++[b]) X.length),some (MP X)]⟩:St)=⟨0,[(3,iv ((aLK (Io X c):Nat):Int)),(64,.ptr 0 0)],[some (.mit (some 1) X.length c X.length),some (MP X)]⟩:=λv S=>by have D:(a++[b]).Nodup:=vQ.2 ⟨E,k_,λx w y L e=>B (by rw[aE5]at L;rw[<-L,<-e];exact w)⟩;have R:(a++[b]).length<=(List.range X.length).length:=xY D λx w=>uM.2 ((cG.1 w).elim (u x) λh=>by rw[aE5.1 h];exact f);grind
 unfold Yq at d;rw[l]at d;simp only[nI]at d;generalize X[b].2=t at J d
 cases t with
 |true=>
  simp only[go_sem,MP,Ke,CJ f,P,J,↓p,↓z,l];simp_all
 |false=>
  simp only[go_sem,MP,Ke,CJ f,P,J,↓p,l];simp_all
def MH(n:NodeM):Bool:=decide ((n.Boxes.length:Int)<=12)
def MI(x:SealM):Bool:=decide ((x.Body.length:Int)<=208)
def aD0(n:NodeM):aA PQ G Bp [.ag n.A] [] λr T=>r=.v (.bool (MH n))/\T=[]:=by refine aC Nq ?_;simp only[go_sem,NodeM.A,aP,MH]
def aD1(x:SealM):aA PQ G Bq [.ag x.A] [] λr T=>r=.v (.bool (MI x))/\T=[]:=by refine aC Nr ?_;simp only[go_sem,SealM.A,aP,MI]
def aAy(o:OpM)(a:o.ok):aA PQ G Jq [.ag o.A] [] λr T=>r=.v (.bool (ED o))/\T=[]:=by
 apply aC SE;have c:=a.path.1;have b:=a.hist.1;have e:(o.Path.all λn=>decide ((n.Boxes.length:Int)<=12))=o.Path.all MH:=rfl;have d:(o.Hist.all λn=>decide ((n.Body.length:Int)<=208))=o.Hist.all MI:=rfl;simp only[go_sem]
 repeat' (first
  |((with_reducible refine aL (λh=>?_) (λh=>?_))<;>(try simp only[vP,lI,sF]at h)<;>simp only[go_sem,aP,gt_iff_lt,h,undef])
  |(with_reducible refine dO (f:=bM) ?_;refine aU (aB _) rfl (tR _ _ _) rfl ?_;simp only[go_sem,aP,gt_iff_lt,undef])|(with_reducible refine dO (f:=jX) ?_;refine aU (aB _) rfl (Nz Bp MH o.Path o_ λx _=>aD0 x) rfl ?_;simp only[go_sem,aP,gt_iff_lt,undef])|(with_reducible refine dO (f:=iU) ?_;refine aU (aB _) rfl (N0 Bq MI o.Hist o_ λx _=>aD1 x) rfl ?_;simp only[go_sem,aP,gt_iff_lt,undef]))
 all_goals simp only[ED,gt_iff_lt, *,lI,sF,Ed,EI,EB,EH,if_true,if_false,jJ]
def Wl(n:NodeM)(a:n.ok):aA PQ G wP [.ag n.A] [] λr T=>r=.v (.bool (FI n))/\T=[]:=by refine aC Js ?_;have b:=a.2.1;simp only[go_sem,NodeM.A,FI];apply cX (Bt n.Pub);cases c:HK n.Pub;simp only[go_sem,lR];simp only[go_sem];apply cX (Ql wF wA n.Boxes o_ λx _=>Nu x);simp only[go_sem,mF]
def Wm(x:SealM):aA PQ G wQ [.ag x.A] [] λr T=>r=.v (.bool (FJ x))/\T=[]:=by refine aC Jt ?_;simp only[go_sem,SealM.A,FJ];apply cX (Dg x.Of);simp only[go_sem]
def Wo(n:Int):aA PQ G wR [iv n] [] λr T=>r=.v (.bool (yS n))/\T=[]:=by refine aC Ju ?_;simp only[go_sem,yS];apply cX (tR n 1 12);simp only[go_sem]
def UX (o:OpM) (ho:o.ok) (k:Nat) (R:k<65536):aA PQ G E7 [.ag o.A,iv k] [] λr T=>r=.v (.bool (CK o k))/\T=[]:=by
 apply aC Ns;rw[L9,bC];refine Xs (λs=>s=⟨0,[(2,.ptr 0 0),(1,iv k)],[some (.box o.A)]⟩) ?_ ?_;simp only[go_sem];rintro s rfl;rw[bC];refine Xs (λs=>s=⟨0,[(2,.ptr 0 0),(1,iv k)],[some (.box o.A)]⟩/\(oI o.By 1 12&&oI o.Seq 1 2147483647&&oI o.At 0 2147483647)=true) ?_ ?_
 ·simp only[go_sem]
  repeat' (first
   |((with_reducible refine aL (λh=>?_) (λh=>?_))<;>(try simp only[vP,lI,sF]at h)<;>simp only[go_sem,h,undef])
   |(with_reducible refine dO (f:=bM) ?_;refine aU (aB _) rfl (tR _ _ _) rfl ?_;simp only[go_sem,undef]))
  all_goals simp only[CK, *,aBY,lR,Ea]
 rintro s ⟨rfl,bh⟩;have C:CK o k=(Pm k (FH o)&&(o.Guards.all yS&&(o.Refs.all SF&&(o.Past.all jP&&(o.Path.all FI&&(o.Boxes.all wA&&o.Hist.all FJ)))))):=by simp_all[CK,mF]
 rw[bC];refine Xs (λs=>s=⟨0,[(7,iv o.Guards.length),(6,iv 1),(5,iv 1),(2,.ptr 0 0),(1,iv k)],[some (.box o.A)]⟩) ?_ ?_;simp only[go_sem,aP];rintro s rfl;rw[bC];refine Xs (λs=>s=⟨0,[(8,.v (.bool (oI o.Member 1 8))),(7,iv o.Guards.length),(6,iv 1),(5,iv 1),(2,.ptr 0 0),(1,iv k)],[some (.box o.A)]⟩) ?_ ?_;simp only[go_sem];apply cX (tR o.Member 1 8);simp only[go_sem];rintro s rfl;obtain⟨I,br⟩:∃I:Int,I=if o.Kind=3 then 0 else 1:=⟨_,rfl⟩
 obtain⟨F,bn⟩:∃F:Int,F=if o.Kind=1 then 0 else 1:=⟨_,rfl⟩
 obtain⟨H,bp⟩:∃H:Int,H=if o.Kind=1 then 20 else(o.Guards.length:Int):=⟨_,rfl⟩
 obtain⟨J,bq⟩:∃J:Bool,J=if o.Kind=3 then(oI o.Member 1 8&&(o.Device==0))||((o.Member==0)&&(o.Device !=0)) else oI o.Member 1 8:=⟨_,rfl⟩
 have hE:FH o=[(1,oI o.Device I 12),(2,oI o.Old 1 12),(4,J),(8,oI o.Role 1 3),(64,oI o.N 0 2147483647),(4096,oI o.Wait 0 2147483647),(2048,oI o.Need F H),(32,jP o.Epoch),(512,jP o.Of),(16384,HK o.Pub)]:=by rw[br,bn,bp,bq];rfl
 apply aAw;rw[bC];refine Xs (λs=>s.r=0/\s.T=[some (.box o.A)]/\gP s.s=[(1,iv k),(2,.ptr 0 0),(5,iv I),(6,iv F),(7,iv H),(8,.v (.bool J))]) ?_ ?_
 ·simp only[go_sem];clear hE;generalize oI o.Member 1 8=im at *
  repeat' (first
   |((with_reducible refine aL (λh=>?_) (λh=>?_))<;>(try simp only[vP,lI,sF]at h)<;>simp only[go_sem,h,undef]))
  all_goals simp_all
 rintro⟨r1,O,T1⟩ ⟨Y,h2,h3⟩;simp only at Y h2 h3;subst Y h2;have aa:O.Perm [(1,iv k),(2,.ptr 0 0),(5,iv I),(6,iv F),(7,iv H),(8,.v (.bool J))]:=by rw[<-h3];exact(UV O).symm
 have W:(O.map (·.1)).Perm [1,2,5,6,7,8]:=aa.map _;have hg:∀j x,(j,x)∈[(1,iv k),(2,AV.ptr 0 0),(5,iv I),(6,iv F),(7,iv H),(8,.v (.bool J))]->bA O j=x:=λj x hm=>Cn (W.nodup_iff.2 s_) (aa.mem_iff.2 hm);have B:∀j,j∉[1,2,5,6,7,8]->LE O j=O:=λj hj=>Ix λh=>hj (W.mem_iff.1 h);have g1:=hg 1 (iv k) k_;have g2:=hg 2 (.ptr 0 0) k_;have g5:=hg 5 (iv I) k_;have g6:=hg 6 (iv F) k_;have g7:=hg 7 (iv H) k_;have g8:=hg 8 (.v (.bool J)) k_;simp only[go_sem,g2,g5,g6,g7,g8,B 59 s_,B 60 s_,B 61 s_,B 63 s_,B 64 s_,B 66 s_,B 67 s_,B 68 s_,B 70 s_,B 71 s_,B 73 s_,B 74 s_,B 76 s_,B 77 s_,B 78 s_,B 79 s_,B 81 s_,B 82 s_,B 84 s_,B 85 s_,B 87 s_,B 88 s_];obtain⟨U,d⟩:∃U:List (Nat×AV),U=[(88,uv o.Pub),(87,.ptr 0 23),(85,.ag o.Of.A),(84,.ptr 0 16),(82,.ag o.Epoch.A),(81,.ptr 0 10),(79,iv H),(78,iv F),(77,iv o.Need),(76,.ptr 0 20),(74,iv o.Wait),(73,.ptr 0 21),(71,iv o.N),(70,.ptr 0 13),(68,iv o.Role),(67,.ptr 0 8),(66,.v (.bool J)),(64,iv o.Old),(63,.ptr 0 6),(61,iv I),(60,iv o.Device),(59,.ptr 0 5)]:=⟨_,rfl⟩
 have ab:((U++O).map (·.1)).Perm ([88,87,85,84,82,81,79,78,77,76,74,73,71,70,68,67,66,64,63,61,60,59]++[1,2,5,6,7,8]):=e_;have a:∀j,j∈([88,87,85,84,82,81,79,78,77,76,74,73,71,70,68,67,66,64,63,61,60,59]++[1,2,5,6,7,8]:O3)->j∈(U++O).map (·.1):=λj hj=>ab.mem_iff.2 hj;refine aFp λp hp=>?_;have aw:∀vs:Nat->Bool,vs=(λj=>if j=62 then oI o.Device I 12 else if j=65 then oI o.Old 1 12 else if j=69 then oI o.Role 1 3 else if j=72 then oI o.N 0 2147483647 else if j=75 then oI o.Wait 0 2147483647 else if j=80 then oI o.Need F H else if j=83 then jP o.Epoch else if j=86 then jP o.Of else if j=89 then HK o.Pub else J)->([⟨5,1,62,1⟩,⟨9,2,65,2⟩,⟨11,4,66,0⟩,⟨15,8,69,3⟩,⟨19,64,72,4⟩,⟨23,4096,75,5⟩,⟨29,2048,80,6⟩,⟨33,32,83,7⟩,⟨37,512,86,8⟩,⟨41,16384,89,9⟩]:List IE).map (λe=>(e.k,vs e.s))=FH o:=λvs hv=>by subst hv;rw[hE];rfl
 obtain⟨vs,Z⟩:∃vs:Nat->Bool,vs=(λj=>if j=62 then oI o.Device I 12 else if j=65 then oI o.Old 1 12 else if j=69 then oI o.Role 1 3 else if j=72 then oI o.N 0 2147483647 else if j=75 then oI o.Wait 0 2147483647 else if j=80 then oI o.Need F H else if j=83 then jP o.Epoch else if j=86 then jP o.Of else if j=89 then HK o.Pub else J):=⟨_,rfl⟩
 refine aHV (P:=PQ) (G:=G) (p:=p) (Q:=[39,38,35,34,31,30,27,26,25,24,21,20,17,16,13,12,10,7,6,3,2,1]) (m:=58) (z:=42) (y:=43) (dz:=90) (dy:=91) (r0:=0) (cs:=[⟨4,62,bM,[.tmp 60,.tmp 61,.const (.int .i64 12)]⟩,⟨8,65,bM,[.tmp 64,.const (.int .i64 1),.const (.int .i64 12)]⟩,⟨14,69,bM,[.tmp 68,.const (.int .i64 1),.const (.int .i64 3)]⟩,⟨18,72,bM,[.tmp 71,.const (.int .i64 0),.const (.int .i64 2147483647)]⟩,⟨22,75,bM,[.tmp 74,.const (.int .i64 0),.const (.int .i64 2147483647)]⟩,⟨28,80,bM,[.tmp 77,.tmp 78,.tmp 79]⟩,⟨32,83,fC,[.tmp 82]⟩,⟨36,86,fC,[.tmp 85]⟩,⟨40,89,jS,[.tmp 88]⟩]) (es:=[⟨5,1,62,1⟩,⟨9,2,65,2⟩,⟨11,4,66,0⟩,⟨15,8,69,3⟩,⟨19,64,72,4⟩,⟨23,4096,75,5⟩,⟨29,2048,80,6⟩,⟨33,32,83,7⟩,⟨37,512,86,8⟩,⟨41,16384,89,9⟩]) (s0:=U++O) (T0:=[some (.box o.A)])
  (vs:=vs) ?_ ?_ ?_ ?_ ?_ ?_ ?_ s_ ?_ ?_ ?_ s_ ?_ 23 false false 0 [] _ _ (pR _) Mm (λe h=>by simp at h) ?_ ?_ (.inr ⟨rfl,rfl⟩) s_
 rw[hp];constructor<;>decide +kernel;rw[hp];rfl;rw[hp];simp;rw[hp];simp;rw[hp];rfl;rw[hp];rfl;exact((ab.append_right _).nodup_iff).2 s_;intro c hc s T K' g R;have bg:bA s 59=.ptr 0 5:=(g 59 (a 59 s_)).trans i_;have ao:bA s 60=iv o.Device:=(g 60 (a 60 s_)).trans i_;have an:bA s 61=iv I:=(g 61 (a 61 s_)).trans i_;have bf:bA s 63=.ptr 0 6:=(g 63 (a 63 s_)).trans i_;have am:bA s 64=iv o.Old:=(g 64 (a 64 s_)).trans i_;have be:bA s 66=.v (.bool J):=(g 66 (a 66 s_)).trans i_;have bd:bA s 67=.ptr 0 8:=(g 67 (a 67 s_)).trans i_;have al:bA s 68=iv o.Role:=(g 68 (a 68 s_)).trans i_;have bc:bA s 70=.ptr 0 13:=(g 70 (a 70 s_)).trans i_;have ak:bA s 71=iv o.N:=(g 71 (a 71 s_)).trans i_;have bb:bA s 73=.ptr 0 21:=(g 73 (a 73 s_)).trans i_;have aj:bA s 74=iv o.Wait:=(g 74 (a 74 s_)).trans i_;have ba:bA s 76=.ptr 0 20:=(g 76 (a 76 s_)).trans i_;have ai:bA s 77=iv o.Need:=(g 77 (a 77 s_)).trans i_;have ah:bA s 78=iv F:=(g 78 (a 78 s_)).trans i_;have af:bA s 79=iv H:=(g 79 (a 79 s_)).trans i_;have az:bA s 81=.ptr 0 10:=(g 81 (a 81 s_)).trans i_;have ae:bA s 82=.ag o.Epoch.A:=(g 82 (a 82 s_)).trans i_;have ay:bA s 84=.ptr 0 16:=(g 84 (a 84 s_)).trans i_;have ad:bA s 85=.ag o.Of.A:=(g 85 (a 85 s_)).trans i_;have ax:bA s 87=.ptr 0 23:=(g 87 (a 87 s_)).trans i_;have ac:bA s 88=uv o.Pub:=(g 88 (a 88 s_)).trans i_;have e1:bA s 1=iv (k:Int):=(g 1 (a 1 s_)).trans (by rw[d];exact g1);have e2:bA s 2=.ptr 0 0:=(g 2 (a 2 s_)).trans (by rw[d];exact g2);have e5:bA s 5=iv I:=(g 5 (a 5 s_)).trans (by rw[d];exact g5);have e6:bA s 6=iv F:=(g 6 (a 6 s_)).trans (by rw[d];exact g6);have e7:bA s 7=iv H:=(g 7 (a 7 s_)).trans (by rw[d];exact g7);have e8:bA s 8=.v (.bool J):=(g 8 (a 8 s_)).trans (by rw[d];exact g8);simp only[cS,pP,or_false]at hc;subst Z;rcases hc with rfl|rfl|rfl|rfl|rfl|rfl|rfl|rfl|rfl<;>simp only[fG,uP,dW,ao,an,am,al,ak,aj,ai,ah,af,ae,ad,ac];exact aU (aB _) rfl (tR o.Device I 12) rfl R;exact aU (aB _) rfl (tR o.Old 1 12) rfl R;exact aU (aB _) rfl (tR o.Role 1 3) rfl R;exact aU (aB _) rfl (tR o.N 0 2147483647) rfl R;exact aU (aB _) rfl (tR o.Wait 0 2147483647) rfl R;exact aU (aB _) rfl (tR o.Need F H) rfl R;exact aU (aB _) rfl (Dg o.Epoch) rfl R;exact aU (aB _) rfl (Dg o.Of) rfl R;exact aU (aB _) rfl (Bt o.Pub) rfl R;intro e he;simp only[cS,pP,or_false]at he;subst Z;rcases he with rfl|rfl|rfl|rfl|rfl|rfl|rfl|rfl|rfl|rfl;exact .inr ⟨_,rfl,s_,rfl⟩;exact .inr ⟨_,rfl,s_,rfl⟩;exact .inl ⟨a 66 s_,i_⟩;exact .inr ⟨_,rfl,s_,rfl⟩;exact .inr ⟨_,rfl,s_,rfl⟩;exact .inr ⟨_,rfl,s_,rfl⟩;exact .inr ⟨_,rfl,s_,rfl⟩;exact .inr ⟨_,rfl,s_,rfl⟩;exact .inr ⟨_,rfl,s_,rfl⟩;exact .inr ⟨_,rfl,s_,rfl⟩;intro s T g hT q ap o' ar;have eT:T[0]?=some (some (.box o.A)):=bH (hT 0 Nat.zero_lt_one);have bg:bA s 59=.ptr 0 5:=(g 59 (a 59 s_)).trans i_;have ao:bA s 60=iv o.Device:=(g 60 (a 60 s_)).trans i_;have an:bA s 61=iv I:=(g 61 (a 61 s_)).trans i_;have bf:bA s 63=.ptr 0 6:=(g 63 (a 63 s_)).trans i_;have am:bA s 64=iv o.Old:=(g 64 (a 64 s_)).trans i_;have be:bA s 66=.v (.bool J):=(g 66 (a 66 s_)).trans i_;have bd:bA s 67=.ptr 0 8:=(g 67 (a 67 s_)).trans i_;have al:bA s 68=iv o.Role:=(g 68 (a 68 s_)).trans i_;have bc:bA s 70=.ptr 0 13:=(g 70 (a 70 s_)).trans i_;have ak:bA s 71=iv o.N:=(g 71 (a 71 s_)).trans i_;have bb:bA s 73=.ptr 0 21:=(g 73 (a 73 s_)).trans i_;have aj:bA s 74=iv o.Wait:=(g 74 (a 74 s_)).trans i_;have ba:bA s 76=.ptr 0 20:=(g 76 (a 76 s_)).trans i_;have ai:bA s 77=iv o.Need:=(g 77 (a 77 s_)).trans i_;have ah:bA s 78=iv F:=(g 78 (a 78 s_)).trans i_;have af:bA s 79=iv H:=(g 79 (a 79 s_)).trans i_;have az:bA s 81=.ptr 0 10:=(g 81 (a 81 s_)).trans i_;have ae:bA s 82=.ag o.Epoch.A:=(g 82 (a 82 s_)).trans i_;have ay:bA s 84=.ptr 0 16:=(g 84 (a 84 s_)).trans i_;have ad:bA s 85=.ag o.Of.A:=(g 85 (a 85 s_)).trans i_;have ax:bA s 87=.ptr 0 23:=(g 87 (a 87 s_)).trans i_;have ac:bA s 88=uv o.Pub:=(g 88 (a 88 s_)).trans i_;have e1:bA s 1=iv (k:Int):=(g 1 (a 1 s_)).trans (by rw[d];exact g1);have e2:bA s 2=.ptr 0 0:=(g 2 (a 2 s_)).trans (by rw[d];exact g2);have e5:bA s 5=iv I:=(g 5 (a 5 s_)).trans (by rw[d];exact g5);have e6:bA s 6=iv F:=(g 6 (a 6 s_)).trans (by rw[d];exact g6);have e7:bA s 7=iv H:=(g 7 (a 7 s_)).trans (by rw[d];exact g7);have e8:bA s 8=.v (.bool J):=(g 8 (a 8 s_)).trans (by rw[d];exact g8);rw[hp]at ar;simp only[cS,pP,or_false]at ap;rcases ap with rfl|rfl|rfl|rfl|rfl|rfl|rfl|rfl|rfl|rfl|rfl|rfl|rfl|rfl|rfl|rfl|rfl|rfl|rfl|rfl|rfl|rfl<;>(obtain rfl:=Option.some.inj ar;simp only[go_sem,eT,bg,ao,an,bf,am,be,bd,al,bc,ak,bb,aj,ba,ai,ah,af,az,ae,ay,ad,ax,ac,e2,e5,e6,e7,e8])
 ·intro X hX;rw[aw vs Z]at hX;have S:X.Perm (FH o):=hX;have L:Pm k X=Pm k (FH o):=by unfold Pm;rw[aO8,oD,oD];exact⟨λh x K=>h x (S.mem_iff.2 K),λh x K=>h x (S.mem_iff.1 K)⟩
  have bu:∀e∈X,∃j:Nat,e.1=(j:Int)/\j<65536:=λe he=>by have:=S.mem_iff.1 he;simp only[FH,cS,pP,or_false]at this;rcases this with rfl|rfl|rfl|rfl|rfl|rfl|rfl|rfl|rfl|rfl;exact⟨1,rfl,s_⟩;exact⟨2,rfl,s_⟩;exact⟨4,rfl,s_⟩;exact⟨8,rfl,s_⟩;exact⟨64,rfl,s_⟩;exact⟨4096,rfl,s_⟩;exact⟨2048,rfl,s_⟩;exact⟨32,rfl,s_⟩;exact⟨512,rfl,s_⟩;exact⟨16384,rfl,s_⟩
  have V:X.length=10:=S.length_eq;rw[<-L]at C;clear hX S hE aw L;have av:=US (r:=0) (T:=[some (.box o.A)]++[some (MP X),some (.mit (some 1) X.length [] X.length)]) (s:=(91,.ptr 2 0)::(90,.mp 1)::Qp 58 [⟨4,62,bM,[.tmp 60,.tmp 61,.const (.int .i64 12)]⟩,⟨8,65,bM,[.tmp 64,.const (.int .i64 1),.const (.int .i64 12)]⟩,⟨14,69,bM,[.tmp 68,.const (.int .i64 1),.const (.int .i64 3)]⟩,⟨18,72,bM,[.tmp 71,.const (.int .i64 0),.const (.int .i64 2147483647)]⟩,⟨22,75,bM,[.tmp 74,.const (.int .i64 0),.const (.int .i64 2147483647)]⟩,⟨28,80,bM,[.tmp 77,.tmp 78,.tmp 79]⟩,⟨32,83,fC,[.tmp 82]⟩,⟨36,86,fC,[.tmp 85]⟩,⟨40,89,jS,[.tmp 88]⟩] (U++O) 1 vs true 9) (t:=(91,.ptr 2 0)::(90,.mp 1)::Qp 58 [⟨4,62,bM,[.tmp 60,.tmp 61,.const (.int .i64 12)]⟩,⟨8,65,bM,[.tmp 64,.const (.int .i64 1),.const (.int .i64 12)]⟩,⟨14,69,bM,[.tmp 68,.const (.int .i64 1),.const (.int .i64 3)]⟩,⟨18,72,bM,[.tmp 71,.const (.int .i64 0),.const (.int .i64 2147483647)]⟩,⟨22,75,bM,[.tmp 74,.const (.int .i64 0),.const (.int .i64 2147483647)]⟩,⟨28,80,bM,[.tmp 77,.tmp 78,.tmp 79]⟩,⟨32,83,fC,[.tmp 82]⟩,⟨36,86,fC,[.tmp 85]⟩,⟨40,89,jS,[.tmp 88]⟩] (U++[(1,iv k),(2,.ptr 0 0),(5,iv I),(6,iv F),(7,iv H),(8,.v (.bool J))]) 1 vs true 9)
   ?_ ((((aa.append_left U).append_right _).cons _).cons _)
  ·rw [show([some (AObj.box o.A)]:aK).length=1 from rfl,show([⟨4,62,bM,[.tmp 60,.tmp 61,.const (.int .i64 12)]⟩,⟨8,65,bM,[.tmp 64,.const (.int .i64 1),.const (.int .i64 12)]⟩,⟨14,69,bM,[.tmp 68,.const (.int .i64 1),.const (.int .i64 3)]⟩,⟨18,72,bM,[.tmp 71,.const (.int .i64 0),.const (.int .i64 2147483647)]⟩,⟨22,75,bM,[.tmp 74,.const (.int .i64 0),.const (.int .i64 2147483647)]⟩,⟨28,80,bM,[.tmp 77,.tmp 78,.tmp 79]⟩,⟨32,83,fC,[.tmp 82]⟩,⟨36,86,fC,[.tmp 85]⟩,⟨40,89,jS,[.tmp 88]⟩]:List CE).length=9 from rfl,av,d];simp only[go_sem,Qp];clear av;refine cO (λn st=>∃l:O3,n=10-l.length/\l.Nodup/\(∀b∈l,b<X.length)/\(∀b∈l,∀h:b<X.length,((k &&& X[b].1.toNat==0)||X[b].2)=true)/\st=⟨0,[(1,iv k),(2,.ptr 0 0),(91,.ptr 1 0)],[some (.box o.A),some (.mit (some 2) X.length l X.length),some (MP X)]⟩) 10 ⟨[],rfl,Mm,λb M=>by simp at M,λb M=>by simp at M,?_⟩ ?_;simp only[go_sem,MP];rintro n st ⟨l,rfl,hn,g,aq,rfl⟩;have bv:l.length<=10:=by have Y:l.length<=(List.range X.length).length:=xY hn λb M=>uM.2 (g b M);simpa[V]using Y
   simp only[go_sem];refine aGW (i:=1) (j:=2) rfl rfl (cN _) (cN _) (λL=>?_) λb M bl=>?_
   ·have hX:Pm k X=true:=by unfold Pm;rw[oD];intro x K;obtain⟨j,hj,rfl⟩:=CU K;exact aq j (L j hj) hj
    rw[hX,mF]at C;have q1:=ho.guards.1;have q2:=ho.refs.1;have q3:=ho.past.1;have q4:=ho.path.1;have q5:=ho.boxes.1;have q6:=ho.hist.1;simp only[go_sem]
    repeat' (first
     |((with_reducible refine aL (λh=>?_) (λh=>?_))<;>(try simp only[vP,lI,sF]at h)<;>simp only[go_sem,h,undef])
     |(with_reducible refine dO (f:=AA) ?_;refine aU (aB _) rfl (aAj wR yS o.Guards o_ λx _=>Wo x) rfl ?_;simp only[go_sem,undef])|(with_reducible refine dO (f:=tN) ?_;refine aU (aB _) rfl (aAm Da SF o.Refs o_ λx _=>MC (x:Int)) rfl ?_;simp only[go_sem,undef])|(with_reducible refine dO (f:=oR) ?_;refine aU (aB _) rfl (aCM fC jP o.Past o_ λx _=>Dg x) rfl ?_;simp only[go_sem,undef])|(with_reducible refine dO (f:=jX) ?_;refine aU (aB _) rfl (Nz wP FI o.Path o_ λx K=>Wl x (ho.path.2 x K)) rfl ?_;simp only[go_sem,undef])|(with_reducible refine dO (f:=nO) ?_;refine aU (aB _) rfl (Ql wF wA o.Boxes o_ λx _=>Nu x) rfl ?_;simp only[go_sem,undef])|(with_reducible refine dO (f:=iU) ?_;refine aU (aB _) rfl (N0 wQ FJ o.Hist o_ λx _=>Wm x) rfl ?_;simp only[go_sem,undef]))
    all_goals rw[C]
    all_goals simp[*]
   ·obtain⟨j,Y,h2⟩:=bu X[b] (eQ M);have h3:(X.map λe=>[Value.int .i64 e.1])[b]?=some [.int .i64 (j:Int)]:=by simp[M,Y]
    have h4:(X.map λe=>AV.v (.bool e.2))[b]?=some (.v (.bool X[b].2)):=by simp[M]
    have bt:iY false [Value.int .i64 (j:Int)]=.int .i64 (j:Int):=fI rfl rfl;have bk:=aAe k j R h2;have D:((k &&& X[b].1.toNat==0)||X[b].2)=true->∃m,m<10-l.length/\∃w:O3,m=10-w.length/\w.Nodup/\(∀b∈w,b<X.length)/\(∀b∈w,∀h:b<X.length,((k &&& X[b].1.toNat==0)||X[b].2)=true)/\(⟨0,[(1,iv k),(2,.ptr 0 0),(91,.ptr 1 0)],[some (.box o.A),some (.mit (some 2) X.length (l++[b]) X.length),some (MP X)]⟩:St)=⟨0,[(1,iv k),(2,.ptr 0 0),(91,.ptr 1 0)],[some (.box o.A),some (.mit (some 2) X.length w X.length),some (MP X)]⟩:=λhv=>by have au:(l++[b]).Nodup:=vQ.2 ⟨hn,k_,λx K y hy e=>bl (by rw[aE5]at hy;rw[<-hy,<-e];exact K)⟩;have bs:(l++[b]).length<=(List.range X.length).length:=xY au λx K=>uM.2 ((cG.1 K).elim (g x) λh=>by rw[aE5.1 h];exact M);simp[V]at bs;refine⟨10-(l++[b]).length,f_,l++[b],rfl,au,λx K=>(cG.1 K).elim (g x) λh=>by rw[aE5.1 h];exact M,λx K bi=>?_,rfl⟩;rcases cG.1 K with h|h;exact aq x h bi;obtain rfl:=aE5.1 h;exact hv
    have E:((k &&& X[b].1.toNat==0)||X[b].2)=false->CK o k=false:=λhv=>by
     rw[C];have:Pm k X=false:=by unfold Pm;rw[List.all_eq_false];exact⟨X[b],eQ M,by rw[hv];simp⟩
     rw[this,lR]
    rw[Y]at D E;simp only[nI]at D E;have bm:(((k &&& j:Nat):Int)!=0)=!(k &&& j==0):=by rw[aO8];simp
    generalize X[b].2=t at h4 D E;simp only[go_sem,MP,Ke,CJ M,h3,h4,↓bt,↓bk,bm,Y];generalize(k &&& j==0)=u at D E;cases u<;>cases t<;>simp only[go_sem,MP]
    all_goals first
     |exact D rfl|rw[E rfl]
  have bj:(((91,AV.ptr 2 0)::(90,AV.mp 1)::Qp 58 [⟨4,62,bM,[.tmp 60,.tmp 61,.const (.int .i64 12)]⟩,⟨8,65,bM,[.tmp 64,.const (.int .i64 1),.const (.int .i64 12)]⟩,⟨14,69,bM,[.tmp 68,.const (.int .i64 1),.const (.int .i64 3)]⟩,⟨18,72,bM,[.tmp 71,.const (.int .i64 0),.const (.int .i64 2147483647)]⟩,⟨22,75,bM,[.tmp 74,.const (.int .i64 0),.const (.int .i64 2147483647)]⟩,⟨28,80,bM,[.tmp 77,.tmp 78,.tmp 79]⟩,⟨32,83,fC,[.tmp 82]⟩,⟨36,86,fC,[.tmp 85]⟩,⟨40,89,jS,[.tmp 88]⟩] (U++O) 1 vs true 9).map (·.1)).Perm (91::90::(([88,87,85,84,82,81,79,78,77,76,74,73,71,70,68,67,66,64,63,61,60,59]++[1,2,5,6,7,8])++[62,65,69,72,75,80,83,86,89,58])):=by simp only[fG];refine List.Perm.cons _ (List.Perm.cons _ ?_);rw[Qp,bZ];exact ab.append_right _
  exact bj.nodup_iff.2 s_
 simp only[Qp,jJ,if_false,uQ,uP,jO,d];exact List.Perm.refl _;intro j;simp
def Co{α:Type}{a:α->α->Bool}:∀{l:List α},nT a l=true↔∀j(h:j+1<l.length),a l[j] l[j+1]=true|[]=>by simp[nT]|[x]=>by simp[nT]|x::y::l=>by simp only[nT,zJ,Co (l:=y::l)];constructor;grind;intro h;exact⟨h 0 k_,λj b=>h (j+1) B_⟩
def Y1{α:Type}{a:α->α->Bool}{l:List α}{i:Nat}(b:i+1<l.length)(h:a l[i] l[i+1]=false):nT a l=false:=by
 cases e:nT a l with
 |false=>rfl|true=>have:=Co.1 e i b;rw[h]at this;simp at this
def aHW(o:OpM)(m:o.ok):aA PQ G DZ [.ag o.A] [] λr T=>r=.v (.bool (ED o))/\T=[]:=by
 apply aC Pg;have s:=m.path.1;have q:=m.hist.1;simp only[go_sem];refine aQ o.Path.length (λi=>⟨0,[(1,.ptr 0 0),(3,iv i)],[some (.box o.A)]⟩) (λi=>∀j(l:j<o.Path.length),j<i->(λn:NodeM=>decide ((n.Boxes.length:Int)<=12)) o.Path[j]=true) ?_ (by intro j l h;omega) ?_ ?_;simp only[go_sem]
 ·intro i g d;have k:(o.Path.map NodeM.A)[i]?=some [uv o.Path[i].Pub,F5 o.Path[i].Boxes]:=aO _ o.Path i g;simp only[go_sem,aP,aT g,k]
  repeat' (first
   |((with_reducible refine aL (λh=>?_) (λh=>?_))<;>(try simp only[vP,lI,sF]at h)<;>simp only[go_sem,aP,g,k,fQ i o_,h,undef]))
  all_goals first
   |(refine vH (p:=λn:NodeM=>decide ((n.Boxes.length:Int)<=12)) g d ?_;clear d k;generalize o.Path[i]=x at *;simp at *;omega)|(have e:=EG (p:=λn:NodeM=>decide ((n.Boxes.length:Int)<=12)) g (by clear d k;generalize o.Path[i]=x at *;simp at *;omega);simp only[ED,e,sF,Ed,EI])
 intro d;have u:=Bu (p:=λn:NodeM=>decide ((n.Boxes.length:Int)<=12)) d;clear d;simp only[go_sem,aP,aS (bP _)];refine aQ o.Hist.length (λi=>⟨0,[(1,.ptr 0 0),(4,iv i)],[some (.box o.A)]⟩) (λi=>∀j(l:j<o.Hist.length),j<i->(λx:SealM=>decide ((x.Body.length:Int)<=208)) o.Hist[j]=true) ?_ (by intro j l h;omega) ?_ ?_;simp only[go_sem]
 ·intro i g d;have k:(o.Hist.map SealM.A)[i]?=some [.v (.int .i64 o.Hist[i].Of.a),.v (.int .i64 o.Hist[i].Of.b),.v (.int .u64 o.Hist[i].Of.c),.ls 1 (bl o.Hist[i].Body)]:=aO _ o.Hist i g;simp only[go_sem,aP,aT g,k]
  repeat' (first
   |((with_reducible refine aL (λh=>?_) (λh=>?_))<;>(try simp only[vP,lI,sF]at h)<;>simp only[go_sem,aP,g,k,fQ i o_,h,undef]))
  all_goals first
   |(refine vH (p:=λx:SealM=>decide ((x.Body.length:Int)<=208)) g d ?_;clear d k;generalize o.Hist[i]=x at *;simp at *;omega)|(have e:=EG (p:=λx:SealM=>decide ((x.Body.length:Int)<=208)) g (by clear d k;generalize o.Hist[i]=x at *;simp at *;omega);simp only[ED,e,sF,Ed,EI])
 intro d;have t:=Bu (p:=λx:SealM=>decide ((x.Body.length:Int)<=208)) d;clear d;simp only[go_sem,aP,aS (bP _)]
 repeat' (first
  |((with_reducible refine aL (λh=>?_) (λh=>?_))<;>(try simp only[vP,lI,sF]at h)<;>simp only[go_sem,aP,h,undef])
  |(with_reducible refine dO (f:=dP) ?_;refine aU (aB _) rfl (FF _ _ _) rfl ?_;simp only[go_sem,aP,undef]))
 all_goals simp only[ED, *,lI,Ed,EI,EB,EH,if_true,if_false,jJ]
def aFq(o:OpM)(g:o.ok):aA PQ G E3 [.ag o.A] [] λr T=>r=.v (.int .i64 (jB o))/\T=[]:=by
 apply aC Ng;have y:=g.past.1;have x:=g.guards.1;have w:∀{a b:Int},a=b->AV.v (.int .i64 a)=.v (.int .i64 b):=λh=>by rw[h]
 simp only[go_sem]
 repeat' (first
  |((with_reducible refine aL (λh=>?_) (λh=>?_))<;>(try simp only[vP,lI,sF]at h)<;>simp only[go_sem,aP,gt_iff_lt,h,undef])
  |(with_reducible refine dO (f:=DY) ?_;refine aU (aB _) rfl (aHL o) rfl ?_;simp only[go_sem,aP,gt_iff_lt,undef])
  |(with_reducible refine dO (f:=wO) ?_;refine aU (aB _) rfl (aAu o) rfl ?_;simp only[go_sem,aP,gt_iff_lt,undef])
  |(with_reducible refine dO (f:=Bn) ?_;refine aU (aB _) rfl (aFn o g) rfl ?_;simp only[go_sem,aP,gt_iff_lt,undef])
  |(with_reducible refine dO (f:=DZ) ?_;refine aU (aB _) rfl (aHW o g) rfl ?_;simp only[go_sem,aP,gt_iff_lt,undef]))
 all_goals try (simp only[decide_eq_true_eq,decide_eq_false_iff_not]at *;simp[jB, *];done)
 rename_i u h2 D C B;have z:=h;clear h;simp only[decide_eq_false_iff_not]at u h2;have c:jB o=if nT Id.lt o.Past=false then 6 else if nT (λa b:Int=>decide (a<b)) o.Guards=false then 6 else if decide (o.Past.length=0)≠decide (o.Kind=1) then 10 else 0:=by grind[jB]
 refine aQ (o.Past.length-1) (λi=>⟨0,[(1,.ptr 0 0),(3,iv ((i+1:Nat):Int))],[some (.box o.A)]⟩) (λi=>∀j(d:j+1<o.Past.length),j<i->o.Past[j].lt o.Past[j+1]=true) ?_ sg ?_ ?_;simp only[go_sem];intro i t e;have p:(o.Past.map Id.A)[i]?=some o.Past[i].A:=aO _ o.Past i o_;have m:(o.Past.map Id.A)[i+1]?=some o.Past[i+1].A:=aO _ o.Past (i+1) o_;simp only[go_sem,aP,aT (o_:i+1<o.Past.length),p,m,aNu (o_:i<2^63-1)];apply cX (OD o.Past[i] o.Past[i+1]);simp only[go_sem];refine aL (λh=>?_) (λh=>?_)<;>simp only[go_sem,pC (o_:i+1<2^63-1)];rw[c,if_pos (Y1 (o_:i+1<o.Past.length) n_)];grind;intro e;have l:nT Id.lt o.Past=true:=Co.2 λj d=>e j d o_;rw[if_neg (by simp[l])]at c;simp only[go_sem,aP,aS (o_:¬(o.Past.length-1+1<o.Past.length))];clear e;refine aQ (o.Guards.length-1) (λi=>⟨0,[(1,.ptr 0 0),(4,iv ((i+1:Nat):Int))],[some (.box o.A)]⟩) (λi=>∀j(d:j+1<o.Guards.length),j<i->decide (o.Guards[j]<o.Guards[j+1])=true) ?_ sg ?_ ?_;simp only[go_sem];intro i t e;have p:(o.Guards.map λn=>[iv n])[i]?=some [iv o.Guards[i]]:=aO _ o.Guards i o_;have m:(o.Guards.map λn=>[iv n])[i+1]?=some [iv o.Guards[i+1]]:=aO _ o.Guards (i+1) o_;simp only[go_sem,aP,aT (o_:i+1<o.Guards.length),p,m,aNu (o_:i<2^63-1)];refine aL (λh=>?_) (λh=>?_)<;>simp only[go_sem,pC (o_:i+1<2^63-1)];rw[c,if_pos (Y1 (o_:i+1<o.Guards.length) (by simp at h⊢;omega))];grind;intro e;have k:nT (λa b:Int=>decide (a<b)) o.Guards=true:=Co.2 λj d=>e j d o_;rw[if_neg (by simp[k])]at c;simp only[go_sem,aP,aS (o_:¬(o.Guards.length-1+1<o.Guards.length))];rw[c];have q:((o.Past.length:Int)==0)=decide (o.Past.length=0):=m_;have s:(o.Kind==1)=decide (o.Kind=1):=rfl;rw[q,s];generalize decide (o.Past.length=0)=a;generalize decide (o.Kind=1)=b;cases a<;>cases b<;>simp only[go_sem]<;>rfl
def GK(G:L_):Prop:=G Ii=some (qY.map λn:Nat=>iv (n:Int))
def SY(a b:Nat)(f:a<65536)(e:b<65536):bV .andNot (.int .i64 (a:Int)) (.int .i64 (b:Int))=some (.int .i64 ((nE a b:Nat):Int)):=by
 have d:nE a b<65536:=by unfold nE;rw[YI];apply QJ aBW;rw[BitVec.toNat_ofNat];omega
 have c:(BitVec.ofInt IntKind.i64.bits (a:Int) &&& ~~~(BitVec.ofInt IntKind.i64.bits (b:Int))).toNat=nE a b:=by show(BitVec.ofInt 64 (a:Int) &&& ~~~(BitVec.ofInt 64 (b:Int))).toNat=nE a b;unfold nE;rw[BitVec.ofInt_natCast,BitVec.ofInt_natCast]
 simp only[bV,if_true,c];rw[aJ o_ o_]
def rr{α:Type}(a:α->α->Bool)(d:α)(l:List α)(i:Nat):Bool:=(List.range i).all λj=>a (l.getD j d) (l.getD (j+1) d)
def aD2{α:Type}{a:α->α->Bool}{d:α}{l:List α}{i:Nat}(b:i+1<l.length):rr a d l (i+1)=(rr a d l i&&a l[i] l[i+1]):=by unfold rr;rw[QH,YK];simp[rH,jN b,jN (o_:i<l.length)]
def aD3{α:Type}{b:α->α->Bool}{d:α}{l:List α}:rr b d l (l.length-1)=nT b l:=by rw[aO8,Co];unfold rr;rw[oD];constructor;intro h j a;have:=h j (uM.2 o_);simpa[rH,jN a,jN (o_:j<l.length)]using this;intro h j a;have a:=uM.1 a;have:=h j o_;simpa[rH,jN (o_:j+1<l.length),jN (o_:j<l.length)]using this
def Wp(C:GK G)(o:OpM)(k:o.ok):aA PQ G HR [.ag o.A] [] λr T=>r=iv (vF o)/\T=[]:=by
 apply aC Ph;obtain⟨c,t⟩:∃c,c=qY.map λn:Nat=>iv (n:Int):=⟨_,rfl⟩
 have u:G Ii=some c:=by rw[t];exact C
 have s:(0:Int)<=o.Kind->o.Kind<14->(c.drop o.Kind.toNat)[0]?=some (iv (vV o.Kind:Nat)):=λl h2=>by
  subst t;obtain⟨n,B⟩:∃n:Nat,o.Kind=(n:Int):=⟨o.Kind.toNat,o_⟩
  rw[B,vV,nI];have:n<14:=o_;clear l h2 B;have q:∀n,n<14->((qY.map λn:Nat=>iv (n:Int)).drop n)[0]?=some (iv ((qY.getD n 0:Nat):Int)):=λn h=>by rw[Hw,mG,gE,rH];have:n<qY.length:=h;simp[this]
  exact q n this
 clear t C;simp only[go_sem];refine aL (λh=>?_) (λh=>?_)<;>simp only[vP,lI,sF,decide_eq_false_iff_not,decide_eq_true_eq]at h;rotate_left;simp only[go_sem,decide_eq_true h];rw[vF,if_pos (.inl h)];have J:=h;simp only[go_sem,gt_iff_lt,decide_eq_false J];refine aL (λh=>?_) (λh=>?_)<;>simp only[vP,lI,sF,decide_eq_false_iff_not,decide_eq_true_eq]at h;rotate_left;simp only[go_sem,decide_eq_true h,undef];rw[vF,if_pos (.inr h)];have I:=h;have e:=s o_ o_;have p:0<=o.Kind:=o_;have m:o.Kind<14:=o_;have d:vF o=if nE (aLK (jQ o)) (vV o.Kind)≠0 then 1 else if CK o (vV o.Kind)=false then 8 else if ED o then 2 else if aCJ o=false then 6 else if decide (o.Past.length=0)≠decide (o.Kind=1) then 10 else 0:=by rw[vF,if_neg o_]
 have E:=SY (aLK (jQ o)) (vV o.Kind) (Nx o) (SG o.Kind);simp only[go_sem,decide_eq_false I,u,e,p,m,Bb];apply cX (aAx o);have z:(((nE (aLK (jQ o)) (vV o.Kind):Nat):Int)!=0)=decide (nE (aLK (jQ o)) (vV o.Kind)≠0):=by generalize nE (aLK (jQ o)) (vV o.Kind)=x;rw[aO8];simp
 simp only[go_sem,u,e,p,m,Bb,↓E,z];refine aL (λh=>?_) (λh=>?_)<;>simp only[decide_eq_false_iff_not,decide_eq_true_eq]at h;simp only[go_sem];rw[d,if_pos h];rw[if_neg h]at d;clear E z h;have P:=k.past.1;have O:=k.guards.1;have H:IntKind.i64.wrap ((o.Past.length:Int)-1)=(o.Past.length:Int)-1:=aJ o_ o_;have F:IntKind.i64.wrap ((o.Guards.length:Int)-1)=(o.Guards.length:Int)-1:=aJ o_ o_;simp only[go_sem,aP,H];refine aQ (o.Past.length-1) (λi=>⟨0,[(1,.ptr 0 0),(3,.v (.bool (rr Id.lt default o.Past i))),(27,iv ((o.Past.length:Int)-1)),(28,iv i)],[some (.box o.A)]⟩) (λ_=>True) ?_ trivial ?_ ?_;simp only[go_sem];rfl;intro i M _;have j:decide ((i:Int)<(o.Past.length:Int)-1)=true:=decide_eq_true o_;have y:(o.Past.map Id.A)[i]?=some o.Past[i].A:=aO _ o.Past i o_;have w:(o.Past.map Id.A)[i+1]?=some o.Past[i+1].A:=aO _ o.Past (i+1) o_;have f:=fQ i o_;rw[aD2 (o_:i+1<o.Past.length)];generalize rr Id.lt default o.Past i=b;simp only[go_sem,j];cases b;simp only[go_sem,undef,f,lR];simp only[go_sem,f,y,w];apply cX (Cm o.Past[i] o.Past[i+1]);simp only[go_sem,f,mF];intro _;have j:decide (((o.Past.length-1:Nat):Int)<(o.Past.length:Int)-1)=false:=decide_eq_false o_;rw[aD3];simp only[go_sem,aP,j,F];refine aQ (o.Guards.length-1) (λi=>⟨0,[(1,.ptr 0 0),(3,.v (.bool (nT Id.lt o.Past&&rr (λa b:Int=>decide (a<b)) 0 o.Guards i))),(50,iv ((o.Guards.length:Int)-1)),(51,iv i)],[some (.box o.A)]⟩) (λ_=>True) ?_ trivial ?_ ?_;simp only[go_sem,rr,Mk,aGL];intro i M _;have j:decide ((i:Int)<(o.Guards.length:Int)-1)=true:=decide_eq_true o_;have y:(o.Guards.map λn=>[iv n])[i]?=some [iv o.Guards[i]]:=aO _ o.Guards i o_;have w:(o.Guards.map λn=>[iv n])[i+1]?=some [iv o.Guards[i+1]]:=aO _ o.Guards (i+1) o_;have f:=fQ i o_;rw[aD2 (o_:i+1<o.Guards.length),<-aGD];generalize(nT Id.lt o.Past&&rr (λa b:Int=>decide (a<b)) 0 o.Guards i)=b;simp only[go_sem,j];cases b;simp only[go_sem,undef,f,lR];simp only[go_sem,f,y,w,mF];intro _;have N:decide (((o.Guards.length-1:Nat):Int)<(o.Guards.length:Int)-1)=false:=decide_eq_false o_;rw[aD3];have g:(nT Id.lt o.Past&&nT (λa b:Int=>decide (a<b)) o.Guards)=aCJ o:=rfl;simp only[go_sem,N,g,u,e,p,m,Bb];apply cX (UX o k (vV o.Kind) (SG _));cases l:CK o (vV o.Kind);simp only[go_sem];rw[d,if_pos l];rw[if_neg (by simp[l])]at d;simp only[go_sem];apply cX (aAy o k);cases h2:ED o;rotate_left;simp only[go_sem];rw[d,if_pos h2];rw[if_neg (by simp[h2])]at d;simp only[go_sem];cases D:aCJ o;simp only[go_sem];rw[d,if_pos D];rw[if_neg (by simp[D])]at d;rw[d];have K:((o.Past.length:Int)==0)=decide (o.Past.length=0):=by rw[aO8];simp
 have L:(o.Kind==1)=decide (o.Kind=1):=rfl;simp only[go_sem,aP,K,L];generalize decide (o.Past.length=0)=a;generalize decide (o.Kind=1)=b;cases a<;>cases b<;>simp only[go_sem]<;>rfl
end Hud
namespace Hud
open Go Go.RowKit Go.WideShapes Go.ChangeShapes Go.Deep
def Hb:LK->Value->Prop|.int k,v=>∃n,v=.int k n/\(Lit.int k n).wf=true|.bool,v=>∃b,v=.bool b|.str,v=>∃s,v=.string s/\s.size<=maxLen
def kC:List LK->O5->Prop|[],a=>a=[]|k::b,a=>∃v r,a=v::r/\Hb k v/\kC b r
def UY{a b:List LK}{u v:O5}(h:kC a u)(k:kC b v):kC (a++b) (u++v):=by
 induction a generalizing u with
 |nil=>simp only[kC]at h;subst h;simpa using k|cons x a ih=>
  simp only[kC]at h;obtain⟨w,r,rfl,c,h2⟩:=h;simp only[jC,kC];exact⟨w,r++v,rfl,c,ih h2⟩
mutual
def OE(P:Program):Nat->TypeId->Option (List LK)|0,_=>none|n+1,t=>match P.underlying t with|some .bool=>some [.bool]|some (.int k)=>some [.int k]|some .string=>some [.str]|some (.struct a)=>Jz P n a.toList 0|_=>none
def Jz(P:Program):Nat->List Field->Nat->Option (List LK)|0,_,_=>none|_+1,[],_=>some []|n+1,f::d,c=>match OE P n f.type,Jz P n d (c+P.cellsOf f.type) with|some a,some b=>if f.offset=c/\a.length=P.cellsOf f.type then some (a++b) else none|_,_=>none
end
section
variable{H:Type}{enc:TypeId×Value->H}{P:Program}{w:World}{base:Nat}{spare:Nat->Bool}{held:Bool}
mutual
def Qr:∀{n:Nat}{t:TypeId}{ks:List LK},OE P n t=some ks->ks.length=P.cellsOf t->∀{fuel:Nat}{cs:O5}{x:DataW H×List MemPlace},DataW.trod enc P w base spare held fuel t cs=some x->kC ks cs
 |0,_,_,h,_,_,_,_,_=>by simp[OE]at h
 | n+1,t,ks,h,q,fuel,cs,x,e=>by
  simp only[OE]at h;split at h;rename_i a;cases h;obtain⟨b,d,_⟩:=DataW.trod_bool a e;subst d;simp[kC,Hb];rename_i k a;cases h;obtain⟨m,d,_,g⟩:=DataW.trod_int a e;subst d;simp[kC,Hb,g];rename_i a;cases h;obtain⟨s,d,_,g⟩:=DataW.trod_string a e;subst d;simp[kC,Hb,g];rename_i v a;obtain⟨p,m,_,_,o,c,r⟩:=DataW.trod_struct a e
  have:=Qs h (cs:=cs) (λi f j=>by
   have u:=r i f d9;have h2:i<p.length:=by rw[c];rcases eD i v.size with l|l;exact l;rw[sX (by simpa using l)]at j;simp at j
   exact⟨m,_,u.trans (jN h2)⟩) (by rw[o,<-q,pQ])
  simpa using this;simp at h
def Qs:∀{n:Nat}{p:List Field}{off:Nat}{ks:List LK},Jz P n p off=some ks->∀{cs:O5},(∀(i:Nat)(f:Field),p[i]?=some f->∃c x,DataW.trod enc P w base spare held c f.type ((cs.drop f.offset).take (P.cellsOf f.type))=some x) ->
 cs.length=off+ks.length->kC ks (cs.drop off)
 |0,_,_,_,h,_,_,_=>by simp[Jz]at h|n+1,[],off,ks,h,cs,m,l=>by
  simp only[Jz,O7]at h;subst h;simp only[kC];exact LB (by simp at l;omega)
 | n+1,f::p,off,ks,h,cs,m,l=>by
  simp only[Jz]at h;split at h;rename_i a b s h2;split at h;rename_i r;cases h;obtain⟨o,j⟩:=r;obtain⟨c,x,e⟩:=m 0 f rfl;have d:=Qr s j e;rw[dZ]at l;have k:=Qs h2 (cs:=cs) (λi g q=>m (i+1) g (by simpa using q)) (by rw[<-j];omega);rw[o]at d;have:cs.drop off=(cs.drop off).take (P.cellsOf f.type)++cs.drop (off+P.cellsOf f.type):=by rw[<-Kg,LC]
  rw[this];exact UY d k;simp at h;simp at h
end
end
def Iy(w:World):GH:=λb=>match w.heap[b]? with|some (.cells a _ _)=>some a|_=>none
def aD4(w:World)(φ:Nat->Value):Inv (Iy w) φ w [] where
 gh:=λb g e=>by unfold Iy at e;split at e;rename_i c E a h;cases e;exact⟨E,a,h⟩;simp at e
 obj:=λi o e=>oO
 dis:=λi j f d b e=>oO
def aAz{w:World}{b o:Nat}{v:Value}(h:w.cell? ⟨b,o,none⟩=some v):oY (Iy w) b o=some v:=by unfold World.cell? at h;unfold oY Iy;split at h;rename_i c E d a;simp only at a;rw[a];simpa using h;simp at h
def UZ{k:LK}{v:Value}(h:Hb k v):aX (.v v)=true:=by
 cases k with
 |int k=>obtain⟨n,rfl,_⟩:=h;rfl
 |bool=>obtain⟨b,rfl⟩:=h;rfl
 |str=>obtain⟨s,rfl,_⟩:=h;rfl
def Ua{ks:List LK}{vs:O5}(h:kC ks vs):∀{i:Nat}{v:Value},vs[i]?=some v->∃k,Hb k v:=by
 induction ks generalizing vs with
 |nil=>simp only[kC]at h;subst h;simp|cons k ks ih=>
  simp only[kC]at h;obtain⟨u,r,rfl,b,h2⟩:=h;intro i v a
  cases i with
  |zero=>simp only[sW,O7]at a;subst a;exact⟨k,b⟩|succ i=>exact ih h2 oe
section
variable{H:Type}{enc:TypeId×Value->H}{P:Program}{W:World}{base:Nat}{spare:Nat->Bool}{held:Bool}{h:GH}{φ:Nat->Value}
def aD5 {t e:TypeId} {ks:List LK} {n:Nat} (Z:P.underlying t=some (.slice e)) (I:OE P n e=some ks) (K:ks.length=P.cellsOf e) (ab:0<ks.length) {A:Option Addr} {h C:Nat} {d:DataW H} {ps:List MemPlace}
 (L:DataW.Trod enc P W base spare held t (.slice A h C) d ps):
 ∃O:List O5,(∀x∈O,kC ks x)/\O.length<=maxLen/\Rp (Iy W) φ 0 (.ls ks.length (O.map λx=>x.map .v)) (.slice A h C):=by
 obtain⟨X,L⟩:=L;rcases open_slice Z L with⟨B,_⟩|⟨a,G,R,m,n',D,Pl,B,_,U,T,hm,_,z⟩
 obtain⟨rfl,rfl,rfl⟩:A=none/\h=0/\C=0:=by simpa[Value.cells]using B
 refine⟨[],k_,k_,?_⟩;simp only[Rp,oB,uP,gQ];exact⟨none,0,rfl,cN _,pR _,k_⟩;obtain⟨rfl,rfl,rfl⟩:A=some a/\h=G/\C=R:=by simpa[Value.cells]using B
 have aa:h<=m:=by rw[hm];split<;>omega
 have f:∀i,∃E:O5,i<h->(W.cells? base (a.add (i*P.cellsOf e)) (P.cellsOf e)=some E/\kC ks E):=by intro i;by_cases w:i<h;obtain⟨E,N,M⟩:=z i o_;exact⟨E,λ_=>⟨N,Qr I K M⟩⟩;exact⟨[],λy=>absurd y w⟩
 refine⟨(List.range h).map λi=>(f i).choose,?_,by simpa using uR U T,?_⟩;intro x Y;obtain⟨i,w,rfl⟩:=dF.1 Y;exact((f i).choose_spec (uM.1 w)).2;simp only[Rp,oB,aP,QK];refine⟨some a,C,rfl,U,T,?_⟩;rcases JX h with V|V;exact .inl (by subst V;rfl);refine .inr ?_;have s:a.spot=none:=by
  obtain⟨E,S,_⟩:=z 0 o_;obtain⟨_,F,Q⟩:=World.cells?_some S;have g:=Q 0 o_;rw[jN (by rw[F];omega),Nat.zero_mul]at g;have:(a.add 0).add 0=a:=by simp[Addr.add]
  rw[this]at g;unfold World.cell? at g;split at g;split at g;simp at g;rename_i I;simpa using I;simp at g
 obtain⟨b,o,sp⟩:=a;simp only at s;subst s;refine⟨b,o,rfl,kF.mk λj e' q=>?_⟩;rw[gE,gE]at q;rcases eD j h with l|l;rw[aBQ l]at q;simp only[iX,O7]at q;subst q;obtain⟨S,c2⟩:=(f j).choose_spec l;obtain⟨_,F,Q⟩:=World.cells?_some S;refine⟨by rw[aP,F,K],mR.mk λi c r=>?_⟩;rw[gE]at r
 cases p:(f j).choose[i]? with
 |none=>rw[p]at r;simp at r| some u=>
  rw[p]at r;simp only[iX,O7]at r;subst r;obtain⟨k,J⟩:=Ua c2 p;have w:i<P.cellsOf e:=by rw[<-F];rcases eD i (f j).choose.length with y|y;exact y;rw[sX y]at p;simp at p
  have g:=Q i w;rw[p]at g;refine⟨u,UZ J,?_,by simp[oB]⟩;have:((Addr.mk b o none).add (j*P.cellsOf e)).add i=⟨b,o+j*ks.length+i,none⟩:=by rw[K];by_cases B:j*P.cellsOf e=0<;>by_cases h2:i=0<;>simp[Addr.add,B,h2,sY]
  rw[this]at g;exact aAz g
 rw[sX (by simpa using l)]at q;simp at q
def aHX{n:Int}(a:(Lit.int .i64 n).wf=true):-9223372036854775808<=n/\n<=(2^63-1):=by simp only[Lit.wf,zJ,decide_eq_true_eq]at a;exact a
def Y2:∀{es:List O5},(∀x∈es,kC [.int .i64] x)->∃l:O4,es.map (λx=>x.map AV.v)=l.map (λn=>[AV.v (.int .i64 n)])/\∀n∈l,-9223372036854775808<=n/\n<=2^63-1
 |[],_=>⟨[],rfl,k_⟩
 |e::es,b=>by obtain⟨l,f,h2⟩:=Y2 (es:=es) λx c=>b x (by simp[c]);have:=b e k_;simp only[kC,Hb]at this;obtain⟨v,r,rfl,⟨n,rfl,d⟩,rfl⟩:=this;refine⟨n::l,by simp[f],?_⟩;intro m a;rcases cS.1 a with rfl|a;exact aHX d;exact h2 m a
def Qt{k:World}(i:laidOutB P=true)(j:Below W.heap.size W k){e:Nat->Bool}:∀{ts:List TypeId}{vs:O5}{ds:List (DataW H)}{ps:List MemPlace},(∀t∈ts,P.readableRec t=true/\t<P.types.size) ->
 DataW.TrodAll enc P W 0 (λ_=>true) true ts vs ds ps->(∀x∈ps,x.block<W.heap.size)->(∀x∈ps,e x.block=true)->DataW.TrodAll enc P k 0 e true ts vs ds ps
 |[],[],[],ps,_,h,_,_=>by simpa[DataW.TrodAll]using h| t::ts,v::vs,d::ds,ps,f,h,b,g=>by
  simp only[DataW.TrodAll]at h⊢;obtain⟨p,q,n,h2,rfl⟩:=h;obtain⟨m,l⟩:=f t k_
  exact⟨p,q,WideElems.Trod_stays i m l n (λx a=>j.same (b x db)) (λx a=>g x db),
   Qt i j (λt c=>f t (by simp[c])) h2 (λx a=>b x db) (λx a=>g x db),rfl⟩
 |[],_::_,_,_,_,h,_,_=>by simp[DataW.TrodAll]at h|[],[],_::_,_,_,h,_,_=>by simp[DataW.TrodAll]at h|_::_,[],_,_,_,h,_,_=>by simp[DataW.TrodAll]at h|_::_,_::_,[],_,_,h,_,_=>by simp[DataW.TrodAll]at h
def aAA{h':GH}{b:Nat->Value}{f:aK}{c:World}(a:Evo h φ [] W h' b f c):Go.RowKit.Below W.heap.size W c :=
 ⟨a.os,a.tape,a.output,a.size,λk d=>a.frame k d λi o e=>oO⟩
end
end Hud
