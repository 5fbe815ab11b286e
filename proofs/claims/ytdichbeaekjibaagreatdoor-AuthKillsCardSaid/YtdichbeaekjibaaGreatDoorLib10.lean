import Derived.Test.YtdichbeaekjibaaGreatDoorLib09
import Derived.ProofKit
import Derived.Deep.Slices
set_option linter.all false
namespace Hud
open Go
section
def Qg (o:OpM):List (Int×Nat×Bool):=[(1,9,o.Device !=0),(2,12,o.Old !=0),(4,15,o.Member !=0),(8,18,o.Role !=0),(16,22,decide ((o.Path.length:Int)>0)),(32,26,!(o.Epoch.a==0&&(o.Epoch.b==0&&o.Epoch.c==0))),(64,29,o.N !=0),(128,33,decide ((o.Body.length:Int)>0)),(256,37,decide ((o.Refs.length:Int)>0)),(512,41,!(o.Of.a==0&&(o.Of.b==0&&o.Of.c==0))),
 (1024,45,decide ((o.Guards.length:Int)>0)),(2048,48,o.Need !=0),(4096,51,o.Wait !=0),(8192,55,decide ((o.Boxes.length:Int)>0)),(16384,58,((o.Pub:Int)!=0)),(32768,62,decide ((o.Hist.length:Int)>0))]
section
variable {G:Nat→Option (List AV)}
set_option maxHeartbeats 4000000
def Wg (o:OpM):aC PQ G BL [.ag o.A] [] λr T=>r=.v (.int .i64 ((oI (gO o):Nat):Int))∧T=[]:=by
 refine aD IP (by decide) ?_;simp only [go_sem,OpM.A_def,aL];refine aCV rfl (Kg (T0:=[some (.box o.A),none]) (i:=1) (m:=6) (by simp) rfl ?_ 16 (Qg o) [] rfl ?_ ?_ ?_)
 ·intro X;simp only [go_sem,OpM.A_def,aL]
 ·intro e he;simp only [Qg,jB,qS,or_false] at he;rcases he with rfl | rfl | rfl | rfl | rfl | rfl | rfl | rfl | rfl | rfl | rfl | rfl | rfl | rfl | rfl | rfl<;>rfl
 ·show ([1,2,4,8,16,32,64,128,256,512,1024,2048,4096,8192,16384,32768]:List Int).Nodup;decide
 intro X hX;have hX2:X.Perm (gO o):=hX;have hk:∀ e∈X,∃ k:Nat,e.1=(k:Int)∧k<65536:=λe he=>by
  have:=hX2.mem_iff.1 he;simp only [gO,jB,qS,or_false] at this;rcases this with rfl | rfl | rfl | rfl | rfl | rfl | rfl | rfl | rfl | rfl | rfl | rfl | rfl | rfl | rfl | rfl
  ·exact ⟨1,rfl,by decide⟩
  ·exact ⟨2,rfl,by decide⟩
  ·exact ⟨4,rfl,by decide⟩
  ·exact ⟨8,rfl,by decide⟩
  ·exact ⟨16,rfl,by decide⟩
  ·exact ⟨32,rfl,by decide⟩
  ·exact ⟨64,rfl,by decide⟩
  ·exact ⟨128,rfl,by decide⟩
  ·exact ⟨256,rfl,by decide⟩
  ·exact ⟨512,rfl,by decide⟩
  ·exact ⟨1024,rfl,by decide⟩
  ·exact ⟨2048,rfl,by decide⟩
  ·exact ⟨4096,rfl,by decide⟩
  ·exact ⟨8192,rfl,by decide⟩
  ·exact ⟨16384,rfl,by decide⟩
  ·exact ⟨32768,rfl,by decide⟩
 have hlen:X.length=16:=hX2.length_eq;rw [←Kh hX2];clear hX hX2;simp only [go_sem,MP,OpM.A_def];have hloop:∀ e∈F9 X [],e.1.toNat<65536:=λe he=>by simp [F9] at he
 refine jE (λn st=>∃ seen:List Nat,n=16-seen.length∧seen.Nodup∧(∀ b∈seen,b<X.length)∧st=⟨0,[(3,.v (.int .i64 ((oI (F9 X seen):Nat):Int))),(64,.ptr 0 0)],[some (.mit (some 1) X.length seen X.length),some (MP X)]⟩) 16 ⟨[],rfl,Po,λb hb=>by simp at hb,?_⟩ ?_
 ·simp only [go_sem,MP];rfl
 rintro n st ⟨seen,rfl,hn,hs,rfl⟩;have hsl:seen.length≤16:=by
  have h1:seen.length≤(List.range X.length).length:=tU hn λb hb=>sH.2 (hs b hb);simp_all
 have hml:∀ e∈F9 X seen,e.1.toNat<65536:=λe he=>by
  obtain ⟨b,hb,rfl⟩:=cZ.1 he;have hbl:=hs b hb;obtain ⟨k,h1,h2⟩:=hk X[b] (iN hbl);simp_all
 have hacc:oI (F9 X seen)<65536:=SX _ 0 (by decide) hml;simp only [go_sem];refine aC6 rfl rfl (cT _) (cT _) (λhall=>?_) λb hb hns=>?_
 ·have:=Kh (aAK hn hs hall);simp only [go_sem,this]
 ·obtain ⟨k,h1,h2⟩:=hk X[b] (iN hb);have h3:(X.map λe=>[Value.int .i64 e.1])[b]?=some [.int .i64 (k:Int)]:=by simp [hb,h1]
  have h4:(X.map λe=>AV.v (.bool e.2))[b]?=some (.v (.bool X[b].2)):=by simp [hb]
  have hkv:gY false [Value.int .i64 (k:Int)]=.int .i64 (k:Int):=bJ rfl rfl;have hor:=Yb (oI (F9 X seen)) k hacc h2;have hnext:oI (F9 X (seen++[b]))=Ud (oI (F9 X seen)) X[b]:=by
   simp only [oI,F9,jA,fE,mE,Pk,Gm,JW,uW,nQ hb,Mj]
  have hfin:∀ v:Nat,Ud (oI (F9 X seen)) X[b]=v→∃ m,m<16-seen.length∧∃ seen':List Nat,m=16-seen'.length∧seen'.Nodup∧(∀ b∈seen',b<X.length)∧(⟨0,[(3,.v (.int .i64 (v:Int))),(64,.ptr 0 0)],[some (.mit (some 1) X.length (seen++[b]) X.length),some (MP X)]⟩:St)=⟨0,[(3,.v (.int .i64 ((oI (F9 X seen'):Nat):Int))),(64,.ptr 0 0)],[some (.mit (some 1) X.length seen' X.length),some (MP X)]⟩:=λv hv=>by
   have hn2:(seen++[b]).Nodup:=H9.2 ⟨hn,by simp,λx hx y hy e=>hns (by rw [iU] at hy;rw [←hy,←e];exact hx)⟩;have hl2:(seen++[b]).length≤(List.range X.length).length:=tU hn2 λx hx=>sH.2 ((eM.1 hx).elim (hs x) λh=>by rw [iU.1 h];exact hb);grind
  unfold Ud at hfin;rw [h1] at hfin;simp only [Lp] at hfin;generalize X[b].2=t at h4 hfin
  cases t with
  | true =>
   simp only [go_sem,MP,Xg,zT hb,h3,h4,↓hkv,↓hor,h1];simp_all
  | false =>
   simp only [go_sem,MP,Xg,zT hb,h3,h4,↓hkv,h1];simp_all
end
end
section
def JC (n:NodeM):Bool:=decide ((n.Boxes.length:Int)≤12)
def JD (x:SealM):Bool:=decide ((x.Body.length:Int)≤208)
section
variable {G:Nat→Option (List AV)}
set_option maxHeartbeats 4000000
def Yq (n:NodeM):aC PQ G yE [.ag n.A] [] λr T=>r=.v (.bool (JC n))∧T=[]:=by
 refine aD Kb (by decide) ?_;simp only [go_sem,NodeM.A,aL,JC]
def Yr (x:SealM):aC PQ G yF [.ag x.A] [] λr T=>r=.v (.bool (JD x))∧T=[]:=by
 refine aD Kc (by decide) ?_;simp only [go_sem,SealM.A,aL,JD]
def Wh (o:OpM) (ho:o.ok):aC PQ G G5 [.ag o.A] [] λr T=>r=.v (.bool (Bz o))∧T=[]:=by
 refine aD OT (by decide) ?_;have l1:=ho.path.1;have l2:=ho.hist.1;have e1:(o.Path.all λn=>decide ((n.Boxes.length:Int)≤12))=o.Path.all JC:=rfl;have e2:(o.Hist.all λn=>decide ((n.Body.length:Int)≤208))=o.Hist.all JD:=rfl;simp only [go_sem]
 repeat' (first
  | ((with_reducible refine aK (λh=>?_) (λh=>?_))<;>(try simp only [rW,lG,lR] at h)<;>simp only [go_sem,aL,gt_iff_lt,h,undef])
  | (with_reducible refine cK (f:=bC) ?_;refine aB (aA _) rfl (pN _ _ _) rfl ?_;simp only [go_sem,aL,gt_iff_lt,undef])
  | (with_reducible refine cK (f:=hZ) ?_;refine aB (aA _) rfl (Kk yE JC o.Path (by omega) λx _=>Yq x) rfl ?_;simp only [go_sem,aL,gt_iff_lt,undef])
  | (with_reducible refine cK (f:=fP) ?_;refine aB (aA _) rfl (Kl yF JD o.Hist (by omega) λx _=>Yr x) rfl ?_;simp only [go_sem,aL,gt_iff_lt,undef]))
 all_goals simp only [Bz,gt_iff_lt, *,lG,lR,EG,FW,Mp,FY,if_true,if_false,kB]
def Sp (n:NodeM) (hn:n.ok):aC PQ G sV [.ag n.A] [] λr T=>r=.v (.bool (C0 n))∧T=[]:=by
 refine aD G7 (by decide) ?_;have l1:=hn.2.1;simp only [go_sem,NodeM.A,C0];refine aB (aA _) rfl (yH n.Pub) rfl ?_;cases h1:Eu n.Pub
 ·simp only [go_sem,kC]
 simp only [go_sem];refine aB (aA _) rfl (NC sM sI n.Boxes (by omega) λx _=>Kf x) rfl ?_;simp only [go_sem,kN]
def Sq (x:SealM):aC PQ G sW [.ag x.A] [] λr T=>r=.v (.bool (C1 x))∧T=[]:=by
 refine aD G8 (by decide) ?_;simp only [go_sem,SealM.A,C1];refine aB (aA _) rfl (BV x.Of) rfl ?_;simp only [go_sem]
def Sr (n:Int):aC PQ G sX [iv n] [] λr T=>r=.v (.bool (uO n))∧T=[]:=by
 refine aD G9 (by decide) ?_;simp only [go_sem,uO];refine aB (aA _) rfl (pN n 1 12) rfl ?_;simp only [go_sem]
end
end
section
section
variable {G:Nat→Option (List AV)}
set_option maxHeartbeats 4000000
def Qh (o:OpM) (ho:o.ok) (k:Nat) (hk:k<65536):aC PQ G Cp [.ag o.A,iv k] [] λr T=>r=.v (.bool (zW o k))∧T=[]:=by
 refine aD Kd (by decide) ?_;dsimp only [go_sem];rw [I6,aS];refine bP (λs=>s=⟨0,[(2,.ptr 0 0),(1,iv k)],[some (.box o.A)]⟩) ?_ ?_
 ·simp only [go_sem]
 rintro s rfl;rw [aS];refine bP (λs=>s=⟨0,[(2,.ptr 0 0),(1,iv k)],[some (.box o.A)]⟩∧(lD o.By 1 12&&lD o.Seq 1 2147483647&&lD o.At 0 2147483647)=true) ?_ ?_
 ·simp only [go_sem]
  repeat' (first
   | ((with_reducible refine aK (λh=>?_) (λh=>?_))<;>(try simp only [rW,lG,lR] at h)<;>simp only [go_sem,h,undef])
   | (with_reducible refine cK (f:=bC) ?_;refine aB (aA _) rfl (pN _ _ _) rfl ?_;simp only [go_sem,undef]))
  all_goals simp only [zW, *,Xu,kC,Dz]
 rintro s ⟨rfl,hfirst⟩;have hrest:zW o k=(MD k (Cz o)&&(o.Guards.all uO&&(o.Refs.all OU&&(o.Past.all gN&&(o.Path.all C0&&(o.Boxes.all sI&&o.Hist.all C1)))))):=by
  simp_all [zW,kN]
 rw [aS];refine bP (λs=>s=⟨0,[(7,iv o.Guards.length),(6,iv 1),(5,iv 1),(2,.ptr 0 0),(1,iv k)],[some (.box o.A)]⟩) ?_ ?_
 ·simp only [go_sem,aL]
 rintro s rfl;rw [aS];refine bP (λs=>s=⟨0,[(8,.v (.bool (lD o.Member 1 8))),(7,iv o.Guards.length),(6,iv 1),(5,iv 1),(2,.ptr 0 0),(1,iv k)],[some (.box o.A)]⟩) ?_ ?_
 ·simp only [go_sem];refine aB (aA _) rfl (pN o.Member 1 8) rfl ?_;simp only [go_sem]
 rintro s rfl;obtain ⟨le,hle⟩:∃ le:Int,le=if o.Kind=3 then 0 else 1:=⟨_,rfl⟩
 obtain ⟨nd,hnd⟩:∃ nd:Int,nd=if o.Kind=1 then 0 else 1:=⟨_,rfl⟩
 obtain ⟨mo,hmo⟩:∃ mo:Int,mo=if o.Kind=1 then 20 else (o.Guards.length:Int):=⟨_,rfl⟩
 obtain ⟨me,hme⟩:∃ me:Bool,me=if o.Kind=3 then (lD o.Member 1 8&&(o.Device==0))||((o.Member==0)&&(o.Device !=0)) else lD o.Member 1 8:=⟨_,rfl⟩
 have hE:Cz o=[(1,lD o.Device le 12),(2,lD o.Old 1 12),(4,me),(8,lD o.Role 1 3),(64,lD o.N 0 2147483647),(4096,lD o.Wait 0 2147483647),(2048,lD o.Need nd mo),(32,gN o.Epoch),(512,gN o.Of),(16384,Eu o.Pub)]:=by
  rw [hle,hnd,hmo,hme];rfl
 refine Wf ?_;rw [aS];refine bP (λs=>s.r=0∧s.T=[some (.box o.A)]∧oH s.s=[(1,iv k),(2,.ptr 0 0),(5,iv le),(6,iv nd),(7,iv mo),(8,.v (.bool me))]) ?_ ?_
 ·simp only [go_sem];clear hE;generalize lD o.Member 1 8=im at *
  repeat' (first
   | ((with_reducible refine aK (λh=>?_) (λh=>?_))<;>(try simp only [rW,lG,lR] at h)<;>simp only [go_sem,h,undef]))
  all_goals simp_all
 rintro ⟨r1,s1,T1⟩ ⟨h1,h2,h3⟩;simp only at h1 h2 h3;subst h1 h2;have hp1:s1.Perm [(1,iv k),(2,.ptr 0 0),(5,iv le),(6,iv nd),(7,iv mo),(8,.v (.bool me))]:=by rw [←h3];exact (Qf s1).symm
 have hkey:(s1.map (·.1)).Perm [1,2,5,6,7,8]:=hp1.map _;have hg:∀ j x,(j,x)∈[(1,iv k),(2,AV.ptr 0 0),(5,iv le),(6,iv nd),(7,iv mo),(8,.v (.bool me))]→aP s1 j=x:=λj x hm=>AW (hkey.nodup_iff.2 (by decide)) (hp1.mem_iff.2 hm);have hd:∀ j,j∉[1,2,5,6,7,8]→Fa s1 j=s1:=λj hj=>GF λh=>hj (hkey.mem_iff.1 h);have g1:=hg 1 (iv k) (by simp);have g2:=hg 2 (.ptr 0 0) (by simp);have g5:=hg 5 (iv le) (by simp);have g6:=hg 6 (iv nd) (by simp);have g7:=hg 7 (iv mo) (by simp);have g8:=hg 8 (.v (.bool me)) (by simp);simp only [go_sem,g2,g5,g6,g7,g8,hd 59 (by decide),hd 60 (by decide),hd 61 (by decide),hd 63 (by decide),hd 64 (by decide),hd 66 (by decide),hd 67 (by decide),hd 68 (by decide),hd 70 (by decide),hd 71 (by decide),hd 73 (by decide),hd 74 (by decide),hd 76 (by decide),hd 77 (by decide),hd 78 (by decide),hd 79 (by decide),hd 81 (by decide),hd 82 (by decide),hd 84 (by decide),hd 85 (by decide),hd 87 (by decide),hd 88 (by decide)];obtain ⟨Lq,hLq⟩:∃ Lq:List (Nat×AV),Lq=[(88,uv o.Pub),(87,.ptr 0 23),(85,.ag o.Of.A),(84,.ptr 0 16),(82,.ag o.Epoch.A),(81,.ptr 0 10),(79,iv mo),(78,iv nd),(77,iv o.Need),(76,.ptr 0 20),(74,iv o.Wait),(73,.ptr 0 21),(71,iv o.N),(70,.ptr 0 13),(68,iv o.Role),(67,.ptr 0 8),(66,.v (.bool me)),(64,iv o.Old),(63,.ptr 0 6),(61,iv le),(60,iv o.Device),(59,.ptr 0 5)]:=⟨_,rfl⟩
 have hk0:((Lq++s1).map (·.1)).Perm ([88,87,85,84,82,81,79,78,77,76,74,73,71,70,68,67,66,64,63,61,60,59]++[1,2,5,6,7,8]):=by
  simp_all
 have hmem:∀ j,j∈([88,87,85,84,82,81,79,78,77,76,74,73,71,70,68,67,66,64,63,61,60,59]++[1,2,5,6,7,8]:List Nat)→j∈(Lq++s1).map (·.1):=λj hj=>hk0.mem_iff.2 hj;refine aAU λp hp=>?_;have hXE:∀ vs:Nat→Bool,vs=(λj=>if j=62 then lD o.Device le 12 else if j=65 then lD o.Old 1 12 else if j=69 then lD o.Role 1 3 else if j=72 then lD o.N 0 2147483647 else if j=75 then lD o.Wait 0 2147483647 else if j=80 then lD o.Need nd mo else if j=83 then gN o.Epoch else if j=86 then gN o.Of else if j=89 then Eu o.Pub else me)→([⟨5,1,62,1⟩,⟨9,2,65,2⟩,⟨11,4,66,0⟩,⟨15,8,69,3⟩,⟨19,64,72,4⟩,⟨23,4096,75,5⟩,⟨29,2048,80,6⟩,⟨33,32,83,7⟩,⟨37,512,86,8⟩,⟨41,16384,89,9⟩]:List IE).map (λe=>(e.k,vs e.s))=Cz o:=λvs hv=>by subst hv;rw [hE];rfl
 obtain ⟨vs,hvs⟩:∃ vs:Nat→Bool,vs=(λj=>if j=62 then lD o.Device le 12 else if j=65 then lD o.Old 1 12 else if j=69 then lD o.Role 1 3 else if j=72 then lD o.N 0 2147483647 else if j=75 then lD o.Wait 0 2147483647 else if j=80 then lD o.Need nd mo else if j=83 then gN o.Epoch else if j=86 then gN o.Of else if j=89 then Eu o.Pub else me):=⟨_,rfl⟩
 refine aD9 (P:=PQ) (G:=G) (p:=p) (Q:=[39,38,35,34,31,30,27,26,25,24,21,20,17,16,13,12,10,7,6,3,2,1]) (m:=58) (z:=42) (y:=43) (dz:=90) (dy:=91) (r0:=0) (cs:=[⟨4,62,bC,[.tmp 60,.tmp 61,.const (.int .i64 12)]⟩,⟨8,65,bC,[.tmp 64,.const (.int .i64 1),.const (.int .i64 12)]⟩,⟨14,69,bC,[.tmp 68,.const (.int .i64 1),.const (.int .i64 3)]⟩,⟨18,72,bC,[.tmp 71,.const (.int .i64 0),.const (.int .i64 2147483647)]⟩,⟨22,75,bC,[.tmp 74,.const (.int .i64 0),.const (.int .i64 2147483647)]⟩,⟨28,80,bC,[.tmp 77,.tmp 78,.tmp 79]⟩,⟨32,83,dJ,[.tmp 82]⟩,⟨36,86,dJ,[.tmp 85]⟩,⟨40,89,gP,[.tmp 88]⟩]) (es:=[⟨5,1,62,1⟩,⟨9,2,65,2⟩,⟨11,4,66,0⟩,⟨15,8,69,3⟩,⟨19,64,72,4⟩,⟨23,4096,75,5⟩,⟨29,2048,80,6⟩,⟨33,32,83,7⟩,⟨37,512,86,8⟩,⟨41,16384,89,9⟩]) (s0:=Lq++s1) (T0:=[some (.box o.A)])
  (vs:=vs) ?_ ?_ ?_ ?_ ?_ ?_ ?_ (by decide) ?_ ?_ ?_ (by decide) ?_ 23 false false 0 [] _ _ (B8 _) Po (λe h=>by simp at h) ?_ ?_ (.inr ⟨rfl,rfl⟩) (by decide)
 ·rw [hp];constructor<;>decide +kernel
 ·rw [hp];rfl
 ·rw [hp];simp
 ·rw [hp];simp
 ·rw [hp];rfl
 ·rw [hp];rfl
 ·exact ((hk0.append_right _).nodup_iff).2 (by decide)
 ·intro c hc s T K' hs hk;have e59:aP s 59=.ptr 0 5:=(hs 59 (hmem 59 (by decide))).trans (by rw [hLq];rfl);have e60:aP s 60=iv o.Device:=(hs 60 (hmem 60 (by decide))).trans (by rw [hLq];rfl);have e61:aP s 61=iv le:=(hs 61 (hmem 61 (by decide))).trans (by rw [hLq];rfl);have e63:aP s 63=.ptr 0 6:=(hs 63 (hmem 63 (by decide))).trans (by rw [hLq];rfl);have e64:aP s 64=iv o.Old:=(hs 64 (hmem 64 (by decide))).trans (by rw [hLq];rfl);have e66:aP s 66=.v (.bool me):=(hs 66 (hmem 66 (by decide))).trans (by rw [hLq];rfl);have e67:aP s 67=.ptr 0 8:=(hs 67 (hmem 67 (by decide))).trans (by rw [hLq];rfl);have e68:aP s 68=iv o.Role:=(hs 68 (hmem 68 (by decide))).trans (by rw [hLq];rfl);have e70:aP s 70=.ptr 0 13:=(hs 70 (hmem 70 (by decide))).trans (by rw [hLq];rfl);have e71:aP s 71=iv o.N:=(hs 71 (hmem 71 (by decide))).trans (by rw [hLq];rfl);have e73:aP s 73=.ptr 0 21:=(hs 73 (hmem 73 (by decide))).trans (by rw [hLq];rfl);have e74:aP s 74=iv o.Wait:=(hs 74 (hmem 74 (by decide))).trans (by rw [hLq];rfl);have e76:aP s 76=.ptr 0 20:=(hs 76 (hmem 76 (by decide))).trans (by rw [hLq];rfl);have e77:aP s 77=iv o.Need:=(hs 77 (hmem 77 (by decide))).trans (by rw [hLq];rfl);have e78:aP s 78=iv nd:=(hs 78 (hmem 78 (by decide))).trans (by rw [hLq];rfl);have e79:aP s 79=iv mo:=(hs 79 (hmem 79 (by decide))).trans (by rw [hLq];rfl);have e81:aP s 81=.ptr 0 10:=(hs 81 (hmem 81 (by decide))).trans (by rw [hLq];rfl);have e82:aP s 82=.ag o.Epoch.A:=(hs 82 (hmem 82 (by decide))).trans (by rw [hLq];rfl);have e84:aP s 84=.ptr 0 16:=(hs 84 (hmem 84 (by decide))).trans (by rw [hLq];rfl);have e85:aP s 85=.ag o.Of.A:=(hs 85 (hmem 85 (by decide))).trans (by rw [hLq];rfl);have e87:aP s 87=.ptr 0 23:=(hs 87 (hmem 87 (by decide))).trans (by rw [hLq];rfl);have e88:aP s 88=uv o.Pub:=(hs 88 (hmem 88 (by decide))).trans (by rw [hLq];rfl);have e1:aP s 1=iv (k:Int):=(hs 1 (hmem 1 (by decide))).trans (by rw [hLq];exact g1);have e2:aP s 2=.ptr 0 0:=(hs 2 (hmem 2 (by decide))).trans (by rw [hLq];exact g2);have e5:aP s 5=iv le:=(hs 5 (hmem 5 (by decide))).trans (by rw [hLq];exact g5);have e6:aP s 6=iv nd:=(hs 6 (hmem 6 (by decide))).trans (by rw [hLq];exact g6);have e7:aP s 7=iv mo:=(hs 7 (hmem 7 (by decide))).trans (by rw [hLq];exact g7);have e8:aP s 8=.v (.bool me):=(hs 8 (hmem 8 (by decide))).trans (by rw [hLq];exact g8);simp only [jB,qS,or_false] at hc;subst hvs;rcases hc with rfl | rfl | rfl | rfl | rfl | rfl | rfl | rfl | rfl<;>simp only [fE,mE,cQ,e60,e61,e64,e68,e71,e74,e77,e78,e79,e82,e85,e88]
  ·exact aB (aA _) rfl (pN o.Device le 12) rfl hk
  ·exact aB (aA _) rfl (pN o.Old 1 12) rfl hk
  ·exact aB (aA _) rfl (pN o.Role 1 3) rfl hk
  ·exact aB (aA _) rfl (pN o.N 0 2147483647) rfl hk
  ·exact aB (aA _) rfl (pN o.Wait 0 2147483647) rfl hk
  ·exact aB (aA _) rfl (pN o.Need nd mo) rfl hk
  ·exact aB (aA _) rfl (BV o.Epoch) rfl hk
  ·exact aB (aA _) rfl (BV o.Of) rfl hk
  ·exact aB (aA _) rfl (yH o.Pub) rfl hk
 ·intro e he;simp only [jB,qS,or_false] at he;subst hvs;rcases he with rfl | rfl | rfl | rfl | rfl | rfl | rfl | rfl | rfl | rfl
  ·exact .inr ⟨_,rfl,by decide,rfl⟩
  ·exact .inr ⟨_,rfl,by decide,rfl⟩
  ·exact .inl ⟨hmem 66 (by decide),by rw [hLq];rfl⟩
  ·exact .inr ⟨_,rfl,by decide,rfl⟩
  ·exact .inr ⟨_,rfl,by decide,rfl⟩
  ·exact .inr ⟨_,rfl,by decide,rfl⟩
  ·exact .inr ⟨_,rfl,by decide,rfl⟩
  ·exact .inr ⟨_,rfl,by decide,rfl⟩
  ·exact .inr ⟨_,rfl,by decide,rfl⟩
  ·exact .inr ⟨_,rfl,by decide,rfl⟩
 ·intro s T hs hT q hqm o' ho';have eT:T[0]?=some (some (.box o.A)):=aZ (hT 0 Nat.zero_lt_one);have e59:aP s 59=.ptr 0 5:=(hs 59 (hmem 59 (by decide))).trans (by rw [hLq];rfl);have e60:aP s 60=iv o.Device:=(hs 60 (hmem 60 (by decide))).trans (by rw [hLq];rfl);have e61:aP s 61=iv le:=(hs 61 (hmem 61 (by decide))).trans (by rw [hLq];rfl);have e63:aP s 63=.ptr 0 6:=(hs 63 (hmem 63 (by decide))).trans (by rw [hLq];rfl);have e64:aP s 64=iv o.Old:=(hs 64 (hmem 64 (by decide))).trans (by rw [hLq];rfl);have e66:aP s 66=.v (.bool me):=(hs 66 (hmem 66 (by decide))).trans (by rw [hLq];rfl);have e67:aP s 67=.ptr 0 8:=(hs 67 (hmem 67 (by decide))).trans (by rw [hLq];rfl);have e68:aP s 68=iv o.Role:=(hs 68 (hmem 68 (by decide))).trans (by rw [hLq];rfl);have e70:aP s 70=.ptr 0 13:=(hs 70 (hmem 70 (by decide))).trans (by rw [hLq];rfl);have e71:aP s 71=iv o.N:=(hs 71 (hmem 71 (by decide))).trans (by rw [hLq];rfl);have e73:aP s 73=.ptr 0 21:=(hs 73 (hmem 73 (by decide))).trans (by rw [hLq];rfl);have e74:aP s 74=iv o.Wait:=(hs 74 (hmem 74 (by decide))).trans (by rw [hLq];rfl);have e76:aP s 76=.ptr 0 20:=(hs 76 (hmem 76 (by decide))).trans (by rw [hLq];rfl);have e77:aP s 77=iv o.Need:=(hs 77 (hmem 77 (by decide))).trans (by rw [hLq];rfl);have e78:aP s 78=iv nd:=(hs 78 (hmem 78 (by decide))).trans (by rw [hLq];rfl);have e79:aP s 79=iv mo:=(hs 79 (hmem 79 (by decide))).trans (by rw [hLq];rfl);have e81:aP s 81=.ptr 0 10:=(hs 81 (hmem 81 (by decide))).trans (by rw [hLq];rfl);have e82:aP s 82=.ag o.Epoch.A:=(hs 82 (hmem 82 (by decide))).trans (by rw [hLq];rfl);have e84:aP s 84=.ptr 0 16:=(hs 84 (hmem 84 (by decide))).trans (by rw [hLq];rfl);have e85:aP s 85=.ag o.Of.A:=(hs 85 (hmem 85 (by decide))).trans (by rw [hLq];rfl);have e87:aP s 87=.ptr 0 23:=(hs 87 (hmem 87 (by decide))).trans (by rw [hLq];rfl);have e88:aP s 88=uv o.Pub:=(hs 88 (hmem 88 (by decide))).trans (by rw [hLq];rfl);have e1:aP s 1=iv (k:Int):=(hs 1 (hmem 1 (by decide))).trans (by rw [hLq];exact g1);have e2:aP s 2=.ptr 0 0:=(hs 2 (hmem 2 (by decide))).trans (by rw [hLq];exact g2);have e5:aP s 5=iv le:=(hs 5 (hmem 5 (by decide))).trans (by rw [hLq];exact g5);have e6:aP s 6=iv nd:=(hs 6 (hmem 6 (by decide))).trans (by rw [hLq];exact g6);have e7:aP s 7=iv mo:=(hs 7 (hmem 7 (by decide))).trans (by rw [hLq];exact g7);have e8:aP s 8=.v (.bool me):=(hs 8 (hmem 8 (by decide))).trans (by rw [hLq];exact g8);rw [hp] at ho';simp only [jB,qS,or_false] at hqm;rcases hqm with rfl | rfl | rfl | rfl | rfl | rfl | rfl | rfl | rfl | rfl | rfl | rfl | rfl | rfl | rfl | rfl | rfl | rfl | rfl | rfl | rfl | rfl<;>(obtain rfl:=Option.some.inj ho';simp only [go_sem,eT,e59,e60,e61,e63,e64,e66,e67,e68,e70,e71,e73,e74,e76,e77,e78,e79,e81,e82,e84,e85,e87,e88,e2,e5,e6,e7,e8])
 ·intro X hX;rw [hXE vs hvs] at hX;have hX2:X.Perm (Cz o):=hX;have hall:MD k X=MD k (Cz o):=by
   unfold MD;rw [rX,lF,lF];exact ⟨λh x hx=>h x (hX2.mem_iff.2 hx),λh x hx=>h x (hX2.mem_iff.1 hx)⟩
  have hkX:∀ e∈X,∃ j:Nat,e.1=(j:Int)∧j<65536:=λe he=>by
   have:=hX2.mem_iff.1 he;simp only [Cz,jB,qS,or_false] at this;rcases this with rfl | rfl | rfl | rfl | rfl | rfl | rfl | rfl | rfl | rfl
   ·exact ⟨1,rfl,by decide⟩
   ·exact ⟨2,rfl,by decide⟩
   ·exact ⟨4,rfl,by decide⟩
   ·exact ⟨8,rfl,by decide⟩
   ·exact ⟨64,rfl,by decide⟩
   ·exact ⟨4096,rfl,by decide⟩
   ·exact ⟨2048,rfl,by decide⟩
   ·exact ⟨32,rfl,by decide⟩
   ·exact ⟨512,rfl,by decide⟩
   ·exact ⟨16384,rfl,by decide⟩
  have hlen:X.length=10:=hX2.length_eq;rw [←hall] at hrest;clear hX hX2 hE hXE hall;have hgc:=Qc (r:=0) (T:=[some (.box o.A)]++[some (MP X),some (.mit (some 1) X.length [] X.length)]) (s:=(91,.ptr 2 0)::(90,.mp 1)::NH 58 [⟨4,62,bC,[.tmp 60,.tmp 61,.const (.int .i64 12)]⟩,⟨8,65,bC,[.tmp 64,.const (.int .i64 1),.const (.int .i64 12)]⟩,⟨14,69,bC,[.tmp 68,.const (.int .i64 1),.const (.int .i64 3)]⟩,⟨18,72,bC,[.tmp 71,.const (.int .i64 0),.const (.int .i64 2147483647)]⟩,⟨22,75,bC,[.tmp 74,.const (.int .i64 0),.const (.int .i64 2147483647)]⟩,⟨28,80,bC,[.tmp 77,.tmp 78,.tmp 79]⟩,⟨32,83,dJ,[.tmp 82]⟩,⟨36,86,dJ,[.tmp 85]⟩,⟨40,89,gP,[.tmp 88]⟩] (Lq++s1) 1 vs true 9) (t:=(91,.ptr 2 0)::(90,.mp 1)::NH 58 [⟨4,62,bC,[.tmp 60,.tmp 61,.const (.int .i64 12)]⟩,⟨8,65,bC,[.tmp 64,.const (.int .i64 1),.const (.int .i64 12)]⟩,⟨14,69,bC,[.tmp 68,.const (.int .i64 1),.const (.int .i64 3)]⟩,⟨18,72,bC,[.tmp 71,.const (.int .i64 0),.const (.int .i64 2147483647)]⟩,⟨22,75,bC,[.tmp 74,.const (.int .i64 0),.const (.int .i64 2147483647)]⟩,⟨28,80,bC,[.tmp 77,.tmp 78,.tmp 79]⟩,⟨32,83,dJ,[.tmp 82]⟩,⟨36,86,dJ,[.tmp 85]⟩,⟨40,89,gP,[.tmp 88]⟩] (Lq++[(1,iv k),(2,.ptr 0 0),(5,iv le),(6,iv nd),(7,iv mo),(8,.v (.bool me))]) 1 vs true 9)
   ?_ ((((hp1.append_left Lq).append_right _).cons _).cons _)
  ·rw [show ([some (AObj.box o.A)]:aH).length=1 from rfl,show ([⟨4,62,bC,[.tmp 60,.tmp 61,.const (.int .i64 12)]⟩,⟨8,65,bC,[.tmp 64,.const (.int .i64 1),.const (.int .i64 12)]⟩,⟨14,69,bC,[.tmp 68,.const (.int .i64 1),.const (.int .i64 3)]⟩,⟨18,72,bC,[.tmp 71,.const (.int .i64 0),.const (.int .i64 2147483647)]⟩,⟨22,75,bC,[.tmp 74,.const (.int .i64 0),.const (.int .i64 2147483647)]⟩,⟨28,80,bC,[.tmp 77,.tmp 78,.tmp 79]⟩,⟨32,83,dJ,[.tmp 82]⟩,⟨36,86,dJ,[.tmp 85]⟩,⟨40,89,gP,[.tmp 88]⟩]:List CE).length=9 from rfl,hgc,hLq];simp only [go_sem,NH];clear hgc;refine jE (λn st=>∃ seen:List Nat,n=10-seen.length∧seen.Nodup∧(∀ b∈seen,b<X.length)∧(∀ b∈seen,∀ h:b<X.length,((k &&& X[b].1.toNat==0)||X[b].2)=true)∧st=⟨0,[(1,iv k),(2,.ptr 0 0),(91,.ptr 1 0)],[some (.box o.A),some (.mit (some 2) X.length seen X.length),some (MP X)]⟩) 10 ⟨[],rfl,Po,λb hb=>by simp at hb,λb hb=>by simp at hb,?_⟩ ?_
   ·simp only [go_sem,MP]
   rintro n st ⟨seen,rfl,hn,hs,hok,rfl⟩;have hsl:seen.length≤10:=by
    have h1:seen.length≤(List.range X.length).length:=tU hn λb hb=>sH.2 (hs b hb);simpa [hlen] using h1
   simp only [go_sem];refine aC6 (i:=1) (j:=2) rfl rfl (cT _) (cT _) (λhall=>?_) λb hb hns=>?_
   ·have hX:MD k X=true:=by
     unfold MD;rw [lF];intro x hx;obtain ⟨j,hj,rfl⟩:=AG hx;exact hok j (hall j hj) hj
    rw [hX,kN] at hrest;have q1:=ho.guards.1;have q2:=ho.refs.1;have q3:=ho.past.1;have q4:=ho.path.1;have q5:=ho.boxes.1;have q6:=ho.hist.1;simp only [go_sem]
    repeat' (first
     | ((with_reducible refine aK (λh=>?_) (λh=>?_))<;>(try simp only [rW,lG,lR] at h)<;>simp only [go_sem,h,undef])
     | (with_reducible refine cK (f:=vQ) ?_;refine aB (aA _) rfl (WR sX uO o.Guards (by omega) λx _=>Sr x) rfl ?_;simp only [go_sem,undef])
     | (with_reducible refine cK (f:=pK) ?_;refine aB (aA _) rfl (WU BP OU o.Refs (by omega) λx _=>I9 (x:Int)) rfl ?_;simp only [go_sem,undef])
     | (with_reducible refine cK (f:=lJ) ?_;refine aB (aA _) rfl (Yf dJ gN o.Past (by omega) λx _=>BV x) rfl ?_;simp only [go_sem,undef])
     | (with_reducible refine cK (f:=hZ) ?_;refine aB (aA _) rfl (Kk sV C0 o.Path (by omega) λx hx=>Sp x (ho.path.2 x hx)) rfl ?_;simp only [go_sem,undef])
     | (with_reducible refine cK (f:=kQ) ?_;refine aB (aA _) rfl (NC sM sI o.Boxes (by omega) λx _=>Kf x) rfl ?_;simp only [go_sem,undef])
     | (with_reducible refine cK (f:=fP) ?_;refine aB (aA _) rfl (Kl sW C1 o.Hist (by omega) λx _=>Sq x) rfl ?_;simp only [go_sem,undef]))
    all_goals rw [hrest]
    all_goals simp [*]
   ·obtain ⟨j,h1,h2⟩:=hkX X[b] (iN hb);have h3:(X.map λe=>[Value.int .i64 e.1])[b]?=some [.int .i64 (j:Int)]:=by simp [hb,h1]
    have h4:(X.map λe=>AV.v (.bool e.2))[b]?=some (.v (.bool X[b].2)):=by simp [hb]
    have hkv:gY false [Value.int .i64 (j:Int)]=.int .i64 (j:Int):=bJ rfl rfl;have hor:=WM k j hk h2;have hfin:((k &&& X[b].1.toNat==0)||X[b].2)=true→∃ m,m<10-seen.length∧∃ seen':List Nat,m=10-seen'.length∧seen'.Nodup∧(∀ b∈seen',b<X.length)∧(∀ b∈seen',∀ h:b<X.length,((k &&& X[b].1.toNat==0)||X[b].2)=true)∧(⟨0,[(1,iv k),(2,.ptr 0 0),(91,.ptr 1 0)],[some (.box o.A),some (.mit (some 2) X.length (seen++[b]) X.length),some (MP X)]⟩:St)=⟨0,[(1,iv k),(2,.ptr 0 0),(91,.ptr 1 0)],[some (.box o.A),some (.mit (some 2) X.length seen' X.length),some (MP X)]⟩:=λhv=>by
     have hn2:(seen++[b]).Nodup:=H9.2 ⟨hn,by simp,λx hx y hy e=>hns (by rw [iU] at hy;rw [←hy,←e];exact hx)⟩;have hl2:(seen++[b]).length≤(List.range X.length).length:=tU hn2 λx hx=>sH.2 ((eM.1 hx).elim (hs x) λh=>by rw [iU.1 h];exact hb);simp [hlen] at hl2;refine ⟨10-(seen++[b]).length,by simp;omega,seen++[b],rfl,hn2,λx hx=>(eM.1 hx).elim (hs x) λh=>by rw [iU.1 h];exact hb,λx hx hxl=>?_,rfl⟩;rcases eM.1 hx with h | h
     ·exact hok x h hxl
     ·obtain rfl:=iU.1 h;exact hv
    have hbad:((k &&& X[b].1.toNat==0)||X[b].2)=false→zW o k=false:=λhv=>by
     rw [hrest];have:MD k X=false:=by
      unfold MD;rw [List.all_eq_false];exact ⟨X[b],iN hb,by rw [hv];simp⟩
     rw [this,kC]
    rw [h1] at hfin hbad;simp only [Lp] at hfin hbad;have hne:(((k &&& j:Nat):Int)!=0)=!(k &&& j==0):=by rw [rX];simp
    generalize X[b].2=t at h4 hfin hbad;simp only [go_sem,MP,Xg,zT hb,h3,h4,↓hkv,↓hor,hne,h1];generalize (k &&& j==0)=u at hfin hbad;cases u<;>cases t<;>simp only [go_sem,MP]
    all_goals first
     | exact hfin rfl
     | rw [hbad rfl]
  ·have hpm:(((91,AV.ptr 2 0)::(90,AV.mp 1)::NH 58 [⟨4,62,bC,[.tmp 60,.tmp 61,.const (.int .i64 12)]⟩,⟨8,65,bC,[.tmp 64,.const (.int .i64 1),.const (.int .i64 12)]⟩,⟨14,69,bC,[.tmp 68,.const (.int .i64 1),.const (.int .i64 3)]⟩,⟨18,72,bC,[.tmp 71,.const (.int .i64 0),.const (.int .i64 2147483647)]⟩,⟨22,75,bC,[.tmp 74,.const (.int .i64 0),.const (.int .i64 2147483647)]⟩,⟨28,80,bC,[.tmp 77,.tmp 78,.tmp 79]⟩,⟨32,83,dJ,[.tmp 82]⟩,⟨36,86,dJ,[.tmp 85]⟩,⟨40,89,gP,[.tmp 88]⟩] (Lq++s1) 1 vs true 9).map (·.1)).Perm (91::90::(([88,87,85,84,82,81,79,78,77,76,74,73,71,70,68,67,66,64,63,61,60,59]++[1,2,5,6,7,8])++[62,65,69,72,75,80,83,86,89,58])):=by
    simp only [fE];refine List.Perm.cons _ (List.Perm.cons _ ?_);rw [NH,jA];exact hk0.append_right _
   exact hpm.nodup_iff.2 (by decide)
 ·simp only [NH,kB,if_false,rY,mE,nR,hLq];exact List.Perm.refl _
 ·intro j;simp
end
end
section
def AX {α:Type} {lt:α→α→Bool}:∀ {l:List α},kU lt l=true↔∀ j (h:j+1<l.length),lt l[j] l[j+1]=true
 | []=>by simp [kU]
 | [x]=>by simp [kU]
 | x::y::l=>by
  simp only [kU,lN,AX (l:=y::l)];constructor
  ·grind
  ·intro h;exact ⟨h 0 (by simp),λj hj=>h (j+1) (by simpa using hj)⟩
def Uo {α:Type} {lt:α→α→Bool} {l:List α} {i:Nat} (hi:i+1<l.length) (h:lt l[i] l[i+1]=false):kU lt l=false:=by
 cases e:kU lt l with
 | false=>rfl
 | true=>have:=AX.1 e i hi;rw [h] at this;simp at this
section
variable {G:Nat→Option (List AV)}
set_option maxHeartbeats 4000000
def aDa (o:OpM) (ho:o.ok):aC PQ G BO [.ag o.A] [] λr T=>r=.v (.bool (Bz o))∧T=[]:=by
 refine aD L9 (by decide) ?_;have l1:=ho.path.1;have l2:=ho.hist.1;simp only [go_sem];refine aJ o.Path.length (λi=>⟨0,[(1,.ptr 0 0),(3,iv i)],[some (.box o.A)]⟩) (λi=>∀ j (hj:j<o.Path.length),j<i→(λn:NodeM=>decide ((n.Boxes.length:Int)≤12)) o.Path[j]=true) ?_ (by intro j hj h;omega) ?_ ?_
 ·simp only [go_sem]
 ·intro i hi hJ;have g0:(o.Path.map NodeM.A)[i]?=some [uv o.Path[i].Pub,De o.Path[i].Boxes]:=aI _ o.Path i hi;simp only [go_sem,aL,bG hi,g0]
  repeat' (first
   | ((with_reducible refine aK (λh=>?_) (λh=>?_))<;>(try simp only [rW,lG,lR] at h)<;>simp only [go_sem,aL,hi,g0,aF (show i<9223372036854775807 by omega),h,undef]))
  all_goals first
   | (refine rO (p:=λn:NodeM=>decide ((n.Boxes.length:Int)≤12)) hi hJ ?_;clear hJ g0;generalize o.Path[i]=x at *;simp at *;omega)
   | (have e:=B3 (p:=λn:NodeM=>decide ((n.Boxes.length:Int)≤12)) hi (by clear hJ g0;generalize o.Path[i]=x at *;simp at *;omega);simp only [Bz,e,lR,EG,FW])
 intro hJ;have h3:=yL (p:=λn:NodeM=>decide ((n.Boxes.length:Int)≤12)) hJ;clear hJ;simp only [go_sem,aL,aX (cN _)];refine aJ o.Hist.length (λi=>⟨0,[(1,.ptr 0 0),(4,iv i)],[some (.box o.A)]⟩) (λi=>∀ j (hj:j<o.Hist.length),j<i→(λx:SealM=>decide ((x.Body.length:Int)≤208)) o.Hist[j]=true) ?_ (by intro j hj h;omega) ?_ ?_
 ·simp only [go_sem]
 ·intro i hi hJ;have g0:(o.Hist.map SealM.A)[i]?=some [.v (.int .i64 o.Hist[i].Of.a),.v (.int .i64 o.Hist[i].Of.b),.v (.int .u64 o.Hist[i].Of.c),.ls 1 (bl o.Hist[i].Body)]:=aI _ o.Hist i hi;simp only [go_sem,aL,bG hi,g0]
  repeat' (first
   | ((with_reducible refine aK (λh=>?_) (λh=>?_))<;>(try simp only [rW,lG,lR] at h)<;>simp only [go_sem,aL,hi,g0,aF (show i<9223372036854775807 by omega),h,undef]))
  all_goals first
   | (refine rO (p:=λx:SealM=>decide ((x.Body.length:Int)≤208)) hi hJ ?_;clear hJ g0;generalize o.Hist[i]=x at *;simp at *;omega)
   | (have e:=B3 (p:=λx:SealM=>decide ((x.Body.length:Int)≤208)) hi (by clear hJ g0;generalize o.Hist[i]=x at *;simp at *;omega);simp only [Bz,e,lR,EG,FW])
 intro hJ;have h4:=yL (p:=λx:SealM=>decide ((x.Body.length:Int)≤208)) hJ;clear hJ;simp only [go_sem,aL,aX (cN _)]
 repeat' (first
  | ((with_reducible refine aK (λh=>?_) (λh=>?_))<;>(try simp only [rW,lG,lR] at h)<;>simp only [go_sem,aL,h,undef])
  | (with_reducible refine cK (f:=cM) ?_;refine aB (aA _) rfl (Cx _ _ _) rfl ?_;simp only [go_sem,aL,undef]))
 all_goals simp only [Bz, *,lG,EG,FW,Mp,FY,if_true,if_false,kB]
def aAV (o:OpM) (ho:o.ok):aC PQ G Cl [.ag o.A] [] λr T=>r=.v (.int .i64 (fS o))∧T=[]:=by
 refine aD KQ (by decide) ?_;have l1:=ho.past.1;have l2:=ho.guards.1;have fin:∀ {a b:Int},a=b→AV.v (.int .i64 a)=.v (.int .i64 b):=λh=>by rw [h]
 simp only [go_sem]
 repeat' (first
  | ((with_reducible refine aK (λh=>?_) (λh=>?_))<;>(try simp only [rW,lG,lR] at h)<;>simp only [go_sem,aL,gt_iff_lt,h,undef])
  | (with_reducible refine cK (f:=BN) ?_;refine aB (aA _) rfl (aCY o) rfl ?_;simp only [go_sem,aL,gt_iff_lt,undef])
  | (with_reducible refine cK (f:=sU) ?_;refine aB (aA _) rfl (Wd o) rfl ?_;simp only [go_sem,aL,gt_iff_lt,undef])
  | (with_reducible refine cK (f:=yC) ?_;refine aB (aA _) rfl (aAS o ho) rfl ?_;simp only [go_sem,aL,gt_iff_lt,undef])
  | (with_reducible refine cK (f:=BO) ?_;refine aB (aA _) rfl (aDa o ho) rfl ?_;simp only [go_sem,aL,gt_iff_lt,undef]))
 all_goals try (simp only [decide_eq_true_eq,decide_eq_false_iff_not] at *;simp [fS, *];done)
 rename_i h1 h2 h3 h4 h5;have h6:=h;clear h;simp only [decide_eq_false_iff_not] at h1 h2;have hpre:fS o=if kU Id.lt o.Past=false then 6 else if kU (λa b:Int=>decide (a<b)) o.Guards=false then 6 else if decide (o.Past.length=0)≠decide (o.Kind=1) then 10 else 0:=by
  grind [fS]
 refine aJ (o.Past.length-1) (λi=>⟨0,[(1,.ptr 0 0),(3,iv ((i+1:Nat):Int))],[some (.box o.A)]⟩) (λi=>∀ j (hj:j+1<o.Past.length),j<i→o.Past[j].lt o.Past[j+1]=true) ?_ (by intro j hj h;omega) ?_ ?_
 ·simp only [go_sem]
 ·intro i hi hJ;have g0:(o.Past.map Id.A)[i]?=some o.Past[i].A:=aI _ o.Past i (by omega);have g1:(o.Past.map Id.A)[i+1]?=some o.Past[i+1].A:=aI _ o.Past (i+1) (by omega);simp only [go_sem,aL,bG (show i+1<o.Past.length by omega),g0,g1,Dd (show i<9223372036854775807 by omega)];refine aB (aA _) rfl (Kv o.Past[i] o.Past[i+1]) rfl ?_;simp only [go_sem];refine aK (λh=>?_) (λh=>?_)<;>simp only [go_sem,aF (show i+1<9223372036854775807 by omega)]
  ·rw [hpre,if_pos (Uo (show i+1<o.Past.length by omega) (by simpa using h))]
  ·grind
 intro hJ;have hr1:kU Id.lt o.Past=true:=AX.2 λj hj=>hJ j hj (by omega);rw [if_neg (by simp [hr1])] at hpre;simp only [go_sem,aL,aX (show ¬(o.Past.length-1+1<o.Past.length) by omega)];clear hJ;refine aJ (o.Guards.length-1) (λi=>⟨0,[(1,.ptr 0 0),(4,iv ((i+1:Nat):Int))],[some (.box o.A)]⟩) (λi=>∀ j (hj:j+1<o.Guards.length),j<i→decide (o.Guards[j]<o.Guards[j+1])=true) ?_ (by intro j hj h;omega) ?_ ?_
 ·simp only [go_sem]
 ·intro i hi hJ;have g0:(o.Guards.map λn=>[iv n])[i]?=some [iv o.Guards[i]]:=aI _ o.Guards i (by omega);have g1:(o.Guards.map λn=>[iv n])[i+1]?=some [iv o.Guards[i+1]]:=aI _ o.Guards (i+1) (by omega);simp only [go_sem,aL,bG (show i+1<o.Guards.length by omega),g0,g1,Dd (show i<9223372036854775807 by omega)];refine aK (λh=>?_) (λh=>?_)<;>simp only [go_sem,aF (show i+1<9223372036854775807 by omega)]
  ·rw [hpre,if_pos (Uo (show i+1<o.Guards.length by omega) (by simp at h ⊢;omega))]
  ·grind
 intro hJ;have hr2:kU (λa b:Int=>decide (a<b)) o.Guards=true:=AX.2 λj hj=>hJ j hj (by omega);rw [if_neg (by simp [hr2])] at hpre;simp only [go_sem,aL,aX (show ¬(o.Guards.length-1+1<o.Guards.length) by omega)];rw [hpre];have hp:((o.Past.length:Int)==0)=decide (o.Past.length=0):=by grind
 have hk:(o.Kind==1)=decide (o.Kind=1):=rfl;rw [hp,hk];generalize decide (o.Past.length=0)=a;generalize decide (o.Kind=1)=b;cases a<;>cases b<;>simp only [go_sem]<;>rfl
end
end
section
def GK (G:Nat→Option (List AV)):Prop:=G F2=some (nI.map λn:Nat=>iv (n:Int))
def Ol (a b:Nat) (ha:a<65536) (hb:b<65536):bM .andNot (.int .i64 (a:Int)) (.int .i64 (b:Int))=some (.int .i64 ((kL a b:Nat):Int)):=by
 have hc:kL a b<65536:=by
  unfold kL;rw [Xp];refine Mg Xr ?_;rw [BitVec.toNat_ofNat];omega
 have h1:(BitVec.ofInt IntKind.i64.bits (a:Int) &&& ~~~(BitVec.ofInt IntKind.i64.bits (b:Int))).toNat=kL a b:=by
  show (BitVec.ofInt 64 (a:Int) &&& ~~~(BitVec.ofInt 64 (b:Int))).toNat=kL a b;unfold kL;rw [BitVec.ofInt_natCast,BitVec.ofInt_natCast]
 simp only [bM,if_true,h1];rw [bF (by omega) (by omega)]
def rr {α:Type} (lt:α→α→Bool) (d:α) (l:List α) (i:Nat):Bool:=(List.range i).all λj=>lt (l.getD j d) (l.getD (j+1) d)
def Ys {α:Type} {lt:α→α→Bool} {d:α} {l:List α} {i:Nat} (hi:i+1<l.length):rr lt d l (i+1)=(rr lt d l i&&lt l[i] l[i+1]):=by
 unfold rr;rw [Pe,T8];simp [uW,nQ hi,nQ (show i<l.length by omega)]
def Yt {α:Type} {lt:α→α→Bool} {d:α} {l:List α}:rr lt d l (l.length-1)=kU lt l:=by
 rw [rX,AX];unfold rr;rw [lF];constructor
 ·intro h j hj;have:=h j (sH.2 (by omega));simpa [uW,nQ hj,nQ (show j<l.length by omega)] using this
 ·intro h j hj;have hj:=sH.1 hj;have:=h j (by omega);simpa [uW,nQ (show j+1<l.length by omega),nQ (show j<l.length by omega)] using this
section
variable {G:Nat→Option (List AV)}
set_option maxHeartbeats 4000000
def Ss (hK:GK G) (o:OpM) (ho:o.ok):aC PQ G E4 [.ag o.A] [] λr T=>r=.v (.int .i64 (rK o))∧T=[]:=by
 refine aD MA (by decide) ?_;obtain ⟨c,hc⟩:∃ c,c=nI.map λn:Nat=>iv (n:Int):=⟨_,rfl⟩
 have hG:G F2=some c:=by rw [hc];exact hK
 have hpk:(0:Int)≤o.Kind→o.Kind<14→(c.drop o.Kind.toNat)[0]?=some (iv (sC o.Kind:Nat)):=λh1 h2=>by
  subst hc;obtain ⟨n,hn⟩:∃ n:Nat,o.Kind=(n:Int):=⟨o.Kind.toNat,by omega⟩
  rw [hn,sC,Lp];have:n<14:=by omega
  clear h1 h2 hn;have key:∀ n,n<14→((nI.map λn:Nat=>iv (n:Int)).drop n)[0]?=some (iv ((nI.getD n 0:Nat):Int)):=λn h=>by
   rw [FV,wK,lO,uW];have:n<nI.length:=h;simp [this]
  exact key n this
 clear hc hK;simp only [go_sem];refine aK (λh=>?_) (λh=>?_)<;>simp only [rW,lG,lR,decide_eq_false_iff_not,decide_eq_true_eq] at h;rotate_left
 ·simp only [go_sem,decide_eq_true h];rw [rK,if_pos (.inl h)]
 have k1:=h;simp only [go_sem,gt_iff_lt,decide_eq_false k1];refine aK (λh=>?_) (λh=>?_)<;>simp only [rW,lG,lR,decide_eq_false_iff_not,decide_eq_true_eq] at h;rotate_left
 ·simp only [go_sem,decide_eq_true h,undef];rw [rK,if_pos (.inr h)]
 have k2:=h;have hgk:=hpk (by omega) (by omega);have p1:0≤o.Kind:=by omega
 have p2:o.Kind<14:=by omega
 have hpre:rK o=if kL (oI (gO o)) (sC o.Kind)≠0 then 1 else if zW o (sC o.Kind)=false then 8 else if Bz o then 2 else if Yc o=false then 6 else if decide (o.Past.length=0)≠decide (o.Kind=1) then 10 else 0:=by
  rw [rK,if_neg (by omega)]
 have b1:=Ol (oI (gO o)) (sC o.Kind) (Ki o) (OV o.Kind);simp only [go_sem,decide_eq_false k2,hG,hgk,p1,p2,FX];refine aB (aA _) rfl (Wg o) rfl ?_;have hz:(((kL (oI (gO o)) (sC o.Kind):Nat):Int)!=0)=decide (kL (oI (gO o)) (sC o.Kind)≠0):=by
  generalize kL (oI (gO o)) (sC o.Kind)=x;rw [rX];simp
 simp only [go_sem,hG,hgk,p1,p2,FX,↓b1,hz];refine aK (λh=>?_) (λh=>?_)<;>simp only [decide_eq_false_iff_not,decide_eq_true_eq] at h
 ·simp only [go_sem];rw [hpre,if_pos h]
 rw [if_neg h] at hpre;clear b1 hz h;have q1:=ho.past.1;have q2:=ho.guards.1;have w1:IntKind.i64.wrap ((o.Past.length:Int)-1)=(o.Past.length:Int)-1:=bF (by omega) (by omega);have w2:IntKind.i64.wrap ((o.Guards.length:Int)-1)=(o.Guards.length:Int)-1:=bF (by omega) (by omega);simp only [go_sem,aL,w1];refine aJ (o.Past.length-1) (λi=>⟨0,[(1,.ptr 0 0),(3,.v (.bool (rr Id.lt default o.Past i))),(27,iv ((o.Past.length:Int)-1)),(28,iv i)],[some (.box o.A)]⟩) (λ_=>True) ?_ trivial ?_ ?_
 ·simp only [go_sem];rfl
 ·intro i hi _;have d1:decide ((i:Int)<(o.Past.length:Int)-1)=true:=decide_eq_true (by omega);have g0:(o.Past.map Id.A)[i]?=some o.Past[i].A:=aI _ o.Past i (by omega);have g1:(o.Past.map Id.A)[i+1]?=some o.Past[i+1].A:=aI _ o.Past (i+1) (by omega);have ws:=aF (show i<9223372036854775807 by omega);rw [Ys (show i+1<o.Past.length by omega)];generalize rr Id.lt default o.Past i=b;simp only [go_sem,d1];cases b
  ·simp only [go_sem,undef,ws,kC]
  ·simp only [go_sem,ws,g0,g1];refine aB (aA _) rfl (Wb o.Past[i] o.Past[i+1]) rfl ?_;simp only [go_sem,ws,kN]
 intro _;have d1:decide (((o.Past.length-1:Nat):Int)<(o.Past.length:Int)-1)=false:=decide_eq_false (by omega);rw [Yt];simp only [go_sem,aL,d1,w2];refine aJ (o.Guards.length-1) (λi=>⟨0,[(1,.ptr 0 0),(3,.v (.bool (kU Id.lt o.Past&&rr (λa b:Int=>decide (a<b)) 0 o.Guards i))),(50,iv ((o.Guards.length:Int)-1)),(51,iv i)],[some (.box o.A)]⟩) (λ_=>True) ?_ trivial ?_ ?_
 ·simp only [go_sem,rr,JU,UC]
 ·intro i hi _;have d1:decide ((i:Int)<(o.Guards.length:Int)-1)=true:=decide_eq_true (by omega);have g0:(o.Guards.map λn=>[iv n])[i]?=some [iv o.Guards[i]]:=aI _ o.Guards i (by omega);have g1:(o.Guards.map λn=>[iv n])[i+1]?=some [iv o.Guards[i+1]]:=aI _ o.Guards (i+1) (by omega);have ws:=aF (show i<9223372036854775807 by omega);rw [Ys (show i+1<o.Guards.length by omega),←aBL];generalize (kU Id.lt o.Past&&rr (λa b:Int=>decide (a<b)) 0 o.Guards i)=b;simp only [go_sem,d1];cases b
  ·simp only [go_sem,undef,ws,kC]
  ·simp only [go_sem,ws,g0,g1,kN]
 intro _;have d2:decide (((o.Guards.length-1:Nat):Int)<(o.Guards.length:Int)-1)=false:=decide_eq_false (by omega);rw [Yt];have hrow:(kU Id.lt o.Past&&kU (λa b:Int=>decide (a<b)) o.Guards)=Yc o:=rfl;simp only [go_sem,d2,hrow,hG,hgk,p1,p2,FX];refine aB (aA _) rfl (Qh o ho (sC o.Kind) (OV _)) rfl ?_;cases h1:zW o (sC o.Kind)
 ·simp only [go_sem];rw [hpre,if_pos h1]
 rw [if_neg (by simp [h1])] at hpre;simp only [go_sem];refine aB (aA _) rfl (Wh o ho) rfl ?_;cases h2:Bz o;rotate_left
 ·simp only [go_sem];rw [hpre,if_pos h2]
 rw [if_neg (by simp [h2])] at hpre;simp only [go_sem];cases h3:Yc o
 ·simp only [go_sem];rw [hpre,if_pos h3]
 rw [if_neg (by simp [h3])] at hpre;rw [hpre];have hp:((o.Past.length:Int)==0)=decide (o.Past.length=0):=by rw [rX];simp
 have hk:(o.Kind==1)=decide (o.Kind=1):=rfl;simp only [go_sem,aL,hp,hk];generalize decide (o.Past.length=0)=a;generalize decide (o.Kind=1)=b;cases a<;>cases b<;>simp only [go_sem]<;>rfl
end
end
end Hud
section
namespace Hud
open Go Go.RowKit Go.WideShapes Go.ChangeShapes Go.Deep
def C8:LK→Value→Prop
 | .int k,v=>∃ n,v=.int k n∧(Lit.int k n).wf=true
 | .bool,v=>∃ b,v=.bool b
 | .str,v=>∃ s,v=.string s∧s.size≤maxLen
def fT:List LK→List Value→Prop
 | [],vs=>vs=[]
 | k::ks,vs=>∃ v r,vs=v::r∧C8 k v∧fT ks r
def Qi {a b:List LK} {u v:List Value} (h:fT a u) (k:fT b v):fT (a++b) (u++v):=by
 induction a generalizing u with
 | nil=>simp only [fT] at h;subst h;simpa using k
 | cons x a ih =>
  simp only [fT] at h;obtain ⟨w,r,rfl,h1,h2⟩:=h;simp only [fX,fT];exact ⟨w,r++v,rfl,h1,ih h2⟩
mutual
def HH (P:Program):Nat→TypeId→Option (List LK)
 | 0,_=>none
 | n+1,t=>match P.underlying t with
  | some .bool=>some [.bool]
  | some (.int k)=>some [.int k]
  | some .string=>some [.str]
  | some (.struct fs)=>HI P n fs.toList 0
  | _=>none
def HI (P:Program):Nat→List Field→Nat→Option (List LK)
 | 0,_,_=>none
 | _+1,[],_=>some []
 | n+1,f::fs,off=>match HH P n f.type,HI P n fs (off+P.cellsOf f.type) with
  | some a,some b=>if f.offset=off∧a.length=P.cellsOf f.type then some (a++b) else none
  | _,_=>none
end
section
variable {H:Type} {enc:TypeId×Value→H} {P:Program} {w:World} {base:Nat} {spare:Nat→Bool} {held:Bool}
mutual
def HJ:∀ {n:Nat} {t:TypeId} {ks:List LK},HH P n t=some ks→ks.length=P.cellsOf t→∀ {fuel:Nat} {cs:List Value} {x:DataW H×List MemPlace},DataW.trod enc P w base spare held fuel t cs=some x→fT ks cs
 | 0,_,_,h,_,_,_,_,_=>by simp [HH] at h
 | n+1,t,ks,h,hl,fuel,cs,x,e=>by
  simp only [HH] at h;split at h
  ·rename_i ht;injection h with h;subst h;obtain ⟨b,hc,_⟩:=DataW.trod_bool ht e;subst hc;simp [fT,C8]
  ·rename_i k ht;injection h with h;subst h;obtain ⟨m,hc,_,hw⟩:=DataW.trod_int ht e;subst hc;simp [fT,C8,hw]
  ·rename_i ht;injection h with h;subst h;obtain ⟨s,hc,_,hw⟩:=DataW.trod_string ht e;subst hc;simp [fT,C8,hw]
  ·rename_i fs ht;obtain ⟨xs,m,_,_,hcl,hlen,hf⟩:=DataW.trod_struct ht e
   have:=NJ h (cs:=cs) (λi f hi=>by
    have h1:=hf i f (by simpa using hi);have h2:i<xs.length:=by
     rw [hlen];rcases gM i fs.size with hh | hh
     ·exact hh
     ·rw [oW (by simpa using hh)] at hi;simp at hi
    exact ⟨m,_,h1.trans (nQ h2)⟩) (by rw [hcl,←hl,qT])
   simpa using this
  ·simp at h
def NJ:∀ {n:Nat} {fs:List Field} {off:Nat} {ks:List LK},HI P n fs off=some ks→∀ {cs:List Value},(∀ (i:Nat) (f:Field),fs[i]?=some f→∃ fuel x,DataW.trod enc P w base spare held fuel f.type ((cs.drop f.offset).take (P.cellsOf f.type))=some x) →
  cs.length=off+ks.length→fT ks (cs.drop off)
 | 0,_,_,_,h,_,_,_=>by simp [HI] at h
 | n+1,[],off,ks,h,cs,hf,hl=>by
  simp only [HI,Option.some.injEq] at h;subst h;simp only [fT];exact Ln (by simp at hl;omega)
 | n+1,f::fs,off,ks,h,cs,hf,hl=>by
  simp only [HI] at h;split at h
  ·rename_i a b h1 h2;split at h
   ·rename_i hc;injection h with h;subst h;obtain ⟨hc1,hc2⟩:=hc;obtain ⟨fuel,x,e⟩:=hf 0 f rfl;have ih1:=HJ h1 hc2 e;rw [gK] at hl;have ih2:=NJ h2 (cs:=cs) (λi g hi=>hf (i+1) g (by simpa using hi)) (by rw [←hc2];omega);rw [hc1] at ih1;have:cs.drop off=(cs.drop off).take (P.cellsOf f.type)++cs.drop (off+P.cellsOf f.type):=by
     rw [←Hi,Lo]
    rw [this];exact Qi ih1 ih2
   ·simp at h
  ·simp at h
end
end
def FD (w:World):GH:=λb=>match w.heap[b]? with | some (.cells cs _ _)=>some cs | _=>none
def Yu (w:World) (φ:Nat→Value):Inv (FD w) φ w [] where
 gh:=λb cs e=>by
  unfold FD at e;split at e
  ·rename_i c E fr h;injection e with e;subst e;exact ⟨E,fr,h⟩
  ·simp at e
 obj:=λi o e=>by simp at e
 dis:=λi j oi oj b e=>by simp at e
def Wi {w:World} {b o:Nat} {v:Value} (h:w.cell? ⟨b,o,none⟩=some v):lS (FD w) b o=some v:=by
 unfold World.cell? at h;unfold lS FD;split at h
 ·rename_i c E fr h1;simp only at h1;rw [h1];simpa using h
 ·simp at h
def Qj {k:LK} {v:Value} (h:C8 k v):aO (.v v)=true:=by
 cases k with
 | int k=>obtain ⟨n,rfl,_⟩:=h;rfl
 | bool=>obtain ⟨b,rfl⟩:=h;rfl
 | str=>obtain ⟨s,rfl,_⟩:=h;rfl
def Qk {ks:List LK} {vs:List Value} (h:fT ks vs):∀ {i:Nat} {v:Value},vs[i]?=some v→∃ k,C8 k v:=by
 induction ks generalizing vs with
 | nil=>simp only [fT] at h;subst h;simp
 | cons k ks ih =>
  simp only [fT] at h;obtain ⟨u,r,rfl,h1,h2⟩:=h;intro i v hi
  cases i with
  | zero=>simp only [CJ,Option.some.injEq] at hi;subst hi;exact ⟨k,h1⟩
  | succ i=>exact ih h2 (by simpa using hi)
section
variable {H:Type} {enc:TypeId×Value→H} {P:Program} {W:World} {base:Nat} {spare:Nat→Bool} {held:Bool} {h:GH} {φ:Nat→Value}
def Yv {t e:TypeId} {ks:List LK} {n:Nat} (ht:P.underlying t=some (.slice e)) (hs:HH P n e=some ks) (hk:ks.length=P.cellsOf e) (hk0:0<ks.length) {A:Option Addr} {l0 c0:Nat} {d:DataW H} {ps:List MemPlace}
  (hd:DataW.Trod enc P W base spare held t (.slice A l0 c0) d ps) :
  ∃ es:List (List Value),(∀ x∈es,fT ks x)∧es.length≤maxLen∧Rp (FD W) φ 0 (.ls ks.length (es.map λx=>x.map .v)) (.slice A l0 c0):=by
 obtain ⟨fuel,hd⟩:=hd;rcases open_slice ht hd with ⟨h1,_⟩ | ⟨a,len,cap,m,n',D,Pl,h1,_,h3,h4,hm,_,hel⟩
 ·obtain ⟨rfl,rfl,rfl⟩:A=none∧l0=0∧c0=0:=by simpa [Value.cells] using h1
  refine ⟨[],by simp,by simp,?_⟩;simp only [Rp,kY,mE,jJ];exact ⟨none,0,rfl,cT _,B8 _,by simp⟩
 ·obtain ⟨rfl,rfl,rfl⟩:A=some a∧l0=len∧c0=cap:=by simpa [Value.cells] using h1
  have hlm:l0≤m:=by rw [hm];split<;>omega
  have hex:∀ i,∃ c':List Value,i<l0→(W.cells? base (a.add (i*P.cellsOf e)) (P.cellsOf e)=some c'∧fT ks c'):=by
   intro i;by_cases hi:i<l0
   ·obtain ⟨c',hc1,hc2⟩:=hel i (by omega);exact ⟨c',λ_=>⟨hc1,HJ hs hk hc2⟩⟩
   ·exact ⟨[],λhh=>absurd hh hi⟩
  refine ⟨(List.range l0).map λi=>(hex i).choose,?_,by simpa using B7 h3 h4,?_⟩
  ·intro x hx;obtain ⟨i,hi,rfl⟩:=cZ.1 hx;exact ((hex i).choose_spec (sH.1 hi)).2
  ·simp only [Rp,kY,aL,Mi];refine ⟨some a,c0,rfl,h3,h4,?_⟩;rcases Mh l0 with h0 | h0
   ·exact .inl (by subst h0;rfl)
   ·refine .inr ?_;have hsp:a.spot=none:=by
     obtain ⟨c',c1,_⟩:=hel 0 (by omega);obtain ⟨_,e2,e3⟩:=World.cells?_some c1;have e4:=e3 0 (by omega);rw [nQ (by rw [e2];omega),Nat.zero_mul] at e4;have:(a.add 0).add 0=a:=by simp [Addr.add]
     rw [this] at e4;unfold World.cell? at e4;split at e4
     ·split at e4
      ·simp at e4
      ·rename_i hs;simpa using hs
     ·simp at e4
    obtain ⟨b,o,sp⟩:=a;simp only at hsp;subst hsp;refine ⟨b,o,rfl,iC.mk λj e' hj=>?_⟩;rw [lO,lO] at hj;rcases gM j l0 with hjl | hjl
    ·rw [Xk hjl] at hj;simp only [lA,Option.some.injEq] at hj;subst hj;obtain ⟨c1,c2⟩:=(hex j).choose_spec hjl;obtain ⟨_,e2,e3⟩:=World.cells?_some c1;refine ⟨by rw [aL,e2,hk],kD.mk λi c hc=>?_⟩;rw [lO] at hc
     cases hv:(hex j).choose[i]? with
     | none=>rw [hv] at hc;simp at hc
     | some u =>
      rw [hv] at hc;simp only [lA,Option.some.injEq] at hc;subst hc;obtain ⟨k,hk'⟩:=Qk c2 hv;have hi:i<P.cellsOf e:=by
       rw [←e2];rcases gM i (hex j).choose.length with hh | hh
       ·exact hh
       ·rw [oW hh] at hv;simp at hv
      have e4:=e3 i hi;rw [hv] at e4;refine ⟨u,Qj hk',?_,by simp [kY]⟩;have:((Addr.mk b o none).add (j*P.cellsOf e)).add i=⟨b,o+j*ks.length+i,none⟩:=by
       rw [hk];by_cases h1:j*P.cellsOf e=0<;>by_cases h2:i=0<;>simp [Addr.add,h1,h2,D0]
      rw [this] at e4;exact Wi e4
    ·rw [oW (by simpa using hjl)] at hj;simp at hj
def aDb {t:TypeId} {ks:List LK} {n:Nat} (hs:HH P n t=some ks) (hk:ks.length=P.cellsOf t) {us:Array Value} {d:DataW H} {ps:List MemPlace} (hd:DataW.Trod enc P W base spare held t (.agg us) d ps) :
  fT ks us.toList∧Rp h φ 0 (.ag (us.toList.map .v)) (.agg us):=by
 obtain ⟨fuel,hd⟩:=hd;refine ⟨HJ hs hk hd,?_⟩;simp only [Rp];refine ⟨us,rfl,?_⟩;have:∀ l:List Value,bK h φ 0 (l.map .v) l:=by
  intro l
  induction l with
  | nil=>simp [bK]
  | cons c l ih=>simp only [fE,bK];exact ⟨c,l,rfl,by simp [Rp],ih⟩
 exact this _
def aDc {n:Int} (hw:(Lit.int .i64 n).wf=true):-9223372036854775808≤n∧n≤9223372036854775807:=by
 simp only [Lit.wf,lN,decide_eq_true_eq] at hw;exact hw
def Uq:∀ {es:List (List Value)},(∀ x∈es,fT [.int .i64] x)→∃ l:List Int,es.map (λx=>x.map AV.v)=l.map (λn=>[AV.v (.int .i64 n)])∧∀ n∈l,-9223372036854775808≤n∧n≤9223372036854775807
 | [],_=>⟨[],rfl,by simp⟩
 | e::es,he=>by
  obtain ⟨l,h1,h2⟩:=Uq (es:=es) λx hx=>he x (by simp [hx]);have:=he e (by simp);simp only [fT,C8] at this;obtain ⟨v,r,rfl,⟨n,rfl,hw⟩,rfl⟩:=this;refine ⟨n::l,by simp [h1],?_⟩;intro m hm;rcases jB.1 hm with rfl | hm
  ·exact aDc hw
  ·exact h2 m hm
def NK {W':World} (hl:laidOutB P=true) (hb:Below W.heap.size W W') {sp:Nat→Bool}:∀ {ts:List TypeId} {vs:List Value} {ds:List (DataW H)} {ps:List MemPlace},(∀ t∈ts,P.readableRec t=true∧t<P.types.size) →
  DataW.TrodAll enc P W 0 (λ_=>true) true ts vs ds ps→(∀ x∈ps,x.block<W.heap.size)→(∀ x∈ps,sp x.block=true)→DataW.TrodAll enc P W' 0 sp true ts vs ds ps
 | [],[],[],ps,_,h,_,_=>by simpa [DataW.TrodAll] using h
 | t::ts,v::vs,d::ds,ps,ht,h,hlt,hs=>by
  simp only [DataW.TrodAll] at h ⊢;obtain ⟨p,q,h1,h2,rfl⟩:=h;obtain ⟨r1,r2⟩:=ht t (by simp)
  exact ⟨p,q,WideElems.Trod_stays hl r1 r2 h1 (λx hx=>hb.same (hlt x (by simp [hx]))) (λx hx=>hs x (by simp [hx])),
   NK hl hb (λt ht'=>ht t (by simp [ht'])) h2 (λx hx=>hlt x (by simp [hx])) (λx hx=>hs x (by simp [hx])),rfl⟩
 | [],_::_,_,_,_,h,_,_=>by simp [DataW.TrodAll] at h
 | [],[],_::_,_,_,h,_,_=>by simp [DataW.TrodAll] at h
 | _::_,[],_,_,_,h,_,_=>by simp [DataW.TrodAll] at h
 | _::_,_::_,[],_,_,h,_,_=>by simp [DataW.TrodAll] at h
def Wj {h':GH} {φ':Nat→Value} {T':aH} {W':World} (hE:Evo h φ [] W h' φ' T' W'):Go.RowKit.Below W.heap.size W W' :=
 ⟨hE.os,hE.tape,hE.output,hE.size,λk hk=>hE.frame k hk λi o e=>by simp at e⟩
end
end Hud
end
namespace Hud
open Go
section
structure EvT where
 fn:Nat→Option HFun
 pr:Nat→List AV→aH→Option (AV×aH)
inductive ER where
 | bad
 | ok (e:Ex) (st:St)
def IU:Value→Value→Bool
 | .int k a,.int k' b=>k==k'&&a==b
 | .bool a,.bool b=>a==b
 | .slice none a b,.slice none c d=>Nat.beq a c&&Nat.beq b d
 | .pointer none,.pointer none=>true
 | .nilFunc,.nilFunc=>true
 | .func (.func g) a b,.func (.func g') a' b'=>Nat.beq g g'&&(Nat.beq a.size 0&&(Nat.beq b.size 0&&(Nat.beq a'.size 0&&Nat.beq b'.size 0)))
 | _,_=>false
mutual
def CG:AV→AV→Bool
 | .v x,.v y=>IU x y
 | .ls k l,.ls k' m=>Nat.beq k k'&&Su l m
 | .ag l,.ag m=>Kw l m
 | .tup l,.tup m=>Kw l m
 | .rp l,.rp m=>Kw l m
 | .own i,.own j=>Nat.beq i j
 | .mp i,.mp j=>Nat.beq i j
 | .ptr i a,.ptr j b=>Nat.beq i j&&Nat.beq a b
 | .elt i a b c,.elt j d e f=>Nat.beq i j&&(Nat.beq a d&&(Nat.beq b e&&Nat.beq c f))
 | .vw i a b c,.vw j d e f=>Nat.beq i j&&(Nat.beq a d&&(Nat.beq b e&&Nat.beq c f))
 | _,_=>false
def Kw:List AV→List AV→Bool
 | [],[]=>true
 | x::l,y::m=>CG x y&&Kw l m
 | _,_=>false
def Su:List (List AV)→List (List AV)→Bool
 | [],[]=>true
 | x::l,y::m=>Kw x y&&Su l m
 | _,_=>false
end
def NL:List Value→List Value→Bool
 | [],[]=>true
 | x::l,y::m=>IU x y&&NL l m
 | _,_=>false
def NM:List (List Value)→List (List Value)→Bool
 | [],[]=>true
 | x::l,y::m=>NL x y&&NM l m
 | _,_=>false
def NO:List Nat→List Nat→Bool
 | [],[]=>true
 | x::l,y::m=>Nat.beq x y&&NO l m
 | _,_=>false
def aDd:Option AObj→Option AObj→Bool
 | none,none=>true
 | some (.map a ks vs bs cl),some (.map a' ks' vs' bs' cl')=>a==a'&&(NM ks ks'&&(Kw vs vs'&&(NO bs bs'&&Nat.beq cl cl')))
 | some (.box l),some (.box m)=>Kw l m
 | some (.arr k l),some (.arr k' m)=>Nat.beq k k'&&Su l m
 | some (.arf k l),some (.arf k' m)=>Nat.beq k k'&&Su l m
 | _,_=>false
def Kx:aH→aH→Bool
 | [],[]=>true
 | x::l,y::m=>aDd x y&&Kx l m
 | _,_=>false
def Wk:List (Nat×AV)→List (Nat×AV)→Bool
 | [],[]=>true
 | x::l,y::m=>Nat.beq x.1 y.1&&(CG x.2 y.2&&Wk l m)
 | _,_=>false
def Yw (a b:St):Bool:=Nat.beq a.r b.r&&(Wk a.s b.s&&Kx a.T b.T)
def Sv:List (Nat×AV)→Nat→AV
 | [],_=>.any
 | p::r,j=>match Nat.beq p.1 j with | true=>p.2 | false=>Sv r j
def Yx:List (Nat×AV)→Nat→List (Nat×AV)
 | [],_=>[]
 | p::r,j=>match Nat.beq p.1 j with | true=>Yx r j | false=>p::Yx r j
def GG (l:List (Nat×AV)) (d:Option Nat) (x:AV):List (Nat×AV):=match d with | some j=>(j,x)::Yx l j | none=>l
def aAW (i:Nat):List Nat→Bool
 | []=>false
 | j::r=>match Nat.beq i j with | true=>true | false=>aAW i r
def Ql (d:List Nat):List (Nat×AV)→List (Nat×AV)
 | []=>[]
 | p::r=>match aAW p.1 d with | true=>Ql d r | false=>p::Ql d r
def Yy {i j:Nat} (h:i≠j):Nat.beq i j=false:=by
 cases e:Nat.beq i j with
 | false=>rfl
 | true=>exact absurd (Xe e) h
def JE:∀ (l:List (Nat×AV)) (j:Nat),Sv l j=aP l j
 | [],_=>rfl
 | (i,x)::r,j=>by
  simp only [Sv,aP];by_cases h:i=j
  ·simp_all
  ·rw [if_neg h,Yy h];exact JE r j
def Om:∀ (l:List (Nat×AV)) (j:Nat),Yx l j=Fa l j
 | [],_=>rfl
 | (i,x)::r,j=>by
  simp only [Yx,Fa];by_cases h:i=j
  ·subst h;rw [Nat.beq_refl,if_pos rfl];exact Om r i
  ·rw [if_neg h,Yy h];simp only [Om r j]
def Oo (l:List (Nat×AV)) (d:Option Nat) (x:AV):GG l d x=dH l d x:=by
 cases d with
 | none=>rfl
 | some j=>simp only [GG,dH,CN,Om]
def Ur (i:Nat):∀ d:List Nat,aAW i d=d.contains i
 | []=>rfl
 | j::r=>by
  simp only [aAW,Xm];by_cases h:i=j
  ·simp_all
  ·rw [Yy h,Ur i r];simp [h]
def Qm (d:List Nat):∀ l:List (Nat×AV),Ql d l=jL d l
 | []=>rfl
 | (i,x)::r=>by
  simp only [Ql,jL,Ur,Qm d r];grind
def HK (G:Nat→Option (List AV)) (s:List (Nat×AV)):Operand→AV
 | .tmp t=>Sv s t
 | .const x=>.v x
 | .global g=>match G g with | some cs=>.rp cs | none=>.any
 | .func f=>.cl f []
def JF (G:Nat→Option (List AV)) (s:List (Nat×AV)):HK G s=cQ G s:=by
 funext x
 cases x with
 | tmp t=>simp [HK,cQ,JE]
 | const c=>rfl
 | global g=>simp only [HK,cQ];cases G g<;>rfl
 | func f=>rfl
def FE (s:List (Nat×AV)):Option (Nat×Bool)→Option Bool
 | none=>some true
 | some (j,b)=>match Sv s j with
  | .v (.bool t)=>some (t==b)
  | .v (.tuple _)=>some false
  | _=>none
def Dl (s:List (Nat×AV)) (g:Option (Nat×Bool)):FE s g=dM s g:=by
 cases g with
 | none=>rfl
 | some p=>obtain ⟨j,b⟩:=p;simp only [FE,dM,JE];cases aP s j with
  | v x=>cases x<;>rfl
  | _=>rfl
def aER:HD→Bool
 | .no=>true
 | _=>false
def Yz (r1:Option St) (n:Bool) (r2:Option St):Option St:=match n with
 | true=>r1
 | false=>match r1,r2 with
  | some s1,some s2=>if Yw s1 s2 then some s1 else none
  | _,_=>none
section
variable (G:Nat→Option (List AV)) (tb:EvT)
def Qn (h:HFun):ER→Option (AV×aH)
 | .ok .normal st=>match KH st h.res with
  | some l=>let r:=Ep l;let L:=sA st.T (List.range st.r++dZ r);some (AF L r,CP L st.T)
  | none=>none
 | .ok .ret st=>match KH st h.res with
  | some l=>let r:=Ep l;let L:=sA st.T (List.range st.r++dZ r);some (AF L r,CP L st.T)
  | none=>none
 | _=>none
def evB (ev:HC→St→ER) (f:Nat) (args:List AV) (T:aH):Option (AV×aH) :=
 match tb.pr f args T with
 | some x=>some x
 | none=>match tb.fn f with
  | some h=>Qn h (ev h.code ⟨T.length,mM 0 args,T⟩)
  | none=>none
def Oq (ev:HC→St→ER) (f:Nat) (args:List AV) (T:aH):Option (AV×aH) :=
 match fU args with
 | []=>match evB tb ev f args [] with
  | some (r,T')=>some (vG [] T.length r,T++T'.map (CI [] T.length))
  | none=>none
 | ids=>let L:=(sA T ids).filter (· < T.length)
  match evB tb ev f (uF L args) (CP L T) with
  | some (r,T')=>some (vG L T.length r,Fd L T.length T L T')
  | none=>none
def Y0 (ev:HC→St→ER) (st:St):HOp→Option (AV×aH)
 | .call f args=>match fnA (HK G st.s f) with
  | .cl g caps=>Oq tb ev g (args.map (HK G st.s)++caps) st.T
  | .bm g k cs=>Oq tb ev g (cs.take k++args.map (HK G st.s)++cs.drop k) st.T
  | _=>none
 | .nxt p=>match HK G st.s p with
  | .ptr i 0=>match bZ st.T i with
   | some (.mit (some j) since _ la)=>match bZ st.T j with
    | some (.map _ _ _ [] _)=>if Nat.ble since la then some (.v (.tuple #[.bool false]),st.T) else none
    | _=>none
   | _=>none
  | _=>none
 | .nilS neg kd x=>if N2 kd (HK G st.s x) then none else bO st.T (HK G st.s) (.nilS neg kd x)
 | o=>bO st.T (HK G st.s) o
def NP (ev:HC→St→ER):List HOper→St→Option St
 | [],st=>some st
 | o::os,st=>match FE st.s o.guard with
  | some true=>match Y0 G tb ev st o.op with
   | some (x,T)=>NP ev os ⟨st.r,GG st.s o.dst x,T⟩
   | none=>none
  | some false=>NP ev os ⟨st.r,GG st.s o.dst (.v undef),st.T⟩
  | none=>none
def Ky (st:St):List HOper→Bool
 | []=>true
 | o::os=>(match FE st.s o.guard,o.dst with
  | some true,some d=>match bO st.T (HK G st.s) o.op with
   | some (x,_)=>CG (Sv st.s d) x
   | none=>false
  | some false,some d=>(match Sv st.s d with | .v (.tuple a)=>a.size==0 | _=>false)
  | _,_=>false)&&Ky st os
def FF (ev:HC→St→ER):HD→St→Option St
 | .done b,st=>some (if b then Aq [] st else st)
 | .q o next,st=>match FE st.s o.guard with
  | some true=>match bO st.T (HK G st.s) o.op with
   | some (x,_)=>FF ev next ⟨st.r,GG st.s o.dst x,st.T⟩
   | none=>none
  | some false=>FF ev next ⟨st.r,GG st.s o.dst (.v undef),st.T⟩
  | none=>none
 | .alt o chk next other,st=>Yz (match FE st.s o.guard with
  | some true=>match Y0 G tb ev st o.op with
   | some (x,T)=>if Ky G ⟨st.r,GG st.s o.dst x,T⟩ chk then FF ev next ⟨st.r,GG st.s o.dst x,T⟩ else none
   | none=>none
  | some false=>if Ky G ⟨st.r,GG st.s o.dst (.v undef),st.T⟩ chk then FF ev next ⟨st.r,GG st.s o.dst (.v undef),st.T⟩ else none
  | none=>none) (aER other) (FF ev other st)
 | _,_=>none
def NQ:Nat→HC→St→ER
 | 0,_,_=>.bad
 | n+1,hc,st=>match hc with
  | .skip=>.ok .normal st
  | .reg ops=>match NP G tb (NQ n) ops st with
   | some s=>.ok .normal s
   | none=>.bad
  | .regd d=>match FF G tb (NQ n) d st with
   | some s=>.ok .normal s
   | none=>.bad
  | .seq a b=>match NQ n a st with
   | .ok .normal s=>NQ n b s
   | r=>r
  | .cond c a b=>match HK G st.s c with
   | .v (.bool true)=>NQ n a st
   | .v (.bool false)=>NQ n b st
   | _=>.bad
  | .block id a=>match NQ n a st with
   | .ok (.exit j) s=>if j=id then .ok .normal s else .ok (.exit j) s
   | r=>r
  | .loop d a=>match NQ n a st with
   | .ok .normal s=>NQ n (.loop d a) (Aq d s)
   | r=>r
  | .exit id=>.ok (.exit id) st
  | .ret=>.ok .ret st
  | .kill d=>.ok .normal ⟨st.r,Ql d st.s,st.T⟩
  | .own j c k=>.ok .normal (JZ st j c k)
  | .shut j=>.ok .normal (Aq [] (Ja st j))
  | .rng _ _ _ _ _=>.bad
def evF (n:Nat) (f:Nat) (args:List AV) (T:aH):Option (AV×aH):=evB tb (NQ G tb n) f args T
end
structure EvT.Ok (P:Program) (G:Nat→Option (List AV)) (tb:EvT):Prop where
 fn:∀ f h,tb.fn f=some h→∃ H,mZ P f H=some h
 pr:∀ f args T r T',tb.pr f args T=some (r,T')→aC P G f args T λr' T''=>r'=r∧T''=T'
section
variable {P:Program} {G:Nat→Option (List AV)} {tb:EvT}
def Ot (P:Program) (G:Nat→Option (List AV)) (ev:HC→St→ER):Prop:=∀ hc st e st',ev hc st=.ok e st'→∀ Q:Ex→St→Prop,Q e st'→dD P G hc Q st
def Sw (ht:tb.Ok P G) {ev:HC→St→ER} (he:Ot P G ev) {f:Nat} {args:List AV} {T:aH} {r:AV} {T':aH} (h:evB tb ev f args T=some (r,T')):aC P G f args T λr' T''=>r'=r∧T''=T':=by
 unfold evB at h;split at h
 ·rename_i x hx;injection h with h;subst h;exact ht.pr _ _ _ _ _ hx
 ·split at h
  ·rename_i hf hh;obtain ⟨H,hc⟩:=ht.fn _ _ hh;refine OO hc trivial ?_;unfold aCx
   cases hev:ev hf.code ⟨T.length,mM 0 args,T⟩ with
   | bad=>rw [hev] at h;simp [Qn] at h
   | ok e st =>
    rw [hev] at h;refine he _ _ _ _ hev _ ?_
    cases e with
    | normal =>
     grind [Qn,UZ,Ly,Option.some.injEq,Prod.mk.injEq]
    | ret =>
     grind [Qn,UZ,Ly,Option.some.injEq,Prod.mk.injEq]
    | exit i=>simp [Qn] at h
  ·simp at h
def NR (ht:tb.Ok P G) {ev:HC→St→ER} (he:Ot P G ev) {f:Nat} {args:List AV} {T:aH} {r:AV} {T':aH} {K:AV→aH→Prop} (h:Oq tb ev f args T=some (r,T')) (hk:K r T'):EI P G f args T K:=by
 unfold Oq at h;split at h
 ·rename_i hi;split at h
  ·rename_i r0 T0 h0;simp only [Option.some.injEq,Prod.mk.injEq] at h;exact mD (K:=K) (aA args) hi (Sw ht he h0) λr1 T1 ⟨e1,e2⟩=>by rw [e1,e2,h.1,h.2];exact hk
  ·simp at h
 ·simp only at h;split at h
  ·rename_i r0 T0 h0;simp only [Option.some.injEq,Prod.mk.injEq] at h;exact aAH (K:=K) (aA args) rfl rfl rfl (Sw ht he h0) λr1 T1 ⟨e1,e2⟩=>by rw [e1,e2,h.1,h.2];exact hk
  ·simp at h
def Us (ht:tb.Ok P G) {ev:HC→St→ER} (he:Ot P G ev) {st:St} {o:HOp} {r:AV} {T':aH} {K:AV→aH→Prop} (h:Y0 G tb ev st o=some (r,T')) (hk:K r T'):rV P G st o K:=by
 unfold Y0 at h;simp only [JF] at h;split at h
 ·rename_i f args;simp only [rV];split at h
  ·rename_i g caps e;simp only [e];exact NR ht he h hk
  ·rename_i g k cs e;simp only [e];exact NR ht he h hk
  ·simp at h
 ·simp only [rV];split at h
  ·rename_i i e;split at h
   ·rename_i e1;split at h
    ·rename_i e2;split at h
     ·rename_i hle;simp only [Option.some.injEq,Prod.mk.injEq] at h;obtain ⟨rfl,rfl⟩:=h;simp only [e,e1,e2];exact ⟨Nat.le_of_ble_eq_true hle,by simp,λ_=>hk,λe' k v b _ _ hb=>by simp at hb⟩
     ·simp at h
    ·simp at h
   ·simp at h
  ·simp at h
 ·grind [rV]
 ·grind [rV]
def Kz (ht:tb.Ok P G) {ev:HC→St→ER} (he:Ot P G ev) {K:St→Prop}:∀ {os:List HOper} {st s:St},NP G tb ev os st=some s→K s→Gq P G os st K
 | [],st,s,h,hk=>by simp only [NP,Option.some.injEq] at h;subst h;exact hk
 | o::os,st,s,h,hk=>by
  simp only [NP,Oo,Dl] at h;simp only [Gq];split at h
  ·rename_i hw;simp only [hw];split at h
   ·rename_i x T hx;exact Us ht he hx (Kz ht he h hk)
   ·simp at h
  ·rename_i hw;simp only [hw];exact Kz ht he h hk
  ·simp at h
def GI {x y:Value} (h:IU x y=true):x=y:=by
 unfold IU at h;split at h
 case h_6 =>
  simp only [lN,xV,Array.size_eq_zero_iff] at h;obtain ⟨rfl,rfl,rfl,rfl,rfl⟩:=h;rfl
 all_goals simp_all
mutual
def Ou:∀ (x y:AV),CG x y=true→x=y
 | .v x,y,h=>by
  cases y<;>simp only [CG,kB] at h;rw [GI h]
 | .ls k l,y,h=>by
  cases y<;>simp only [CG,kB,lN,xV] at h;rw [h.1,JG l _ h.2]
 | .ag l,y,h=>by
  cases y<;>simp only [CG,kB] at h;rw [yM l _ h]
 | .tup l,y,h=>by
  cases y<;>simp only [CG,kB] at h;rw [yM l _ h]
 | .rp l,y,h=>by
  cases y<;>simp only [CG,kB] at h;rw [yM l _ h]
 | .own i,y,h=>by
  cases y<;>simp only [CG,kB,xV] at h;rw [h]
 | .mp i,y,h=>by
  cases y<;>simp only [CG,kB,xV] at h;rw [h]
 | .ptr i a,y,h=>by
  cases y<;>simp only [CG,kB,lN,xV] at h;rw [h.1,h.2]
 | .elt i a b c,y,h=>by
  cases y<;>simp only [CG,kB,lN,xV] at h;simp_all
 | .vw i a b c,y,h=>by
  cases y<;>simp only [CG,kB,lN,xV] at h;simp_all
 | .yl i,y,h=>by cases y<;>simp only [CG,kB] at h
 | .bm f k cs,y,h=>by cases y<;>simp only [CG,kB] at h
 | .cl f cs,y,h=>by cases y<;>simp only [CG,kB] at h
 | .any,y,h=>by cases y<;>simp only [CG,kB] at h
def yM:∀ (x y:List AV),Kw x y=true→x=y
 | [],y,h=>by cases y<;>simp only [Kw,kB] at h;rfl
 | x::l,y,h=>by
  cases y<;>simp only [Kw,kB,lN] at h;rw [Ou x _ h.1,yM l _ h.2]
def JG:∀ (x y:List (List AV)),Su x y=true→x=y
 | [],y,h=>by cases y<;>simp only [Su,kB] at h;rfl
 | x::l,y,h=>by
  cases y<;>simp only [Su,kB,lN] at h;rw [yM x _ h.1,JG l _ h.2]
end
def Qo:∀ {x y:List Value},NL x y=true→x=y
 | [],[],_=>rfl
 | x::l,y::m,h=>by
  simp only [NL,lN] at h;rw [GI h.1,Qo h.2]
 | [],_::_,h=>by simp [NL] at h
 | _::_,[],h=>by simp [NL] at h
def Qp:∀ {x y:List (List Value)},NM x y=true→x=y
 | [],[],_=>rfl
 | x::l,y::m,h=>by
  simp only [NM,lN] at h;rw [Qo h.1,Qp h.2]
 | [],_::_,h=>by simp [NM] at h
 | _::_,[],h=>by simp [NM] at h
def Qq:∀ {x y:List Nat},NO x y=true→x=y
 | [],[],_=>rfl
 | x::l,y::m,h=>by
  simp only [NO,lN,xV] at h;rw [h.1,Qq h.2]
 | [],_::_,h=>by simp [NO] at h
 | _::_,[],h=>by simp [NO] at h
def aAX:∀ {x y:Option AObj},aDd x y=true→x=y:=by
 intro x y h;unfold aDd at h;split at h
 ·rfl
 ·simp only [lN,xV,beq_iff_eq] at h;rw [h.1,Qp h.2.1,yM _ _ h.2.2.1,Qq h.2.2.2.1,h.2.2.2.2]
 ·rw [yM _ _ h]
 ·simp only [lN,xV] at h;rw [h.1,JG _ _ h.2]
 ·simp only [lN,xV] at h;rw [h.1,JG _ _ h.2]
 ·simp at h
def K0:∀ {x y:aH},Kx x y=true→x=y
 | [],[],_=>rfl
 | x::l,y::m,h=>by
  simp only [Kx,lN] at h;rw [aAX h.1,K0 h.2]
 | [],_::_,h=>by simp [Kx] at h
 | _::_,[],h=>by simp [Kx] at h
def Ut:∀ {x y:List (Nat×AV)},Wk x y=true→x=y
 | [],[],_=>rfl
 | (i,x)::l,(j,y)::m,h=>by
  simp only [Wk,lN,xV] at h;rw [h.1,Ou _ _ h.2.1,Ut h.2.2]
 | [],_::_,h=>by simp [Wk] at h
 | _::_,[],h=>by simp [Wk] at h
def Y1 {a b:St} (h:Yw a b=true):a=b:=by
 obtain ⟨r,s,T⟩:=a;obtain ⟨r',s',T'⟩:=b;simp only [Yw,lN,xV] at h;rw [h.1,Ut h.2.1,K0 h.2.2]
def Y2 {r1 r2:Option St} {n:Bool} {s:St} (h:Yz r1 n r2=some s):r1=some s∧(n=true∨r2=some s):=by
 unfold Yz at h;split at h
 ·simp_all
 ·split at h
  ·split at h
   ·rename_i hb;have:=Y1 hb;simp_all
   ·simp at h
  ·simp at h
def K1 {st:St}:∀ {os:List HOper},Ky G st os=true→lT G st os
 | [],_=>trivial
 | o::os,h=>by
  simp only [Ky,JF,Dl,JE,lN] at h;refine ⟨?_,K1 h.2⟩;have h1:=h.1;split at h1
  ·rename_i d hw hd;simp only [hw,hd,lA];split at h1
   ·rename_i x T hx;simp only [hx];rw [Ou _ _ h1]
   ·simp at h1
  ·rename_i d hw hd;simp only [hw,hd,lA];split at h1
   ·rename_i a ha;rw [ha];have:a=#[]:=by simpa using h1
    subst this;rfl
   ·simp at h1
  ·simp at h1
def Dm (ht:tb.Ok P G) {ev:HC→St→ER} (he:Ot P G ev) {K:St→Prop}:∀ {d:HD} {st s:St},FF G tb ev d st=some s→K s→DT P G d st K
 | .done b,st,s,h,hk=>by simp only [FF,Option.some.injEq] at h;subst h;exact hk
 | .no,st,s,h,hk=>by simp [FF] at h
 | .q o next,st,s,h,hk=>by
  simp only [FF,JF,Oo,Dl] at h;simp only [DT];split at h
  ·rename_i hw;simp only [hw];split at h
   ·rename_i x T hx;simp only [hx];exact Dm ht he h hk
   ·simp at h
  ·rename_i hw;simp only [hw];exact Dm ht he h hk
  ·simp at h
 | .alt o chk next other,st,s,h,hk=>by
  have first:∀ {s:St},(match FE st.s o.guard with
   | some true=>match Y0 G tb ev st o.op with
    | some (x,T)=>if Ky G ⟨st.r,GG st.s o.dst x,T⟩ chk then FF G tb ev next ⟨st.r,GG st.s o.dst x,T⟩ else none
    | none=>none
   | some false=>if Ky G ⟨st.r,GG st.s o.dst (.v undef),st.T⟩ chk then FF G tb ev next ⟨st.r,GG st.s o.dst (.v undef),st.T⟩ else none
   | none=>none)=some s→K s→(match dM st.s o.guard with
  | some true=>rV P G st o.op λx T=>lT G ⟨st.r,dH st.s o.dst x,T⟩ chk∧DT P G next ⟨st.r,dH st.s o.dst x,T⟩ K
  | some false=>lT G ⟨st.r,dH st.s o.dst (.v undef),st.T⟩ chk∧DT P G next ⟨st.r,dH st.s o.dst (.v undef),st.T⟩ K
  | none=>False):=by
   intro s h hk;simp only [Oo,Dl] at h;split at h
   ·rename_i hw;split at h
    ·rename_i x T hx;split at h
     ·rename_i hc;exact Us ht he hx ⟨K1 hc,Dm ht he h hk⟩
     ·simp at h
    ·simp at h
   ·rename_i hw;split at h
    ·rename_i hc;exact ⟨K1 hc,Dm ht he h hk⟩
    ·simp at h
   ·simp at h
  simp only [FF] at h;obtain ⟨h1,h2⟩:=Y2 h;simp only [DT];refine ⟨first h1 hk,?_⟩;rcases h2 with h2 | h2
  ·grind [aER,DT]
  ·exact Dm ht he h2 hk
 | .perm _ _ _,st,s,h,hk=>by simp [FF] at h
 | .plan _ _ _ _ _,st,s,h,hk=>by simp [FF] at h
def Y3 (ht:tb.Ok P G) (n:Nat) (ihs:∀ m,m≤n→Ot P G (NQ G tb m)):Ot P G (NQ G tb (n+1)):=by
  intro hc st e st' h Q hq;have ih:=ihs n (cT n);simp only [NQ,JF,Qm] at h
  cases hc with
  | skip=>simp only [ER.ok.injEq] at h;obtain ⟨rfl,rfl⟩:=h;exact hq
  | reg ops =>
   simp only at h;split at h
   ·rename_i s hs;simp only [ER.ok.injEq] at h;obtain ⟨rfl,rfl⟩:=h;exact Kz ht ih hs hq
   ·simp at h
  | regd d =>
   simp only at h;split at h
   ·rename_i s hs;simp only [ER.ok.injEq] at h;obtain ⟨rfl,rfl⟩:=h;exact Dm ht ih hs hq
   ·simp at h
  | seq a b =>
   simp only at h;simp only [dD];split at h
   ·rename_i s hs;exact ih _ _ _ _ hs _ (ih _ _ _ _ h _ hq)
   ·rename_i hs;refine ih _ _ _ _ h _ ?_;simp_all
  | cond c a b =>
   simp only at h;simp only [dD];split at h
   ·rename_i hc;simp only [hc,if_true];exact ih _ _ _ _ h _ hq
   ·rename_i hc;simp only [hc,kB,if_false];exact ih _ _ _ _ h _ hq
   ·simp at h
  | block id a =>
   simp only at h;simp only [dD];split at h
   ·rename_i j s hs;refine ih _ _ _ _ hs _ ?_;grind
   ·rename_i hs;refine ih _ _ _ _ h _ ?_;simp_all
  | loop d a =>
   simp only at h;simp only [dD];refine ⟨λm s=>m≤n+1∧NQ G tb m (.loop d a) s=.ok e st',⟨n+1,.inr ⟨cT _,by simp only [NQ];exact h⟩⟩,λm s ⟨hm,hs⟩=>?_⟩
   cases m with
   | zero=>simp [NQ] at hs
   | succ m =>
    simp only [NQ] at hs;have ih2:=ihs m (by omega);split at hs
    ·rename_i s1 h1;exact ih2 _ _ _ _ h1 _ ⟨m,Nat.lt_succ_self _,.inl ⟨by omega,hs⟩⟩
    ·rename_i hn;refine ih2 _ _ _ _ hs _ ?_;simp_all
  | exit id=>simp only [ER.ok.injEq] at h;obtain ⟨rfl,rfl⟩:=h;exact hq
  | ret=>simp only [ER.ok.injEq] at h;obtain ⟨rfl,rfl⟩:=h;exact hq
  | kill d=>simp only [ER.ok.injEq] at h;obtain ⟨rfl,rfl⟩:=h;exact hq
  | own j c k=>simp only [ER.ok.injEq] at h;obtain ⟨rfl,rfl⟩:=h;exact hq
  | shut j=>simp only [ER.ok.injEq] at h;obtain ⟨rfl,rfl⟩:=h;exact hq
  | rng g ps d a b=>simp at h
def aAY (ht:tb.Ok P G) (n:Nat):∀ m,m≤n→Ot P G (NQ G tb m):=by
 induction n with
 | zero =>
  intro m hm;obtain rfl:m=0:=by omega
  intro hc st e st' h;simp [NQ] at h
 | succ n ih =>
  intro m hm;rcases gM m (n+1) with h | h
  ·grind
  ·obtain rfl:m=n+1:=by omega
   exact Y3 ht n ih
def aDe (ht:tb.Ok P G) (n:Nat):Ot P G (NQ G tb n):=aAY ht n n (cT n)
def FG (ht:tb.Ok P G) {n:Nat} {f:Nat} {args:List AV} {T:aH} {r:AV} {T':aH} (h:evF G tb n f args T=some (r,T')):aC P G f args T λr' T''=>r'=r∧T''=T':=Sw ht (aDe ht n) h
end
def lkF:List (Nat×HFun)→Nat→Option HFun
 | [],_=>none
 | p::r,f=>match Nat.beq p.1 f with | true=>some p.2 | false=>lkF r f
def TOk (P:Program):List (Nat×HFun)→Prop
 | []=>True
 | p::r=>(∃ H,mZ P p.1 H=some p.2)∧TOk P r
def Y4 {P:Program}:∀ {l:List (Nat×HFun)},TOk P l→∀ f h,lkF l f=some h→∃ H,mZ P f H=some h
 | [],_,f,h,e=>by simp [lkF] at e
 | p::r,ht,f,h,e=>by
  simp only [lkF] at e;split at e
  ·rename_i hb;injection e with e;rw [←Xe hb,←e];exact ht.1
  ·exact Y4 ht.2 f h e
end
section
mutual
def dN:AV→AV→Bool
 | .v x,.v y=>IU x y
 | .v (.slice none 0 0),.ls _ []=>true
 | .ls k l,.ls k' m=>Nat.beq k k'&&uZ l m
 | .ag l,.ag m=>mB l m
 | .tup l,.tup m=>mB l m
 | _,_=>false
def mB:List AV→List AV→Bool
 | [],[]=>true
 | x::l,y::m=>dN x y&&mB l m
 | _,_=>false
def uZ:List (List AV)→List (List AV)→Bool
 | [],[]=>true
 | x::l,y::m=>mB x y&&uZ l m
 | _,_=>false
end
def NS:∀ {l m:List (List AV)},uZ l m=true→l.length=m.length
 | [],[],_=>rfl
 | x::l,y::m,h=>by
  simp only [uZ,lN] at h;simp only [wJ,NS h.2]
 | [],_::_,h=>by simp [uZ] at h
 | _::_,[],h=>by simp [uZ] at h
def NT:∀ {l m:List AV},mB l m=true→l.length=m.length
 | [],[],_=>rfl
 | x::l,y::m,h=>by
  simp only [mB,lN] at h;simp only [wJ,NT h.2]
 | [],_::_,h=>by simp [mB] at h
 | _::_,[],h=>by simp [mB] at h
def Qr {x y:AV} (h:dN x y=true) (hc:aO x=true):aO y=true:=by
 cases x<;>cases y<;>simp only [dN,kB] at h
 ·rw [←GI h];exact hc
 ·rfl
 ·rfl
 ·grind [aO]
 ·grind [aO]
mutual
def JH {h:GH}:∀ {x y:AV} {u:Value},dN x y=true→kY h x u→kY h y u
 | .v x,.v y,u,hs,e=>by
  simp only [dN] at hs;rw [←GI hs];exact e
 | .v x,.ls k es,u,hs,e=>by
  cases es with
  | nil =>
   unfold dN at hs;grind [kY]
  | cons a b=>simp [dN] at hs
 | .ls k l,.ls k' m,u,hs,e=>by
  simp only [dN,lN,xV] at hs;obtain ⟨rfl,hm⟩:=hs;have hl:=NS hm;simp only [kY] at e ⊢;obtain ⟨A,c,h1,h2,h3,h4⟩:=e;refine ⟨A,c,hl ▸ h1,hl ▸ h2,h3,?_⟩;rcases h4 with h4 | ⟨b,o,h5,h6⟩
  ·grind
  ·exact .inr ⟨b,o,h5,Uu hm h6⟩
 | .ag l,.ag m,u,hs,e=>by
  simp only [dN] at hs;simp only [kY] at e ⊢;obtain ⟨us,h1,h2⟩:=e;exact ⟨us,h1,Qs hs h2⟩
 | .tup l,.tup m,u,hs,e=>by simp [kY] at e
def Uu {h:GH} {b k:Nat}:∀ {l m:List (List AV)} {o:Nat},uZ l m=true→iC h b k l o→iC h b k m o
 | [],[],o,_,_=>by simp [iC]
 | x::l,y::m,o,hs,e=>by
  simp only [uZ,lN] at hs;simp only [iC] at e ⊢;exact ⟨(NT hs.1) ▸ e.1,Uv hs.1 e.2.1,Uu hs.2 e.2.2⟩
def Uv {h:GH} {b:Nat}:∀ {l m:List AV} {o:Nat},mB l m=true→kD h b l o→kD h b m o
 | [],[],o,_,_=>by simp [kD]
 | x::l,y::m,o,hs,e=>by
  simp only [mB,lN] at hs;simp only [kD] at e ⊢;obtain ⟨⟨u,e1,e2,e3⟩,e4⟩:=e;exact ⟨⟨u,Qr hs.1 e1,e2,JH hs.1 e3⟩,Uv hs.2 e4⟩
def Qs {h:GH}:∀ {l m:List AV} {us:List Value},mB l m=true→bQ h l us→bQ h m us
 | [],[],us,_,e=>e
 | x::l,y::m,us,hs,e=>by
  simp only [mB,lN] at hs;simp only [bQ] at e ⊢;obtain ⟨u,us',e1,e2,e3⟩:=e;exact ⟨u,us',e1,JH hs.1 e2,Qs hs.2 e3⟩
end
mutual
def Uw {h:GH} {φ:Nat→Value} {n:Nat}:∀ {x y:AV} {u:Value},dN x y=true→Rp h φ n x u→Rp h φ n y u
 | .v x,.v y,u,hs,e=>by
  simp only [dN] at hs;rw [←GI hs];exact e
 | .v x,.ls k es,u,hs,e=>by
  simp only [Rp] at e ⊢;exact JH (x:=.v x) hs (by simpa only [kY] using e)
 | .ls k l,.ls k' m,u,hs,e=>by
  simp only [Rp] at e ⊢;exact JH hs e
 | .ag l,.ag m,u,hs,e=>by
  simp only [dN] at hs;simp only [Rp] at e ⊢;obtain ⟨us,h1,h2⟩:=e;exact ⟨us,h1,JI hs h2⟩
 | .tup l,.tup m,u,hs,e=>by
  simp only [dN] at hs;simp only [Rp] at e ⊢;obtain ⟨us,h1,h2⟩:=e;exact ⟨us,h1,JI hs h2⟩
def JI {h:GH} {φ:Nat→Value} {n:Nat}:∀ {l m:List AV} {us:List Value},mB l m=true→bK h φ n l us→bK h φ n m us
 | [],[],us,_,e=>e
 | x::l,y::m,us,hs,e=>by
  simp only [mB,lN] at hs;simp only [bK] at e ⊢;obtain ⟨u,us',e1,e2,e3⟩:=e;exact ⟨u,us',e1,Uw hs.1 e2,JI hs.2 e3⟩
end
end
end Hud
