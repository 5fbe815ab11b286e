import Derived.Test.YthlndebkfkanbaaGreatDoorLib14
import Derived.ProofKit
import Derived.Deep.Slices
set_option linter.all false
namespace Hud
open Go
section
section
variable {G:Nat→Option (List AV)}
set_option maxHeartbeats 4000000
def Ru (o:OpM) (ho:o.ok) (k:Nat) (hk:k<65536):aC PQ G DB [.ag o.A,iv k] [] λr T=>r=.v (.bool (AS o k))∧T=[]:=by
 refine aF Lc (by decide) ?_;dsimp only [go_sem];rw [Vn,cP];refine eZ (λs=>s=⟨0,[(2,.ptr 0 0),(1,iv k)],[some (.box o.A)]⟩) ?_ ?_
 ·simp only [go_sem]
 rintro s rfl;rw [cP];refine eZ (λs=>s=⟨0,[(2,.ptr 0 0),(1,iv k)],[some (.box o.A)]⟩∧(oG o.By 1 12&&oG o.Seq 1 2147483647&&oG o.At 0 2147483647)=true) ?_ ?_
 ·simp only [go_sem]
  repeat' (first
   | ((with_reducible refine aM (λh=>?_) (λh=>?_))<;>(try simp only [rU,nH,nW] at h)<;>simp only [go_sem,h,undef])
   | (with_reducible refine dB (f:=bI) ?_;refine aB (aA _) rfl (qO _ _ _) rfl ?_;simp only [go_sem,undef]))
  all_goals simp only [AS, *,GC,nG,Ch,jG]
 rintro s ⟨rfl,hfirst⟩;have hrest:AS o k=(NC k (DL o)&&(o.Guards.all xR&&(o.Refs.all PG&&(o.Past.all iJ&&(o.Path.all DM&&(o.Boxes.all sD&&o.Hist.all DN)))))):=by
  unfold AS;rw [hfirst,jG]
 rw [cP];refine eZ (λs=>s=⟨0,[(7,iv o.Guards.length),(6,iv 1),(5,iv 1),(2,.ptr 0 0),(1,iv k)],[some (.box o.A)]⟩) ?_ ?_
 ·simp only [go_sem,aL]
 rintro s rfl;rw [cP];refine eZ (λs=>s=⟨0,[(8,.v (.bool (oG o.Member 1 8))),(7,iv o.Guards.length),(6,iv 1),(5,iv 1),(2,.ptr 0 0),(1,iv k)],[some (.box o.A)]⟩) ?_ ?_
 ·simp only [go_sem];refine aB (aA _) rfl (qO o.Member 1 8) rfl ?_;simp only [go_sem]
 rintro s rfl;obtain ⟨le,hle⟩:∃ le:Int,le=if o.Kind=3 then 0 else 1:=⟨_,rfl⟩
 obtain ⟨nd,hnd⟩:∃ nd:Int,nd=if o.Kind=1 then 0 else 1:=⟨_,rfl⟩
 obtain ⟨mo,hmo⟩:∃ mo:Int,mo=if o.Kind=1 then 20 else (o.Guards.length:Int):=⟨_,rfl⟩
 obtain ⟨me,hme⟩:∃ me:Bool,me=if o.Kind=3 then (oG o.Member 1 8&&(o.Device==0))||((o.Member==0)&&(o.Device !=0)) else oG o.Member 1 8:=⟨_,rfl⟩
 have hE:DL o=[(1,oG o.Device le 12),(2,oG o.Old 1 12),(4,me),(8,oG o.Role 1 3),(64,oG o.N 0 2147483647),(4096,oG o.Wait 0 2147483647),(2048,oG o.Need nd mo),(32,iJ o.Epoch),(512,iJ o.Of),(16384,Fd o.Pub)]:=by
  rw [hle,hnd,hmo,hme];rfl
 refine Xd ?_;rw [cP];refine eZ (λs=>s.r=0∧s.T=[some (.box o.A)]∧pP s.s=[(1,iv k),(2,.ptr 0 0),(5,iv le),(6,iv nd),(7,iv mo),(8,.v (.bool me))]) ?_ ?_
 ·simp only [go_sem];clear hE;generalize oG o.Member 1 8=im at *
  repeat' (first
   | ((with_reducible refine aM (λh=>?_) (λh=>?_))<;>(try simp only [rU,nH,nW] at h)<;>simp only [go_sem,h,undef]))
  all_goals subst hle hme hnd hmo
  all_goals simp only [beq_iff_eq,beq_eq_false_iff_ne,ne_eq] at *
  all_goals first | (simp [*];done) | (exfalso;omega)
 rintro ⟨r1,s1,T1⟩ ⟨h1,h2,h3⟩;simp only at h1 h2 h3;subst h1 h2;have hp1:s1.Perm [(1,iv k),(2,.ptr 0 0),(5,iv le),(6,iv nd),(7,iv mo),(8,.v (.bool me))]:=by rw [←h3];exact (Rs s1).symm
 have hkey:(s1.map (·.1)).Perm [1,2,5,6,7,8]:=hp1.map _;have hg:∀ j x,(j,x)∈[(1,iv k),(2,AV.ptr 0 0),(5,iv le),(6,iv nd),(7,iv mo),(8,.v (.bool me))]→aU s1 j=x:=λj x hm=>BG (hkey.nodup_iff.2 (by decide)) (hp1.mem_iff.2 hm);have hd:∀ j,j∉[1,2,5,6,7,8]→GL s1 j=s1:=λj hj=>G0 λh=>hj (hkey.mem_iff.1 h);have g1:=hg 1 (iv k) (by simp);have g2:=hg 2 (.ptr 0 0) (by simp);have g5:=hg 5 (iv le) (by simp);have g6:=hg 6 (iv nd) (by simp);have g7:=hg 7 (iv mo) (by simp);have g8:=hg 8 (.v (.bool me)) (by simp);simp only [go_sem,g1,g2,g5,g6,g7,g8,hd 58 (by decide),hd 59 (by decide),hd 60 (by decide),hd 61 (by decide),hd 62 (by decide),hd 63 (by decide),hd 64 (by decide),hd 65 (by decide),hd 66 (by decide),hd 67 (by decide),hd 68 (by decide),hd 69 (by decide),hd 70 (by decide),hd 71 (by decide),hd 72 (by decide),hd 73 (by decide),hd 74 (by decide),hd 75 (by decide),hd 76 (by decide),hd 77 (by decide),hd 78 (by decide),hd 79 (by decide),hd 80 (by decide),hd 81 (by decide),hd 82 (by decide),hd 83 (by decide),hd 84 (by decide),hd 85 (by decide),hd 86 (by decide),hd 87 (by decide),hd 88 (by decide),hd 89 (by decide),hd 90 (by decide),hd 91 (by decide)];obtain ⟨Lq,hLq⟩:∃ Lq:List (Nat×AV),Lq=[(88,uv o.Pub),(87,.ptr 0 23),(85,.ag o.Of.A),(84,.ptr 0 16),(82,.ag o.Epoch.A),(81,.ptr 0 10),(79,iv mo),(78,iv nd),(77,iv o.Need),(76,.ptr 0 20),(74,iv o.Wait),(73,.ptr 0 21),(71,iv o.N),(70,.ptr 0 13),(68,iv o.Role),(67,.ptr 0 8),(66,.v (.bool me)),(64,iv o.Old),(63,.ptr 0 6),(61,iv le),(60,iv o.Device),(59,.ptr 0 5)]:=⟨_,rfl⟩
 have hk0:((Lq++s1).map (·.1)).Perm ([88,87,85,84,82,81,79,78,77,76,74,73,71,70,68,67,66,64,63,61,60,59]++[1,2,5,6,7,8]):=by
  rw [gQ,hLq];exact hkey.append_left _
 have hmem:∀ j,j∈([88,87,85,84,82,81,79,78,77,76,74,73,71,70,68,67,66,64,63,61,60,59]++[1,2,5,6,7,8]:List Nat)→j∈(Lq++s1).map (·.1):=λj hj=>hk0.mem_iff.2 hj;refine aCr λp hp=>?_;have hXE:∀ vs:Nat→Bool,vs=(λj=>if j=62 then oG o.Device le 12 else if j=65 then oG o.Old 1 12 else if j=69 then oG o.Role 1 3 else if j=72 then oG o.N 0 2147483647 else if j=75 then oG o.Wait 0 2147483647 else if j=80 then oG o.Need nd mo else if j=83 then iJ o.Epoch else if j=86 then iJ o.Of else if j=89 then Fd o.Pub else me)→([⟨5,1,62,1⟩,⟨9,2,65,2⟩,⟨11,4,66,0⟩,⟨15,8,69,3⟩,⟨19,64,72,4⟩,⟨23,4096,75,5⟩,⟨29,2048,80,6⟩,⟨33,32,83,7⟩,⟨37,512,86,8⟩,⟨41,16384,89,9⟩]:List IE).map (λe=>(e.k,vs e.s))=DL o:=λvs hv=>by subst hv;rw [hE];rfl
 obtain ⟨vs,hvs⟩:∃ vs:Nat→Bool,vs=(λj=>if j=62 then oG o.Device le 12 else if j=65 then oG o.Old 1 12 else if j=69 then oG o.Role 1 3 else if j=72 then oG o.N 0 2147483647 else if j=75 then oG o.Wait 0 2147483647 else if j=80 then oG o.Need nd mo else if j=83 then iJ o.Epoch else if j=86 then iJ o.Of else if j=89 then Fd o.Pub else me):=⟨_,rfl⟩
 refine aEN (P:=PQ) (G:=G) (p:=p) (Q:=[39,38,35,34,31,30,27,26,25,24,21,20,17,16,13,12,10,7,6,3,2,1]) (m:=58) (z:=42) (y:=43) (dz:=90) (dy:=91) (r0:=0) (cs:=[⟨4,62,bI,[.tmp 60,.tmp 61,.const (.int .i64 12)]⟩,⟨8,65,bI,[.tmp 64,.const (.int .i64 1),.const (.int .i64 12)]⟩,⟨14,69,bI,[.tmp 68,.const (.int .i64 1),.const (.int .i64 3)]⟩,⟨18,72,bI,[.tmp 71,.const (.int .i64 0),.const (.int .i64 2147483647)]⟩,⟨22,75,bI,[.tmp 74,.const (.int .i64 0),.const (.int .i64 2147483647)]⟩,⟨28,80,bI,[.tmp 77,.tmp 78,.tmp 79]⟩,⟨32,83,dW,[.tmp 82]⟩,⟨36,86,dW,[.tmp 85]⟩,⟨40,89,iL,[.tmp 88]⟩]) (es:=[⟨5,1,62,1⟩,⟨9,2,65,2⟩,⟨11,4,66,0⟩,⟨15,8,69,3⟩,⟨19,64,72,4⟩,⟨23,4096,75,5⟩,⟨29,2048,80,6⟩,⟨33,32,83,7⟩,⟨37,512,86,8⟩,⟨41,16384,89,9⟩]) (s0:=Lq++s1) (T0:=[some (.box o.A)])
  (vs:=vs) ?_ ?_ ?_ ?_ ?_ ?_ ?_ (by decide) ?_ ?_ ?_ (by decide) ?_ 23 false false 0 [] _ _ (xC _) Nd (λe h=>by simp at h) ?_ ?_ (.inr ⟨rfl,rfl⟩) (by decide)
 ·rw [hp];constructor<;>decide +kernel
 ·rw [hp];rfl
 ·rw [hp];intro c hc;simp only [gK,pQ,or_false] at hc;rcases hc with rfl | rfl | rfl | rfl | rfl | rfl | rfl | rfl | rfl<;>rfl
 ·rw [hp];intro c hc;simp only [gK,pQ,or_false] at hc;rcases hc with rfl | rfl | rfl | rfl | rfl | rfl | rfl | rfl | rfl | rfl<;>rfl
 ·rw [hp];rfl
 ·rw [hp];rfl
 ·exact ((hk0.append_right _).nodup_iff).2 (by decide)
 ·intro c hc s T K' hs hk;have e59:aU s 59=.ptr 0 5:=(hs 59 (hmem 59 (by decide))).trans (by rw [hLq];rfl);have e60:aU s 60=iv o.Device:=(hs 60 (hmem 60 (by decide))).trans (by rw [hLq];rfl);have e61:aU s 61=iv le:=(hs 61 (hmem 61 (by decide))).trans (by rw [hLq];rfl);have e63:aU s 63=.ptr 0 6:=(hs 63 (hmem 63 (by decide))).trans (by rw [hLq];rfl);have e64:aU s 64=iv o.Old:=(hs 64 (hmem 64 (by decide))).trans (by rw [hLq];rfl);have e66:aU s 66=.v (.bool me):=(hs 66 (hmem 66 (by decide))).trans (by rw [hLq];rfl);have e67:aU s 67=.ptr 0 8:=(hs 67 (hmem 67 (by decide))).trans (by rw [hLq];rfl);have e68:aU s 68=iv o.Role:=(hs 68 (hmem 68 (by decide))).trans (by rw [hLq];rfl);have e70:aU s 70=.ptr 0 13:=(hs 70 (hmem 70 (by decide))).trans (by rw [hLq];rfl);have e71:aU s 71=iv o.N:=(hs 71 (hmem 71 (by decide))).trans (by rw [hLq];rfl);have e73:aU s 73=.ptr 0 21:=(hs 73 (hmem 73 (by decide))).trans (by rw [hLq];rfl);have e74:aU s 74=iv o.Wait:=(hs 74 (hmem 74 (by decide))).trans (by rw [hLq];rfl);have e76:aU s 76=.ptr 0 20:=(hs 76 (hmem 76 (by decide))).trans (by rw [hLq];rfl);have e77:aU s 77=iv o.Need:=(hs 77 (hmem 77 (by decide))).trans (by rw [hLq];rfl);have e78:aU s 78=iv nd:=(hs 78 (hmem 78 (by decide))).trans (by rw [hLq];rfl);have e79:aU s 79=iv mo:=(hs 79 (hmem 79 (by decide))).trans (by rw [hLq];rfl);have e81:aU s 81=.ptr 0 10:=(hs 81 (hmem 81 (by decide))).trans (by rw [hLq];rfl);have e82:aU s 82=.ag o.Epoch.A:=(hs 82 (hmem 82 (by decide))).trans (by rw [hLq];rfl);have e84:aU s 84=.ptr 0 16:=(hs 84 (hmem 84 (by decide))).trans (by rw [hLq];rfl);have e85:aU s 85=.ag o.Of.A:=(hs 85 (hmem 85 (by decide))).trans (by rw [hLq];rfl);have e87:aU s 87=.ptr 0 23:=(hs 87 (hmem 87 (by decide))).trans (by rw [hLq];rfl);have e88:aU s 88=uv o.Pub:=(hs 88 (hmem 88 (by decide))).trans (by rw [hLq];rfl);have e1:aU s 1=iv (k:Int):=(hs 1 (hmem 1 (by decide))).trans (by rw [hLq];exact g1);have e2:aU s 2=.ptr 0 0:=(hs 2 (hmem 2 (by decide))).trans (by rw [hLq];exact g2);have e5:aU s 5=iv le:=(hs 5 (hmem 5 (by decide))).trans (by rw [hLq];exact g5);have e6:aU s 6=iv nd:=(hs 6 (hmem 6 (by decide))).trans (by rw [hLq];exact g6);have e7:aU s 7=iv mo:=(hs 7 (hmem 7 (by decide))).trans (by rw [hLq];exact g7);have e8:aU s 8=.v (.bool me):=(hs 8 (hmem 8 (by decide))).trans (by rw [hLq];exact g8);simp only [gK,pQ,or_false] at hc;subst hvs;rcases hc with rfl | rfl | rfl | rfl | rfl | rfl | rfl | rfl | rfl<;>simp only [cN,eQ,bX,e59,e60,e61,e63,e64,e66,e67,e68,e70,e71,e73,e74,e76,e77,e78,e79,e81,e82,e84,e85,e87,e88,e1,e2,e5,e6,e7,e8]
  ·exact aB (aA _) rfl (qO o.Device le 12) rfl hk
  ·exact aB (aA _) rfl (qO o.Old 1 12) rfl hk
  ·exact aB (aA _) rfl (qO o.Role 1 3) rfl hk
  ·exact aB (aA _) rfl (qO o.N 0 2147483647) rfl hk
  ·exact aB (aA _) rfl (qO o.Wait 0 2147483647) rfl hk
  ·exact aB (aA _) rfl (qO o.Need nd mo) rfl hk
  ·exact aB (aA _) rfl (B1 o.Epoch) rfl hk
  ·exact aB (aA _) rfl (B1 o.Of) rfl hk
  ·exact aB (aA _) rfl (zK o.Pub) rfl hk
 ·intro e he;simp only [gK,pQ,or_false] at he;subst hvs;rcases he with rfl | rfl | rfl | rfl | rfl | rfl | rfl | rfl | rfl | rfl
  ·exact .inr ⟨_,rfl,by decide,rfl⟩
  ·exact .inr ⟨_,rfl,by decide,rfl⟩
  ·exact .inl ⟨hmem 66 (by decide),by rw [hLq];rfl⟩
  ·exact .inr ⟨_,rfl,by decide,rfl⟩
  ·exact .inr ⟨_,rfl,by decide,rfl⟩
  ·exact .inr ⟨_,rfl,by decide,rfl⟩
  ·exact .inr ⟨_,rfl,by decide,rfl⟩
  ·exact .inr ⟨_,rfl,by decide,rfl⟩
  ·exact .inr ⟨_,rfl,by decide,rfl⟩
  ·exact .inr ⟨_,rfl,by decide,rfl⟩
 ·intro s T hs hT q hqm o' ho';have eT:T[0]?=some (some (.box o.A)):=bD (hT 0 Nat.zero_lt_one);have e59:aU s 59=.ptr 0 5:=(hs 59 (hmem 59 (by decide))).trans (by rw [hLq];rfl);have e60:aU s 60=iv o.Device:=(hs 60 (hmem 60 (by decide))).trans (by rw [hLq];rfl);have e61:aU s 61=iv le:=(hs 61 (hmem 61 (by decide))).trans (by rw [hLq];rfl);have e63:aU s 63=.ptr 0 6:=(hs 63 (hmem 63 (by decide))).trans (by rw [hLq];rfl);have e64:aU s 64=iv o.Old:=(hs 64 (hmem 64 (by decide))).trans (by rw [hLq];rfl);have e66:aU s 66=.v (.bool me):=(hs 66 (hmem 66 (by decide))).trans (by rw [hLq];rfl);have e67:aU s 67=.ptr 0 8:=(hs 67 (hmem 67 (by decide))).trans (by rw [hLq];rfl);have e68:aU s 68=iv o.Role:=(hs 68 (hmem 68 (by decide))).trans (by rw [hLq];rfl);have e70:aU s 70=.ptr 0 13:=(hs 70 (hmem 70 (by decide))).trans (by rw [hLq];rfl);have e71:aU s 71=iv o.N:=(hs 71 (hmem 71 (by decide))).trans (by rw [hLq];rfl);have e73:aU s 73=.ptr 0 21:=(hs 73 (hmem 73 (by decide))).trans (by rw [hLq];rfl);have e74:aU s 74=iv o.Wait:=(hs 74 (hmem 74 (by decide))).trans (by rw [hLq];rfl);have e76:aU s 76=.ptr 0 20:=(hs 76 (hmem 76 (by decide))).trans (by rw [hLq];rfl);have e77:aU s 77=iv o.Need:=(hs 77 (hmem 77 (by decide))).trans (by rw [hLq];rfl);have e78:aU s 78=iv nd:=(hs 78 (hmem 78 (by decide))).trans (by rw [hLq];rfl);have e79:aU s 79=iv mo:=(hs 79 (hmem 79 (by decide))).trans (by rw [hLq];rfl);have e81:aU s 81=.ptr 0 10:=(hs 81 (hmem 81 (by decide))).trans (by rw [hLq];rfl);have e82:aU s 82=.ag o.Epoch.A:=(hs 82 (hmem 82 (by decide))).trans (by rw [hLq];rfl);have e84:aU s 84=.ptr 0 16:=(hs 84 (hmem 84 (by decide))).trans (by rw [hLq];rfl);have e85:aU s 85=.ag o.Of.A:=(hs 85 (hmem 85 (by decide))).trans (by rw [hLq];rfl);have e87:aU s 87=.ptr 0 23:=(hs 87 (hmem 87 (by decide))).trans (by rw [hLq];rfl);have e88:aU s 88=uv o.Pub:=(hs 88 (hmem 88 (by decide))).trans (by rw [hLq];rfl);have e1:aU s 1=iv (k:Int):=(hs 1 (hmem 1 (by decide))).trans (by rw [hLq];exact g1);have e2:aU s 2=.ptr 0 0:=(hs 2 (hmem 2 (by decide))).trans (by rw [hLq];exact g2);have e5:aU s 5=iv le:=(hs 5 (hmem 5 (by decide))).trans (by rw [hLq];exact g5);have e6:aU s 6=iv nd:=(hs 6 (hmem 6 (by decide))).trans (by rw [hLq];exact g6);have e7:aU s 7=iv mo:=(hs 7 (hmem 7 (by decide))).trans (by rw [hLq];exact g7);have e8:aU s 8=.v (.bool me):=(hs 8 (hmem 8 (by decide))).trans (by rw [hLq];exact g8);rw [hp] at ho';simp only [gK,pQ,or_false] at hqm;rcases hqm with rfl | rfl | rfl | rfl | rfl | rfl | rfl | rfl | rfl | rfl | rfl | rfl | rfl | rfl | rfl | rfl | rfl | rfl | rfl | rfl | rfl | rfl<;>(obtain rfl:=Option.some.inj ho';simp only [go_sem,eT,e59,e60,e61,e63,e64,e66,e67,e68,e70,e71,e73,e74,e76,e77,e78,e79,e81,e82,e84,e85,e87,e88,e1,e2,e5,e6,e7,e8])
 ·intro X hX;rw [hXE vs hvs] at hX;have hX2:X.Perm (DL o):=hX;have hall:NC k X=NC k (DL o):=by
   unfold NC;rw [oU,kY,kY];exact ⟨λh x hx=>h x (hX2.mem_iff.2 hx),λh x hx=>h x (hX2.mem_iff.1 hx)⟩
  have hkX:∀ e∈X,∃ j:Nat,e.1=(j:Int)∧j<65536:=λe he=>by
   have:=hX2.mem_iff.1 he;simp only [DL,gK,pQ,or_false] at this;rcases this with rfl | rfl | rfl | rfl | rfl | rfl | rfl | rfl | rfl | rfl
   ·exact ⟨1,rfl,by decide⟩
   ·exact ⟨2,rfl,by decide⟩
   ·exact ⟨4,rfl,by decide⟩
   ·exact ⟨8,rfl,by decide⟩
   ·exact ⟨64,rfl,by decide⟩
   ·exact ⟨4096,rfl,by decide⟩
   ·exact ⟨2048,rfl,by decide⟩
   ·exact ⟨32,rfl,by decide⟩
   ·exact ⟨512,rfl,by decide⟩
   ·exact ⟨16384,rfl,by decide⟩
  have hlen:X.length=10:=hX2.length_eq;rw [←hall] at hrest;clear hX hX2 hE hXE hall;have hgc:=Ro (r:=0) (T:=[some (.box o.A)]++[some (MP X),some (.mit (some 1) X.length [] X.length)]) (s:=(91,.ptr 2 0)::(90,.mp 1)::N5 58 [⟨4,62,bI,[.tmp 60,.tmp 61,.const (.int .i64 12)]⟩,⟨8,65,bI,[.tmp 64,.const (.int .i64 1),.const (.int .i64 12)]⟩,⟨14,69,bI,[.tmp 68,.const (.int .i64 1),.const (.int .i64 3)]⟩,⟨18,72,bI,[.tmp 71,.const (.int .i64 0),.const (.int .i64 2147483647)]⟩,⟨22,75,bI,[.tmp 74,.const (.int .i64 0),.const (.int .i64 2147483647)]⟩,⟨28,80,bI,[.tmp 77,.tmp 78,.tmp 79]⟩,⟨32,83,dW,[.tmp 82]⟩,⟨36,86,dW,[.tmp 85]⟩,⟨40,89,iL,[.tmp 88]⟩] (Lq++s1) 1 vs true 9) (t:=(91,.ptr 2 0)::(90,.mp 1)::N5 58 [⟨4,62,bI,[.tmp 60,.tmp 61,.const (.int .i64 12)]⟩,⟨8,65,bI,[.tmp 64,.const (.int .i64 1),.const (.int .i64 12)]⟩,⟨14,69,bI,[.tmp 68,.const (.int .i64 1),.const (.int .i64 3)]⟩,⟨18,72,bI,[.tmp 71,.const (.int .i64 0),.const (.int .i64 2147483647)]⟩,⟨22,75,bI,[.tmp 74,.const (.int .i64 0),.const (.int .i64 2147483647)]⟩,⟨28,80,bI,[.tmp 77,.tmp 78,.tmp 79]⟩,⟨32,83,dW,[.tmp 82]⟩,⟨36,86,dW,[.tmp 85]⟩,⟨40,89,iL,[.tmp 88]⟩] (Lq++[(1,iv k),(2,.ptr 0 0),(5,iv le),(6,iv nd),(7,iv mo),(8,.v (.bool me))]) 1 vs true 9)
   ?_ ((((hp1.append_left Lq).append_right _).cons _).cons _)
  ·rw [show ([some (AObj.box o.A)]:aQ).length=1 from rfl,show ([⟨4,62,bI,[.tmp 60,.tmp 61,.const (.int .i64 12)]⟩,⟨8,65,bI,[.tmp 64,.const (.int .i64 1),.const (.int .i64 12)]⟩,⟨14,69,bI,[.tmp 68,.const (.int .i64 1),.const (.int .i64 3)]⟩,⟨18,72,bI,[.tmp 71,.const (.int .i64 0),.const (.int .i64 2147483647)]⟩,⟨22,75,bI,[.tmp 74,.const (.int .i64 0),.const (.int .i64 2147483647)]⟩,⟨28,80,bI,[.tmp 77,.tmp 78,.tmp 79]⟩,⟨32,83,dW,[.tmp 82]⟩,⟨36,86,dW,[.tmp 85]⟩,⟨40,89,iL,[.tmp 88]⟩]:List CE).length=9 from rfl,hgc,hLq];simp only [go_sem,N5];clear hgc;refine bU (λn st=>∃ seen:List Nat,n=10-seen.length∧seen.Nodup∧(∀ b∈seen,b<X.length)∧(∀ b∈seen,∀ h:b<X.length,((k &&& X[b].1.toNat==0)||X[b].2)=true)∧st=⟨0,[(1,iv k),(2,.ptr 0 0),(91,.ptr 1 0)],[some (.box o.A),some (.mit (some 2) X.length seen X.length),some (MP X)]⟩) 10 ⟨[],rfl,Nd,λb hb=>by simp at hb,λb hb=>by simp at hb,?_⟩ ?_
   ·simp only [go_sem,MP]
   rintro n st ⟨seen,rfl,hn,hs,hok,rfl⟩;have hsl:seen.length≤10:=by
    have h1:seen.length≤(List.range X.length).length:=vA hn λb hb=>rV.2 (hs b hb);simpa [hlen] using h1
   simp only [go_sem];refine aDD (i:=1) (j:=2) rfl rfl (fW _) (fW _) (λhall=>?_) λb hb hns=>?_
   ·have hX:NC k X=true:=by
     unfold NC;rw [kY];intro x hx;obtain ⟨j,hj,rfl⟩:=AH hx;exact hok j (hall j hj) hj
    rw [hX,jG] at hrest;have q1:=ho.guards.1;have q2:=ho.refs.1;have q3:=ho.past.1;have q4:=ho.path.1;have q5:=ho.boxes.1;have q6:=ho.hist.1;simp only [go_sem]
    repeat' (first
     | ((with_reducible refine aM (λh=>?_) (λh=>?_))<;>(try simp only [rU,nH,nW] at h)<;>simp only [go_sem,h,undef])
     | (with_reducible refine dB (f:=wK) ?_;refine aB (aA _) rfl (XO uM xR o.Guards (by omega) λx _=>Tz x) rfl ?_;simp only [go_sem,undef])
     | (with_reducible refine dB (f:=qN) ?_;refine aB (aA _) rfl (XR Bv PG o.Refs (by omega) λx _=>Jw (x:Int)) rfl ?_;simp only [go_sem,undef])
     | (with_reducible refine dB (f:=mN) ?_;refine aB (aA _) rfl (Z1 dW iJ o.Past (by omega) λx _=>B1 x) rfl ?_;simp only [go_sem,undef])
     | (with_reducible refine dB (f:=iU) ?_;refine aB (aA _) rfl (Ll uK DM o.Path (by omega) λx hx=>Tx x (ho.path.2 x hx)) rfl ?_;simp only [go_sem,undef])
     | (with_reducible refine dB (f:=lR) ?_;refine aB (aA _) rfl (Nz tY sD o.Boxes (by omega) λx _=>Le x) rfl ?_;simp only [go_sem,undef])
     | (with_reducible refine dB (f:=gN) ?_;refine aB (aA _) rfl (Lm uL DN o.Hist (by omega) λx _=>Ty x) rfl ?_;simp only [go_sem,undef]))
    all_goals rw [hrest]
    all_goals simp [*]
   ·obtain ⟨j,h1,h2⟩:=hkX X[b] (jY hb);have h3:(X.map λe=>[Value.int .i64 e.1])[b]?=some [.int .i64 (j:Int)]:=by simp [hb,h1]
    have h4:(X.map λe=>AV.v (.bool e.2))[b]?=some (.v (.bool X[b].2)):=by simp [hb]
    have hkv:iH false [Value.int .i64 (j:Int)]=.int .i64 (j:Int):=cH rfl rfl;have hor:=XJ k j hk h2;have hfin:((k &&& X[b].1.toNat==0)||X[b].2)=true→∃ m,m<10-seen.length∧∃ seen':List Nat,m=10-seen'.length∧seen'.Nodup∧(∀ b∈seen',b<X.length)∧(∀ b∈seen',∀ h:b<X.length,((k &&& X[b].1.toNat==0)||X[b].2)=true)∧(⟨0,[(1,iv k),(2,.ptr 0 0),(91,.ptr 1 0)],[some (.box o.A),some (.mit (some 2) X.length (seen++[b]) X.length),some (MP X)]⟩:St)=⟨0,[(1,iv k),(2,.ptr 0 0),(91,.ptr 1 0)],[some (.box o.A),some (.mit (some 2) X.length seen' X.length),some (MP X)]⟩:=λhv=>by
     have hn2:(seen++[b]).Nodup:=HN.2 ⟨hn,by simp,λx hx y hy e=>hns (by rw [gZ] at hy;rw [←hy,←e];exact hx)⟩;have hl2:(seen++[b]).length≤(List.range X.length).length:=vA hn2 λx hx=>rV.2 ((eO.1 hx).elim (hs x) λh=>by rw [gZ.1 h];exact hb);simp [hlen] at hl2;refine ⟨10-(seen++[b]).length,by simp;omega,seen++[b],rfl,hn2,λx hx=>(eO.1 hx).elim (hs x) λh=>by rw [gZ.1 h];exact hb,λx hx hxl=>?_,rfl⟩;rcases eO.1 hx with h | h
     ·exact hok x h hxl
     ·obtain rfl:=gZ.1 h;exact hv
    have hbad:((k &&& X[b].1.toNat==0)||X[b].2)=false→AS o k=false:=λhv=>by
     rw [hrest];have:NC k X=false:=by
      unfold NC;rw [List.all_eq_false];exact ⟨X[b],jY hb,by rw [hv];simp⟩
     rw [this,nG]
    rw [h1] at hfin hbad;simp only [KK] at hfin hbad;have hne:(((k &&& j:Nat):Int)!=0)=!(k &&& j==0):=by rw [oU];simp
    generalize X[b].2=t at h4 hfin hbad;simp only [go_sem,MP,U1,AR hb,h3,h4,↓hkv,↓hor,hne,h1];generalize (k &&& j==0)=u at hfin hbad;cases u<;>cases t<;>simp only [go_sem,MP,U1]
    all_goals first
     | exact hfin rfl
     | rw [hbad rfl]
  ·have hpm:(((91,AV.ptr 2 0)::(90,AV.mp 1)::N5 58 [⟨4,62,bI,[.tmp 60,.tmp 61,.const (.int .i64 12)]⟩,⟨8,65,bI,[.tmp 64,.const (.int .i64 1),.const (.int .i64 12)]⟩,⟨14,69,bI,[.tmp 68,.const (.int .i64 1),.const (.int .i64 3)]⟩,⟨18,72,bI,[.tmp 71,.const (.int .i64 0),.const (.int .i64 2147483647)]⟩,⟨22,75,bI,[.tmp 74,.const (.int .i64 0),.const (.int .i64 2147483647)]⟩,⟨28,80,bI,[.tmp 77,.tmp 78,.tmp 79]⟩,⟨32,83,dW,[.tmp 82]⟩,⟨36,86,dW,[.tmp 85]⟩,⟨40,89,iL,[.tmp 88]⟩] (Lq++s1) 1 vs true 9).map (·.1)).Perm (91::90::(([88,87,85,84,82,81,79,78,77,76,74,73,71,70,68,67,66,64,63,61,60,59]++[1,2,5,6,7,8])++[62,65,69,72,75,80,83,86,89,58])):=by
    simp only [cN];refine List.Perm.cons _ (List.Perm.cons _ ?_);rw [N5,gQ];exact hk0.append_right _
   exact hpm.nodup_iff.2 (by decide)
 ·simp only [N5,jZ,if_false,mL,eQ,kT,hLq];exact ZC _
 ·intro j;simp
end
end
section
def BH {α:Type} {lt:α→α→Bool}:∀ {l:List α},kP lt l=true↔∀ j (h:j+1<l.length),lt l[j] l[j+1]=true
 | []=>by simp [kP]
 | [x]=>by simp [kP]
 | x::y::l=>by
  simp only [kP,eM,BH (l:=y::l)];constructor
  ·rintro ⟨h1,h2⟩ j hj
   cases j with
   | zero=>exact h1
   | succ j=>exact h2 j (by simpa using hj)
  ·intro h;exact ⟨h 0 (by simp),λj hj=>h (j+1) (by simpa using hj)⟩
def V1 {α:Type} {lt:α→α→Bool} {l:List α} {i:Nat} (hi:i+1<l.length) (h:lt l[i] l[i+1]=false):kP lt l=false:=by
 cases e:kP lt l with
 | false=>rfl
 | true=>have:=BH.1 e i hi;rw [h] at this;simp at this
section
variable {G:Nat→Option (List AV)}
set_option maxHeartbeats 4000000
def aEO (o:OpM) (ho:o.ok):aC PQ G Bu [.ag o.A] [] λr T=>r=.v (.bool (FC o))∧T=[]:=by
 refine aF M8 (by decide) ?_;have l1:=ho.path.1;have l2:=ho.hist.1;simp only [go_sem];refine aO o.Path.length (λi=>⟨0,[(1,.ptr 0 0),(3,iv i)],[some (.box o.A)]⟩) (λi=>∀ j (hj:j<o.Path.length),j<i→(λn:NodeM=>decide ((n.Boxes.length:Int)≤12)) o.Path[j]=true) ?_ (by intro j hj h;omega) ?_ ?_
 ·simp only [go_sem]
 ·intro i hi hJ;have g0:(o.Path.map NodeM.A)[i]?=some [uv o.Path[i].Pub,C0 o.Path[i].Boxes]:=aP _ o.Path i hi;simp only [go_sem,aL,aT hi,hi,g0]
  repeat' (first
   | ((with_reducible refine aM (λh=>?_) (λh=>?_))<;>(try simp only [rU,nH,nW] at h)<;>simp only [go_sem,aL,hi,g0,aG (show i<9223372036854775807 by omega),h,undef]))
  all_goals first
   | (refine nU (p:=λn:NodeM=>decide ((n.Boxes.length:Int)≤12)) hi hJ ?_;clear hJ g0;generalize o.Path[i]=x at *;simp at *;omega)
   | (have e:=yC (p:=λn:NodeM=>decide ((n.Boxes.length:Int)≤12)) hi (by clear hJ g0;generalize o.Path[i]=x at *;simp at *;omega);simp only [FC,e,nW,KV,E5])
 intro hJ;have h3:=yD (p:=λn:NodeM=>decide ((n.Boxes.length:Int)≤12)) hJ;clear hJ;simp only [go_sem,aL,aX (cZ _)];refine aO o.Hist.length (λi=>⟨0,[(1,.ptr 0 0),(4,iv i)],[some (.box o.A)]⟩) (λi=>∀ j (hj:j<o.Hist.length),j<i→(λx:SealM=>decide ((x.Body.length:Int)≤208)) o.Hist[j]=true) ?_ (by intro j hj h;omega) ?_ ?_
 ·simp only [go_sem]
 ·intro i hi hJ;have g0:(o.Hist.map SealM.A)[i]?=some [.v (.int .i64 o.Hist[i].Of.a),.v (.int .i64 o.Hist[i].Of.b),.v (.int .u64 o.Hist[i].Of.c),.ls 1 (bl o.Hist[i].Body)]:=aP _ o.Hist i hi;simp only [go_sem,aL,aT hi,hi,g0]
  repeat' (first
   | ((with_reducible refine aM (λh=>?_) (λh=>?_))<;>(try simp only [rU,nH,nW] at h)<;>simp only [go_sem,aL,hi,g0,aG (show i<9223372036854775807 by omega),h,undef]))
  all_goals first
   | (refine nU (p:=λx:SealM=>decide ((x.Body.length:Int)≤208)) hi hJ ?_;clear hJ g0;generalize o.Hist[i]=x at *;simp at *;omega)
   | (have e:=yC (p:=λx:SealM=>decide ((x.Body.length:Int)≤208)) hi (by clear hJ g0;generalize o.Hist[i]=x at *;simp at *;omega);simp only [FC,e,nW,KV,E5])
 intro hJ;have h4:=yD (p:=λx:SealM=>decide ((x.Body.length:Int)≤208)) hJ;clear hJ;simp only [go_sem,aL,aX (cZ _)]
 repeat' (first
  | ((with_reducible refine aM (λh=>?_) (λh=>?_))<;>(try simp only [rU,nH,nW] at h)<;>simp only [go_sem,aL,h,undef])
  | (with_reducible refine dB (f:=dC) ?_;refine aB (aA _) rfl (DI _ _ _) rfl ?_;simp only [go_sem,aL,undef]))
 all_goals simp only [FC, *,nH,KV,E5,KU,Ci,if_true,if_false,jZ]
def aCs (o:OpM) (ho:o.ok):aC PQ G C8 [.ag o.A] [] λr T=>r=.v (.int .i64 (uD o))∧T=[]:=by
 refine aF LQ (by decide) ?_;have l1:=ho.past.1;have l2:=ho.guards.1;have fin:∀ {a b:Int},a=b→AV.v (.int .i64 a)=.v (.int .i64 b):=λh=>by rw [h]
 simp only [go_sem]
 repeat' (first
  | ((with_reducible refine aM (λh=>?_) (λh=>?_))<;>(try simp only [rU,nH,nW] at h)<;>simp only [go_sem,aL,gt_iff_lt,h,undef])
  | (with_reducible refine dB (f:=Bt) ?_;refine aB (aA _) rfl (aEA o) rfl ?_;simp only [go_sem,aL,gt_iff_lt,undef])
  | (with_reducible refine dB (f:=uJ) ?_;refine aB (aA _) rfl (Xb o) rfl ?_;simp only [go_sem,aL,gt_iff_lt,undef])
  | (with_reducible refine dB (f:=zG) ?_;refine aB (aA _) rfl (aCp o ho) rfl ?_;simp only [go_sem,aL,gt_iff_lt,undef])
  | (with_reducible refine dB (f:=Bu) ?_;refine aB (aA _) rfl (aEO o ho) rfl ?_;simp only [go_sem,aL,gt_iff_lt,undef]))
 all_goals try (simp only [decide_eq_true_eq,decide_eq_false_iff_not] at *;simp [uD, *];done)
 rename_i h1 h2 h3 h4 h5;have h6:=h;clear h;simp only [decide_eq_false_iff_not] at h1 h2;have hpre:uD o=if kP Id.lt o.Past=false then 6 else if kP (λa b:Int=>decide (a<b)) o.Guards=false then 6 else if decide (o.Past.length=0)≠decide (o.Kind=1) then 10 else 0:=by
  simp [uD,h1,h2,h3,h4,h5,h6]
 refine aO (o.Past.length-1) (λi=>⟨0,[(1,.ptr 0 0),(3,iv ((i+1:Nat):Int))],[some (.box o.A)]⟩) (λi=>∀ j (hj:j+1<o.Past.length),j<i→o.Past[j].lt o.Past[j+1]=true) ?_ (by intro j hj h;omega) ?_ ?_
 ·simp only [go_sem]
 ·intro i hi hJ;have g0:(o.Past.map Id.A)[i]?=some o.Past[i].A:=aP _ o.Past i (by omega);have g1:(o.Past.map Id.A)[i+1]?=some o.Past[i+1].A:=aP _ o.Past (i+1) (by omega);simp only [go_sem,aL,aT (show i+1<o.Past.length by omega),show i<o.Past.length by omega,show i+1<o.Past.length by omega,g0,g1,Aw (show i<9223372036854775807 by omega)];refine aB (aA _) rfl (Ft o.Past[i] o.Past[i+1]) rfl ?_;simp only [go_sem];refine aM (λh=>?_) (λh=>?_)<;>simp only [go_sem,aG (show i+1<9223372036854775807 by omega)]
  ·rw [hpre,if_pos (V1 (show i+1<o.Past.length by omega) (by simpa using h))]
  ·intro j hj hji;rcases bY j i with h7 | h7
   ·exact hJ j hj h7
   ·obtain rfl:j=i:=by omega
    simpa using h
 intro hJ;have hr1:kP Id.lt o.Past=true:=BH.2 λj hj=>hJ j hj (by omega);rw [if_neg (by simp [hr1])] at hpre;simp only [go_sem,aL,aX (show ¬(o.Past.length-1+1<o.Past.length) by omega)];clear hJ;refine aO (o.Guards.length-1) (λi=>⟨0,[(1,.ptr 0 0),(4,iv ((i+1:Nat):Int))],[some (.box o.A)]⟩) (λi=>∀ j (hj:j+1<o.Guards.length),j<i→decide (o.Guards[j]<o.Guards[j+1])=true) ?_ (by intro j hj h;omega) ?_ ?_
 ·simp only [go_sem]
 ·intro i hi hJ;have g0:(o.Guards.map λn=>[iv n])[i]?=some [iv o.Guards[i]]:=aP _ o.Guards i (by omega);have g1:(o.Guards.map λn=>[iv n])[i+1]?=some [iv o.Guards[i+1]]:=aP _ o.Guards (i+1) (by omega);simp only [go_sem,aL,aT (show i+1<o.Guards.length by omega),show i<o.Guards.length by omega,show i+1<o.Guards.length by omega,g0,g1,Aw (show i<9223372036854775807 by omega)];refine aM (λh=>?_) (λh=>?_)<;>simp only [go_sem,aG (show i+1<9223372036854775807 by omega)]
  ·rw [hpre,if_pos (V1 (show i+1<o.Guards.length by omega) (by simp at h ⊢;omega))]
  ·intro j hj hji;rcases bY j i with h7 | h7
   ·exact hJ j hj h7
   ·obtain rfl:j=i:=by omega
    simp at h ⊢;omega
 intro hJ;have hr2:kP (λa b:Int=>decide (a<b)) o.Guards=true:=BH.2 λj hj=>hJ j hj (by omega);rw [if_neg (by simp [hr2])] at hpre;simp only [go_sem,aL,aX (show ¬(o.Guards.length-1+1<o.Guards.length) by omega)];rw [hpre];have hp:((o.Past.length:Int)==0)=decide (o.Past.length=0):=by rw [oU];simp
 have hk:(o.Kind==1)=decide (o.Kind=1):=rfl;rw [hp,hk];generalize decide (o.Past.length=0)=a;generalize decide (o.Kind=1)=b;cases a<;>cases b<;>simp only [go_sem]<;>rfl
end
end
section
def GK (G:Nat→Option (List AV)):Prop:=G 0=some (pU.map λn:Nat=>iv (n:Int))
def Pc (a b:Nat) (ha:a<65536) (hb:b<65536):aZ .andNot (.int .i64 (a:Int)) (.int .i64 (b:Int))=some (.int .i64 ((kG a b:Nat):Int)):=by
 have hc:kG a b<65536:=by
  unfold kG;rw [KR];refine Qh Y8 ?_;rw [BitVec.toNat_ofNat];omega
 have h1:(BitVec.ofInt IntKind.i64.bits (a:Int) &&& ~~~(BitVec.ofInt IntKind.i64.bits (b:Int))).toNat=kG a b:=by
  show (BitVec.ofInt 64 (a:Int) &&& ~~~(BitVec.ofInt 64 (b:Int))).toNat=kG a b;unfold kG;rw [BitVec.ofInt_natCast,BitVec.ofInt_natCast]
 simp only [aZ,if_true,h1];rw [aJ (by omega) (by omega)]
def rr {α:Type} (lt:α→α→Bool) (d:α) (l:List α) (i:Nat):Bool:=(List.range i).all λj=>lt (l.getD j d) (l.getD (j+1) d)
def aA5 {α:Type} {lt:α→α→Bool} {d:α} {l:List α} {i:Nat} (hi:i+1<l.length):rr lt d l (i+1)=(rr lt d l i&&lt l[i] l[i+1]):=by
 unfold rr;rw [Nc,VH];simp [fG,fV hi,fV (show i<l.length by omega)]
def aA6 {α:Type} {lt:α→α→Bool} {d:α} {l:List α}:rr lt d l (l.length-1)=kP lt l:=by
 rw [oU,BH];unfold rr;rw [kY];constructor
 ·intro h j hj;have:=h j (rV.2 (by omega));simpa [fG,fV hj,fV (show j<l.length by omega)] using this
 ·intro h j hj;have hj:=rV.1 hj;have:=h j (by omega);simpa [fG,fV (show j+1<l.length by omega),fV (show j<l.length by omega)] using this
section
variable {G:Nat→Option (List AV)}
set_option maxHeartbeats 4000000
def T4 (hK:GK G) (o:OpM) (ho:o.ok):aC PQ G Fk [.ag o.A] [] λr T=>r=.v (.int .i64 (xS o))∧T=[]:=by
 refine aF M9 (by decide) ?_;obtain ⟨c,hc⟩:∃ c,c=pU.map λn:Nat=>iv (n:Int):=⟨_,rfl⟩
 have hG:G 0=some c:=by rw [hc];exact hK
 have hpk:(0:Int)≤o.Kind→o.Kind<14→(c.drop o.Kind.toNat)[0]?=some (iv (rL o.Kind:Nat)):=λh1 h2=>by
  subst hc;obtain ⟨n,hn⟩:∃ n:Nat,o.Kind=(n:Int):=⟨o.Kind.toNat,by omega⟩
  rw [hn,rL,KK];have:n<14:=by omega
  clear h1 h2 hn;have key:∀ n,n<14→((pU.map λn:Nat=>iv (n:Int)).drop n)[0]?=some (iv ((pU.getD n 0:Nat):Int)):=λn h=>by
   rw [FN,yN,eD,fG];have:n<pU.length:=h;simp [this]
  exact key n this
 clear hc hK;simp only [go_sem,gt_iff_lt];refine aM (λh=>?_) (λh=>?_)<;>simp only [rU,nH,nW,decide_eq_false_iff_not,decide_eq_true_eq] at h;rotate_left
 ·simp only [go_sem,decide_eq_true h];rw [xS,if_pos (.inl h)]
 have k1:=h;simp only [go_sem,gt_iff_lt,decide_eq_false k1];refine aM (λh=>?_) (λh=>?_)<;>simp only [rU,nH,nW,decide_eq_false_iff_not,decide_eq_true_eq] at h;rotate_left
 ·simp only [go_sem,decide_eq_false k1,decide_eq_true h,undef,hG];rw [xS,if_pos (.inr h)]
 have k2:=h;have hgk:=hpk (by omega) (by omega);have p1:0≤o.Kind:=by omega
 have p2:o.Kind<14:=by omega
 have hpre:xS o=if kG (nT (gE o)) (rL o.Kind)≠0 then 1 else if AS o (rL o.Kind)=false then 8 else if FC o then 2 else if Zy o=false then 6 else if decide (o.Past.length=0)≠decide (o.Kind=1) then 10 else 0:=by
  rw [xS,if_neg (by omega)]
 have b1:=Pc (nT (gE o)) (rL o.Kind) (Lh o) (PH o.Kind);simp only [go_sem,gt_iff_lt,decide_eq_false k1,decide_eq_false k2,hG,hgk,p1,p2,Int.mul_one,CL];refine aB (aA _) rfl (Xe o) rfl ?_;have hz:(((kG (nT (gE o)) (rL o.Kind):Nat):Int)!=0)=decide (kG (nT (gE o)) (rL o.Kind)≠0):=by
  generalize kG (nT (gE o)) (rL o.Kind)=x;rw [oU];simp
 simp only [go_sem,gt_iff_lt,hG,hgk,p1,p2,Int.mul_one,CL,↓b1,hz];refine aM (λh=>?_) (λh=>?_)<;>simp only [decide_eq_false_iff_not,decide_eq_true_eq] at h
 ·simp only [go_sem];rw [hpre,if_pos h]
 rw [if_neg h] at hpre;clear b1 hz h;have q1:=ho.past.1;have q2:=ho.guards.1;have w1:IntKind.i64.wrap ((o.Past.length:Int)-1)=(o.Past.length:Int)-1:=aJ (by omega) (by omega);have w2:IntKind.i64.wrap ((o.Guards.length:Int)-1)=(o.Guards.length:Int)-1:=aJ (by omega) (by omega);simp only [go_sem,aL,w1];refine aO (o.Past.length-1) (λi=>⟨0,[(1,.ptr 0 0),(3,.v (.bool (rr Id.lt default o.Past i))),(27,iv ((o.Past.length:Int)-1)),(28,iv i)],[some (.box o.A)]⟩) (λ_=>True) ?_ trivial ?_ ?_
 ·simp only [go_sem];rfl
 ·intro i hi _;have d1:decide ((i:Int)<(o.Past.length:Int)-1)=true:=decide_eq_true (by omega);have g0:(o.Past.map Id.A)[i]?=some o.Past[i].A:=aP _ o.Past i (by omega);have g1:(o.Past.map Id.A)[i+1]?=some o.Past[i+1].A:=aP _ o.Past (i+1) (by omega);have ws:=aG (show i<9223372036854775807 by omega);rw [aA5 (show i+1<o.Past.length by omega)];generalize rr Id.lt default o.Past i=b;simp only [go_sem,aL,d1];cases b
  ·simp only [go_sem,aL,undef,ws,nG]
  ·simp only [go_sem,aL,undef,ws,show i<o.Past.length by omega,show i+1<o.Past.length by omega,g0,g1];refine aB (aA _) rfl (H9 o.Past[i] o.Past[i+1]) rfl ?_;simp only [go_sem,aL,undef,ws,jG,show i<o.Past.length by omega,show i+1<o.Past.length by omega,g0,g1]
 intro _;have d1:decide (((o.Past.length-1:Nat):Int)<(o.Past.length:Int)-1)=false:=decide_eq_false (by omega);rw [aA6];simp only [go_sem,aL,d1,w2];refine aO (o.Guards.length-1) (λi=>⟨0,[(1,.ptr 0 0),(3,.v (.bool (kP Id.lt o.Past&&rr (λa b:Int=>decide (a<b)) 0 o.Guards i))),(50,iv ((o.Guards.length:Int)-1)),(51,iv i)],[some (.box o.A)]⟩) (λ_=>True) ?_ trivial ?_ ?_
 ·simp only [go_sem,rr,KS,VM]
 ·intro i hi _;have d1:decide ((i:Int)<(o.Guards.length:Int)-1)=true:=decide_eq_true (by omega);have g0:(o.Guards.map λn=>[iv n])[i]?=some [iv o.Guards[i]]:=aP _ o.Guards i (by omega);have g1:(o.Guards.map λn=>[iv n])[i+1]?=some [iv o.Guards[i+1]]:=aP _ o.Guards (i+1) (by omega);have ws:=aG (show i<9223372036854775807 by omega);rw [aA5 (show i+1<o.Guards.length by omega),←Qo];generalize (kP Id.lt o.Past&&rr (λa b:Int=>decide (a<b)) 0 o.Guards i)=b;simp only [go_sem,aL,d1];cases b
  ·simp only [go_sem,aL,undef,ws,nG]
  ·simp only [go_sem,aL,undef,ws,show i<o.Guards.length by omega,show i+1<o.Guards.length by omega,g0,g1,jG]
 intro _;have d2:decide (((o.Guards.length-1:Nat):Int)<(o.Guards.length:Int)-1)=false:=decide_eq_false (by omega);rw [aA6];have hrow:(kP Id.lt o.Past&&kP (λa b:Int=>decide (a<b)) o.Guards)=Zy o:=rfl;simp only [go_sem,aL,d2,hrow,hG,hgk,p1,p2,Int.mul_one,CL];refine aB (aA _) rfl (Ru o ho (rL o.Kind) (PH _)) rfl ?_;cases h1:AS o (rL o.Kind)
 ·simp only [go_sem];rw [hpre,if_pos h1]
 rw [if_neg (by simp [h1])] at hpre;simp only [go_sem];refine aB (aA _) rfl (Xf o ho) rfl ?_;cases h2:FC o;rotate_left
 ·simp only [go_sem];rw [hpre,if_pos h2]
 rw [if_neg (by simp [h2])] at hpre;simp only [go_sem];cases h3:Zy o
 ·simp only [go_sem];rw [hpre,if_pos h3]
 rw [if_neg (by simp [h3])] at hpre;rw [hpre];have hp:((o.Past.length:Int)==0)=decide (o.Past.length=0):=by rw [oU];simp
 have hk:(o.Kind==1)=decide (o.Kind=1):=rfl;simp only [go_sem,aL,hp,hk];generalize decide (o.Past.length=0)=a;generalize decide (o.Kind=1)=b;cases a<;>cases b<;>simp only [go_sem]<;>rfl
end
end
end Hud
section
namespace Hud
open Go Go.RowKit Go.WideShapes Go.ChangeShapes Go.Deep
def Fv:LK→Value→Prop
 | .int k,v=>∃ n,v=.int k n∧(Lit.int k n).wf=true
 | .bool,v=>∃ b,v=.bool b
 | .str,v=>∃ s,v=.string s∧s.size≤maxLen
def iX:List LK→List Value→Prop
 | [],vs=>vs=[]
 | k::ks,vs=>∃ v r,vs=v::r∧Fv k v∧iX ks r
def Rv {a b:List LK} {u v:List Value} (h:iX a u) (k:iX b v):iX (a++b) (u++v):=by
 induction a generalizing u with
 | nil=>simp only [iX] at h;subst h;simpa using k
 | cons x a ih =>
  simp only [iX] at h;obtain ⟨w,r,rfl,h1,h2⟩:=h;simp only [Ag,iX];exact ⟨w,r++v,rfl,h1,ih h2⟩
mutual
def L2 (P:Program):Nat→TypeId→Option (List LK)
 | 0,_=>none
 | n+1,t=>match P.underlying t with
  | some .bool=>some [.bool]
  | some (.int k)=>some [.int k]
  | some .string=>some [.str]
  | some (.struct fs)=>IA P n fs.toList 0
  | _=>none
def IA (P:Program):Nat→List Field→Nat→Option (List LK)
 | 0,_,_=>none
 | _+1,[],_=>some []
 | n+1,f::fs,off=>match L2 P n f.type,IA P n fs (off+P.cellsOf f.type) with
  | some a,some b=>if f.offset=off∧a.length=P.cellsOf f.type then some (a++b) else none
  | _,_=>none
end
section
variable {H:Type} {enc:TypeId×Value→H} {P:Program} {w:World} {base:Nat} {spare:Nat→Bool} {held:Bool}
mutual
def N7:∀ {n:Nat} {t:TypeId} {ks:List LK},L2 P n t=some ks→ks.length=P.cellsOf t→∀ {fuel:Nat} {cs:List Value} {x:DataW H×List MemPlace},DataW.trod enc P w base spare held fuel t cs=some x→iX ks cs
 | 0,_,_,h,_,_,_,_,_=>by simp [L2] at h
 | n+1,t,ks,h,hl,fuel,cs,x,e=>by
  simp only [L2] at h;split at h
  ·rename_i ht;injection h with h;subst h;obtain ⟨b,hc,_⟩:=DataW.trod_bool ht e;subst hc;simp [iX,Fv]
  ·rename_i k ht;injection h with h;subst h;obtain ⟨m,hc,_,hw⟩:=DataW.trod_int ht e;subst hc;simp [iX,Fv,hw]
  ·rename_i ht;injection h with h;subst h;obtain ⟨s,hc,_,hw⟩:=DataW.trod_string ht e;subst hc;simp [iX,Fv,hw]
  ·rename_i fs ht;obtain ⟨xs,m,_,_,hcl,hlen,hf⟩:=DataW.trod_struct ht e
   have:=N8 h (cs:=cs) (λi f hi=>by
    have h1:=hf i f (by simpa using hi);have h2:i<xs.length:=by
     rw [hlen];rcases bY i fs.size with hh | hh
     ·exact hh
     ·rw [gV (by simpa using hh)] at hi;simp at hi
    exact ⟨m,_,h1.trans (fV h2)⟩) (by rw [hcl,←hl,rW])
   simpa using this
  ·simp at h
def N8:∀ {n:Nat} {fs:List Field} {off:Nat} {ks:List LK},IA P n fs off=some ks→∀ {cs:List Value},(∀ (i:Nat) (f:Field),fs[i]?=some f→∃ fuel x,DataW.trod enc P w base spare held fuel f.type ((cs.drop f.offset).take (P.cellsOf f.type))=some x) →
  cs.length=off+ks.length→iX ks (cs.drop off)
 | 0,_,_,_,h,_,_,_=>by simp [IA] at h
 | n+1,[],off,ks,h,cs,hf,hl=>by
  simp only [IA,Option.some.injEq] at h;subst h;simp only [iX];exact Og (by simp at hl;omega)
 | n+1,f::fs,off,ks,h,cs,hf,hl=>by
  simp only [IA] at h;split at h
  ·rename_i a b h1 h2;split at h
   ·rename_i hc;injection h with h;subst h;obtain ⟨hc1,hc2⟩:=hc;obtain ⟨fuel,x,e⟩:=hf 0 f rfl;have ih1:=N7 h1 hc2 e;rw [dU] at hl;have ih2:=N8 h2 (cs:=cs) (λi g hi=>hf (i+1) g (by simpa using hi)) (by rw [←hc2];omega);rw [hc1] at ih1;have:cs.drop off=(cs.drop off).take (P.cellsOf f.type)++cs.drop (off+P.cellsOf f.type):=by
     rw [←GF,KO]
    rw [this];exact Rv ih1 ih2
   ·simp at h
  ·simp at h
end
end
def JS (w:World):GH:=λb=>match w.heap[b]? with | some (.cells cs _ _)=>some cs | _=>none
def aA7 (w:World) (φ:Nat→Value):Inv (JS w) φ w [] where
 gh:=λb cs e=>by
  unfold JS at e;split at e
  ·rename_i c E fr h;injection e with e;subst e;exact ⟨E,fr,h⟩
  ·simp at e
 obj:=λi o e=>by simp at e
 dis:=λi j oi oj b e=>by simp at e
def Xg {w:World} {b o:Nat} {v:Value} (h:w.cell? ⟨b,o,none⟩=some v):nZ (JS w) b o=some v:=by
 unfold World.cell? at h;unfold nZ JS;split at h
 ·rename_i c E fr h1;simp only at h1;rw [h1];simpa using h
 ·simp at h
def Rw {k:LK} {v:Value} (h:Fv k v):bB (.v v)=true:=by
 cases k with
 | int k=>obtain ⟨n,rfl,_⟩:=h;rfl
 | bool=>obtain ⟨b,rfl⟩:=h;rfl
 | str=>obtain ⟨s,rfl,_⟩:=h;rfl
def Rx {ks:List LK} {vs:List Value} (h:iX ks vs):∀ {i:Nat} {v:Value},vs[i]?=some v→∃ k,Fv k v:=by
 induction ks generalizing vs with
 | nil=>simp only [iX] at h;subst h;simp
 | cons k ks ih =>
  simp only [iX] at h;obtain ⟨u,r,rfl,h1,h2⟩:=h;intro i v hi
  cases i with
  | zero=>simp only [KH,Option.some.injEq] at hi;subst hi;exact ⟨k,h1⟩
  | succ i=>exact ih h2 (by simpa using hi)
section
variable {H:Type} {enc:TypeId×Value→H} {P:Program} {W:World} {base:Nat} {spare:Nat→Bool} {held:Bool} {h:GH} {φ:Nat→Value}
def aA8 {t e:TypeId} {ks:List LK} {n:Nat} (ht:P.underlying t=some (.slice e)) (hs:L2 P n e=some ks) (hk:ks.length=P.cellsOf e) (hk0:0<ks.length) {A:Option Addr} {l0 c0:Nat} {d:DataW H} {ps:List MemPlace}
  (hd:DataW.Trod enc P W base spare held t (.slice A l0 c0) d ps) :
  ∃ es:List (List Value),(∀ x∈es,iX ks x)∧es.length≤maxLen∧Rp (JS W) φ 0 (.ls ks.length (es.map λx=>x.map .v)) (.slice A l0 c0):=by
 obtain ⟨fuel,hd⟩:=hd;rcases open_slice ht hd with ⟨h1,_⟩ | ⟨a,len,cap,m,n',D,Pl,h1,_,h3,h4,hm,_,hel⟩
 ·obtain ⟨rfl,rfl,rfl⟩:A=none∧l0=0∧c0=0:=by simpa [Value.cells] using h1
  refine ⟨[],by simp,by simp,?_⟩;simp only [Rp,mB,eQ,kI];exact ⟨none,0,rfl,fW _,xC _,by simp⟩
 ·obtain ⟨rfl,rfl,rfl⟩:A=some a∧l0=len∧c0=cap:=by simpa [Value.cells] using h1
  have hlm:l0≤m:=by rw [hm];split<;>omega
  have hex:∀ i,∃ c':List Value,i<l0→(W.cells? base (a.add (i*P.cellsOf e)) (P.cellsOf e)=some c'∧iX ks c'):=by
   intro i;by_cases hi:i<l0
   ·obtain ⟨c',hc1,hc2⟩:=hel i (by omega);exact ⟨c',λ_=>⟨hc1,N7 hs hk hc2⟩⟩
   ·exact ⟨[],λhh=>absurd hh hi⟩
  refine ⟨(List.range l0).map λi=>(hex i).choose,?_,by simpa using nX h3 h4,?_⟩
  ·intro x hx;obtain ⟨i,hi,rfl⟩:=dE.1 hx;exact ((hex i).choose_spec (rV.1 hi)).2
  ·simp only [Rp,mB,aL,NY];refine ⟨some a,c0,rfl,h3,h4,?_⟩;rcases Oh l0 with h0 | h0
   ·exact .inl (by subst h0;rfl)
   ·refine .inr ?_;have hsp:a.spot=none:=by
     obtain ⟨c',c1,_⟩:=hel 0 (by omega);obtain ⟨_,e2,e3⟩:=World.cells?_some c1;have e4:=e3 0 (by omega);rw [fV (by rw [e2];omega),Nat.zero_mul] at e4;have:(a.add 0).add 0=a:=by simp [Addr.add]
     rw [this] at e4;unfold World.cell? at e4;split at e4
     ·split at e4
      ·simp at e4
      ·rename_i hs;simpa using hs
     ·simp at e4
    obtain ⟨b,o,sp⟩:=a;simp only at hsp;subst hsp;refine ⟨b,o,rfl,iY.mk λj e' hj=>?_⟩;rw [eD,eD] at hj;rcases bY j l0 with hjl | hjl
    ·rw [Yv hjl] at hj;simp only [kZ,Option.some.injEq] at hj;subst hj;obtain ⟨c1,c2⟩:=(hex j).choose_spec hjl;obtain ⟨_,e2,e3⟩:=World.cells?_some c1;refine ⟨by rw [aL,e2,hk],lA.mk λi c hc=>?_⟩;rw [eD] at hc
     cases hv:(hex j).choose[i]? with
     | none=>rw [hv] at hc;simp at hc
     | some u =>
      rw [hv] at hc;simp only [kZ,Option.some.injEq] at hc;subst hc;obtain ⟨k,hk'⟩:=Rx c2 hv;have hi:i<P.cellsOf e:=by
       rw [←e2];rcases bY i (hex j).choose.length with hh | hh
       ·exact hh
       ·rw [gV hh] at hv;simp at hv
      have e4:=e3 i hi;rw [hv] at e4;refine ⟨u,Rw hk',?_,by simp [mB]⟩;have:((Addr.mk b o none).add (j*P.cellsOf e)).add i=⟨b,o+j*ks.length+i,none⟩:=by
       rw [hk];by_cases h1:j*P.cellsOf e=0<;>by_cases h2:i=0<;>simp [Addr.add,h1,h2,Nf]
      rw [this] at e4;exact Xg e4
    ·rw [gV (by simpa using hjl)] at hj;simp at hj
def aEP {n:Int} (hw:(Lit.int .i64 n).wf=true):-9223372036854775808≤n∧n≤9223372036854775807:=by
 simp only [Lit.wf,eM,decide_eq_true_eq] at hw;exact hw
def V2:∀ {es:List (List Value)},(∀ x∈es,iX [.int .i64] x)→∃ l:List Int,es.map (λx=>x.map AV.v)=l.map (λn=>[AV.v (.int .i64 n)])∧∀ n∈l,-9223372036854775808≤n∧n≤9223372036854775807
 | [],_=>⟨[],rfl,by simp⟩
 | e::es,he=>by
  obtain ⟨l,h1,h2⟩:=V2 (es:=es) λx hx=>he x (by simp [hx]);have:=he e (by simp);simp only [iX,Fv] at this;obtain ⟨v,r,rfl,⟨n,rfl,hw⟩,rfl⟩:=this;refine ⟨n::l,by simp [h1],?_⟩;intro m hm;rcases gK.1 hm with rfl | hm
  ·exact aEP hw
  ·exact h2 m hm
def N9 {W':World} (hl:laidOutB P=true) (hb:Below W.heap.size W W') {sp:Nat→Bool}:∀ {ts:List TypeId} {vs:List Value} {ds:List (DataW H)} {ps:List MemPlace},(∀ t∈ts,P.readableRec t=true∧t<P.types.size) →
  DataW.TrodAll enc P W 0 (λ_=>true) true ts vs ds ps→(∀ x∈ps,x.block<W.heap.size)→(∀ x∈ps,sp x.block=true)→DataW.TrodAll enc P W' 0 sp true ts vs ds ps
 | [],[],[],ps,_,h,_,_=>by simpa [DataW.TrodAll] using h
 | t::ts,v::vs,d::ds,ps,ht,h,hlt,hs=>by
  simp only [DataW.TrodAll] at h ⊢;obtain ⟨p,q,h1,h2,rfl⟩:=h;obtain ⟨r1,r2⟩:=ht t (by simp)
  exact ⟨p,q,WideElems.Trod_stays hl r1 r2 h1 (λx hx=>hb.same (hlt x (by simp [hx]))) (λx hx=>hs x (by simp [hx])),
   N9 hl hb (λt ht'=>ht t (by simp [ht'])) h2 (λx hx=>hlt x (by simp [hx])) (λx hx=>hs x (by simp [hx])),rfl⟩
 | [],_::_,_,_,_,h,_,_=>by simp [DataW.TrodAll] at h
 | [],[],_::_,_,_,h,_,_=>by simp [DataW.TrodAll] at h
 | _::_,[],_,_,_,h,_,_=>by simp [DataW.TrodAll] at h
 | _::_,_::_,[],_,_,h,_,_=>by simp [DataW.TrodAll] at h
def Xh {h':GH} {φ':Nat→Value} {T':aQ} {W':World} (hE:Evo h φ [] W h' φ' T' W'):Go.RowKit.Below W.heap.size W W' :=
 ⟨hE.os,hE.tape,hE.output,hE.size,λk hk=>hE.frame k hk λi o e=>by simp at e⟩
end
end Hud
end
