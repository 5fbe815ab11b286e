import Derived.Test.YtdichbeaekjibaaGreatDoorLib13
set_option linter.all false
namespace Hud
open Go
section
def Q4:∀ (l:List Nat) (x:Nat),tB (l++[x])=tB l+256^l.length*x
 | [],x=>by simp [tB]
 | y::l,x=>by
  simp only [fX,tB,Q4 l x,wJ,Mo];grind
def Q5 {b:List Nat} {j:Nat} (h:j<b.length):tB (b.take (j+1))=tB (b.take j)+256^j*b[j]:=by
 rw [oV h,Q4,kM,Mn (by omega)]
def ZH (w x j:Nat) (h:w<256^j):w ||| (x*2^(8*j))=w+256^j*x:=by
 have e:(256:Nat)^j=2^(8*j):=by rw [FZ]
 rw [e] at h ⊢;have:=Nat.shiftLeft_add_eq_or_of_lt h x;grind [Nat.shiftLeft_eq]
def Nb (x j:Nat) (hj:j≤7) (hx:x<256):bM .shl (.int .u64 (x:Int)) (.int .i64 ((8*j:Nat):Int))=some (.int .u64 ((x*2^(8*j):Nat):Int)):=by
 have h1:¬((8*j:Nat):Int)<0:=by omega
 have h2:min (((8*j:Nat):Int)).toNat IntKind.u64.bits=8*j:=by
  grind [Int.toNat_natCast,IntKind.bits]
 have h3:x*2^(8*j)<18446744073709551616:=by
  have:x*2^(8*j)<256*2^(8*j):=Nat.mul_lt_mul_of_pos_right hx (Nat.pow_pos (by decide));have h4:2^(8*j)≤2^56:=Nz (by decide) (by omega);omega
 simp only [bM,h1,if_false,h2];have:(x:Int)*2^(8*j)=((x*2^(8*j):Nat):Int):=by simp
 rw [this,bT _ h3]
def Q6 (a b:Nat) (ha:a<18446744073709551616) (hb:b<18446744073709551616) (hc:a ||| b<18446744073709551616):bM .or (.int .u64 (a:Int)) (.int .u64 (b:Int))=some (.int .u64 ((a ||| b:Nat):Int)):=by
 have h1:(BitVec.ofInt IntKind.u64.bits (a:Int) ||| BitVec.ofInt IntKind.u64.bits (b:Int)).toNat=a ||| b:=by
  have ea:(BitVec.ofInt 64 (a:Int)).toNat=a:=by simp_all
  have eb:(BitVec.ofInt 64 (b:Int)).toNat=b:=by simp_all
  show (BitVec.ofInt 64 (a:Int) ||| BitVec.ofInt 64 (b:Int)).toNat=a ||| b;grind
 simp only [bM,if_true,h1];rw [bT _ hc]
section
variable {G:Nat→Option (List AV)}
set_option maxHeartbeats 4000000
def JK (s w:Fq) (k:Nat) (hk:k<1000000000):aC PQ G iB [.ptr 0 0,.own 1] [some (.box [.v (fu s),.v (.int .u64 (k:Int))]),some (.arr 1 [[.v (fu w)]])] λr T' =>
  T'=[some (.box [.v (fu (vT s w (k+1))),.v (.int .u64 ((k+1:Nat):Int))]),some (.arr 1 [[.v (fu w)]])]:=by
 refine aD C5 (by decide) ?_;have hw:=DK w;have a1:=dG k 1 (by omega);have a2:=dG w.val (k+1) (by omega);have e:=aB0 w (k+1) (by show _<2305843009213693951;omega);simp only [aCQ] at a1;have a3:IntKind.u64.wrap (((w.val:Nat):Int)+((k+1:Nat):Int))=((w.val+(k+1):Nat):Int):=by rw [←Int.natCast_add,bT _ (by omega)]
 simp only [go_sem];refine aJ 1 (λi=>⟨2,[(0,.ptr 0 0),(6,.own 1),(7,.v (.int .i64 1)),(8,.v (.int .i64 i))],[some (.box [.v (fu (if i=0 then s else vT s w (k+1))),.v (.int .u64 ((k+i:Nat):Int))]),some (.arr 1 [[.v (fu w)]])]⟩) (λ_=>True) ?_ trivial ?_ ?_
 ·simp only [go_sem]
 ·intro i hi _;obtain rfl:i=0:=by omega
  simp only [go_sem,↓a1,↓a2];refine aB (aA _) rfl (Qu 37 s) rfl ?_;simp only [go_sem,a3];refine aB (aA _) rfl (EV G (w.val+(k+1)) (by omega)) rfl ?_;simp only [go_sem,e];refine aB (aA _) rfl (aEW (37*s) (w+Fin.ofNat PP (k+1))) rfl ?_;simp only [go_sem];refine aB (aA _) rfl (Y5 _ 17 (by decide)) rfl ?_;simp only [go_sem,vT]
 ·intro _;simp only [go_sem]
def aCe (S:ByteArray) (lab ns:List Nat) (hS:jC S=bl lab) (hs:S.size=lab.length) (hb:tI lab) (hl1:1≤lab.length) (hl:lab.length≤7) (hn:∀ n∈ns,n<18446744073709551616) (hnl:ns.length≤10000000):aC PQ G Di [.v (.string S),.ls 1 (ul ns)] [] λr T'=>r=.v (fu (DM lab ns))∧T'=[]:=by
 refine aD Oa (by decide) ?_;have hm:lab.length≤maxLen:=by unfold maxLen;omega
 have z1:IntKind.u64.wrap (ns.length:Int)=(ns.length:Int):=bT _ (by omega);have z2:IntKind.u64.wrap (lab.length:Int)=(lab.length:Int):=bT _ (by omega);have s0:(Value.int .u64 ((lab.length:Nat):Int))=fu (Fin.ofNat PP lab.length):=Ae (by show _<2305843009213693951;omega);have sn:(Value.int .u64 ((ns.length:Nat):Int))=fu (Fin.ofNat PP ns.length):=Ae (by show _<2305843009213693951;omega);have hlen:(bl lab).length=lab.length:=by simp
 have tk:∀ n,lab.length≤n→(bl lab).take n=bl lab:=λn h=>xR (by simpa using h);have hW:tB lab<72057594037927936:=NX hb hl;have sw:(Value.int .u64 ((tB lab:Nat):Int))=fu (Fin.ofNat PP (tB lab)):=Ae (Mr hW (by decide));have hmm:(if (lab.length:Int)<7 then (lab.length:Int) else (7:Int))=(lab.length:Int):=by split<;>omega
 have w0:IntKind.i64.wrap (0+(lab.length:Int))=(lab.length:Int):=by rw [bF (by omega) (by omega)];omega
 have hne:¬lab.length=0:=by omega
 have t7:decide ((7:Int)<(lab.length:Int))=false:=decide_eq_false (by omega);have t0:decide ((0:Int)<(lab.length:Int))=true:=decide_eq_true (by omega);have hlab:Qy lab ns=Fin.ofNat PP (tB lab)::Fin.ofNat PP ns.length::(ns.map (Fin.ofNat PP)++[0]):=by
  unfold Qy;rw [S5 (λh=>by rw [h] at hl1;simp at hl1) hl];simp
 simp only [go_sem,hS,hs,hm,z2,s0];refine aQ (aA _) rfl (Ux _) ?_;simp only [go_sem];refine M9 rfl (wC mP) λr k1 k2 hy hyR=>?_;simp only [go_sem];refine Fz [0,1,2] (aA _) (by decide) (λi hi=>by simp at hi ⊢;omega) rfl rfl (aD mP (by decide) ?_);simp only [go_sem];refine aQ (aA _) rfl (Uy _) ?_;simp only [go_sem];refine M9 rfl (wC dS) λr2 q1 q2 hz hzR=>?_;simp only [go_sem];refine Fz [0,1,2,3,4,5,6] (aA _) (by decide) (λi hi=>by simp at hi ⊢;omega) rfl rfl (aD dS (by decide) ?_);simp only [go_sem];generalize hA0:Fin.ofNat PP lab.length=A0 at *
 refine jE (λn s=>(n=1∧s=⟨7,[(0,.yl 6),(1,.ptr 4 0),(2,.ptr 5 0),(4,.v (.int .i64 0))],[some (.box [.v (fu A0),.v (.int .u64 0)]),some (.box [.ls 1 (bl lab)]),some (.lp r [(5,.ptr 0 0)]),some (.box [.yl 2]),some (.box [.ls 1 (bl lab)]),some (.box [.v (.int .i64 7)]),some (.lp r2 [(2,.ptr 3 0)])]⟩) ∨
  (n=0∧s=⟨7,[(0,.yl 6),(1,.ptr 4 0),(2,.ptr 5 0),(4,.v (.int .i64 7))],[some (.box [.v (fu (vT A0 (Fin.ofNat PP (tB lab)) 1)),.v (.int .u64 ((1:Nat):Int))]),some (.box [.ls 1 (bl lab)]),some (.lp r [(5,.ptr 0 0)]),some (.box [.yl 2]),some (.box [.ls 1 (bl lab)]),some (.box [.v (.int .i64 7)]),some (.lp r2 [(2,.ptr 3 0)])]⟩)) 1 (.inl ⟨rfl,?_⟩) ?_
 ·simp only [go_sem]
 rintro n s (⟨rfl,rfl⟩ | ⟨rfl,rfl⟩)
 ·simp only [go_sem,t0,hmm,w0,hne,hlen,tk lab.length (cT _)];refine hz _ _ _ _ _ rfl rfl ?_;simp only [go_sem,aL];refine jE (λn s=>∃ j:Nat,j≤lab.length∧n=lab.length-j∧s=⟨7,[(2,.ptr 3 0),(4,.v (.int .u64 ((tB (lab.take j):Nat):Int))),(10,.ls 1 (bl lab)),(11,.v (.int .i64 (lab.length:Int))),(12,.v (.int .i64 (j:Int)))],[some (.box [.v (fu A0),.v (.int .u64 0)]),some (.box [.ls 1 (bl lab)]),some (.lp r [(5,.ptr 0 0)]),some (.box [.yl 2]),some (.box [.ls 1 (bl lab)]),some (.box [.v (.int .i64 7)]),none]⟩) lab.length ⟨0,B8 _,rfl,?_⟩ ?_
  ·simp only [go_sem,rY,tB]
  rintro n s ⟨j,hj,rfl,rfl⟩;by_cases hjl:j<lab.length
  ·have g0:(bl lab)[j]?=some [.v (.int .u8 ((lab[j]:Nat):Int))]:=aI U8 lab j hjl;have hx:=hb lab[j] (iN hjl);have hWj:=K9 (rC hb j);rw [kM,Mn (by omega)] at hWj;have hW7:tB (lab.take j)<72057594037927936:=NX (rC hb j) (by rw [kM];omega);have hW8:tB (lab.take (j+1))<72057594037927936:=NX (rC hb _) (by rw [kM];omega);have hst2:=Q5 hjl;rw [hst2] at hW8;generalize lab[j]=x at g0 hx hst2 hW8;have v1:IntKind.u64.wrap (x:Int)=(x:Int):=bT x (by omega);have v2:IntKind.i64.wrap (8*(j:Int))=((8*j:Nat):Int):=by rw [bF (by omega) (by omega)];omega
   have sh:=Nb x j (by omega) hx;have ho:=ZH (tB (lab.take j)) x j hWj;have hsl:x*2^(8*j)<18446744073709551616:=by
    have:256^j*x=x*2^(8*j):=by rw [Mq,show (256:Nat)^j=2^(8*j) by rw [FZ]]
    omega
   have or1:=Q6 (tB (lab.take j)) (x*2^(8*j)) (by omega) hsl (by omega);rw [ho,←hst2] at or1;simp only [go_sem,bG hjl,g0,v1,v2,↓sh,↓or1,aF (show j<9223372036854775807 by omega)];exact ⟨lab.length-(j+1),by omega,j+1,by omega,rfl,rfl⟩
  ·obtain rfl:j=lab.length:=by omega
   rw [lP];simp only [go_sem,aX (cN _),sw];refine hy _ _ _ _ _ rfl rfl ?_;simp only [go_sem];refine aG [0,7] (aA _) (by decide) (by simp) rfl rfl (JK A0 (Fin.ofNat PP (tB lab)) 0 (by decide)) ?_;rintro r' T' hT;subst hT;simp only [go_sem];simp
 ·simp only [go_sem,aL,t7,q1,q2,k1,k2,z1,sn];refine aG [0,3] (aA _) (by decide) (by simp) rfl rfl (JK (vT A0 (Fin.ofNat PP (tB lab)) 1) (Fin.ofNat PP ns.length) 1 (by decide)) ?_;rintro r' T' hT;subst hT;have hfin:DM lab ns=vT (Bf (vT (vT A0 (Fin.ofNat PP (tB lab)) 1) (Fin.ofNat PP ns.length) 2) 2 (ns.map (Fin.ofNat PP))) 0 (ns.length+3):=by
   grind [DM,Bf,Do,List.length_map]
  rw [hfin];generalize vT (vT A0 (Fin.ofNat PP (tB lab)) 1) (Fin.ofNat PP ns.length) 2=B at *
  simp only [go_sem,aL];refine aJ ns.length (λi=>⟨0,[(4,.v (.int .u64 0)),(5,.ptr 0 0),(15,.cl kT [.ptr 1 0]),(25,.ls 1 (ul ns)),(26,.v (.int .i64 (ns.length:Int))),(27,.v (.int .i64 (i:Int)))],[some (.box [.v (fu (Bf B 2 ((ns.take i).map (Fin.ofNat PP)))),.v (.int .u64 ((2+i:Nat):Int))]),some (.box [.ls 1 (bl lab)])]⟩) (λ_=>True) ?_ trivial ?_ ?_
  ·simp only [go_sem];rfl
  ·intro i hi _;have g0:(ul ns)[i]?=some [.v (.int .u64 ((ns[i]:Nat):Int))]:=by simp_all
   have hni:=hn ns[i] (iN hi);have key:vT (Bf B 2 ((ns.take i).map (Fin.ofNat PP))) (Fin.ofNat PP ns[i]) (2+i+1)=Bf B 2 ((ns.take (i+1)).map (Fin.ofNat PP)):=by
    rw [oV hi,jA,fE,mE,Do];congr 1;simp;omega
   have sN:(Value.int .u64 ((ns[i]%FP:Nat):Int))=fu (Fin.ofNat PP ns[i]):=rfl;generalize Bf B 2 ((ns.take i).map (Fin.ofNat PP))=X at *
   generalize Bf B 2 ((ns.take (i+1)).map (Fin.ofNat PP))=Y at *
   simp only [go_sem,bG hi,g0];refine aB (aA _) rfl (EV G ns[i] hni) rfl ?_;simp only [go_sem,sN];refine aG [0,2] (aA _) (by decide) (by simp) rfl rfl (JK X (Fin.ofNat PP ns[i]) (2+i) (by omega)) ?_;rintro r' T' hT;subst hT;simp only [go_sem,key,aF (show i<9223372036854775807 by omega)];rfl
  ·intro _;rw [lP];simp only [go_sem,aX (cN _)];refine aG [0,2] (aA _) (by decide) (by simp) rfl rfl (JK (Bf B 2 (ns.map (Fin.ofNat PP))) 0 (2+ns.length) (by omega)) ?_;rintro r' T' hT;subst hT;have e3:2+ns.length+1=ns.length+3:=by omega
   simp only [go_sem,e3]
end
end
section
section
variable {G:Nat→Option (List AV)}
set_option maxHeartbeats 4000000
def Wu (b:List Nat) (hb:tI b) (hl:b.length≤1000000):aC PQ G fA [.v (.slice none 0 0),.cl kT [.ptr 0 0]] [some (.box [.ls 1 (bl b)])] λr T'=>r=.own 1∧T'=[some (.box [.ls 1 (bl b)]),some (.arr 1 (ul (dC b)))]:=by
 refine aD oN (by decide) ?_;simp only [go_sem];refine M9 rfl (wC mP) λr k1 k2 hy hyR=>?_;simp only [go_sem];refine Fz [0,1,2,3] (aA _) (by decide) (λi hi=>by simp at hi ⊢;omega) rfl rfl (aD mP (by decide) ?_);simp only [go_sem];refine aQ (aA _) rfl (Uy _) ?_;simp only [go_sem];refine M9 rfl (wC dS) λr2 q1 q2 hz hzR=>?_;simp only [go_sem];refine Fz [0,1,2,3,4,5,6,7] (aA _) (by decide) (λi hi=>by simp at hi ⊢;omega) rfl rfl (aD dS (by decide) ?_);simp only [go_sem]
 refine jE (λn s=>∃ (i:Nat) (A:List Nat),n=b.length+7-i∧i≤b.length+6∧A.length≤i∧A++dC (b.drop i)=dC b∧(s=⟨8,[(0,.yl 7),(1,.ptr 5 0),(2,.ptr 6 0),(4,.v (.int .i64 (i:Int)))],[some (.box [.ls 1 (bl b)]),some (.box [.own 2]),some (.arr 1 (ul A)),some (.lp r [(2,.ptr 1 0)]),some (.box [.yl 3]),some (.box [.ls 1 (bl b)]),some (.box [.v (.int .i64 7)]),some (.lp r2 [(2,.ptr 4 0)])]⟩ ∨
   s=⟨8,[(0,.yl 7),(1,.ptr 5 0),(2,.ptr 6 0),(4,.v (.int .i64 (i:Int)))],[some (.box [.ls 1 (bl b)]),some (.box [.own 8]),none,some (.lp r [(2,.ptr 1 0)]),some (.box [.yl 3]),some (.box [.ls 1 (bl b)]),some (.box [.v (.int .i64 7)]),some (.lp r2 [(2,.ptr 4 0)]),some (.arr 1 (ul A))]⟩)) (b.length+7) ⟨0,[],by omega,by omega,cT _,by simp,.inl ?_⟩ ?_
 ·simp only [go_sem]
 rintro n s ⟨i,A,rfl,hi,hA,hw,hsx⟩;by_cases hlt:i<b.length
 ·obtain ⟨e,he1,he2,he3⟩:∃ e:Nat,e=min 7 (b.length-i)∧1≤e∧e≤7:=⟨min 7 (b.length-i),rfl,by omega,by omega⟩
  have hmm:(if ((b.length-i:Nat):Int)<7 then ((b.length-i:Nat):Int) else (7:Int))=(e:Int):=by split<;>omega
  have w1:IntKind.i64.wrap ((i:Int)+(e:Int))=((i+e:Nat):Int):=by rw [bF (by omega) (by omega)];omega
  have l1:i≤i+e:=by omega
  have l2:i+e≤b.length:=by omega
  have l3:¬i+e=i:=by omega
  have l4:i≤b.length:=by omega
  have l5:i+e-i=e:=by omega
  have hc1:((bl b).drop i).take e=bl ((b.drop i).take e):=by simp
  have hce:((b.drop i).take e).length=e:=by simp;omega
  have okc:tI ((b.drop i).take e):=rC (F1 hb i) _;have hc7:(b.drop i).take 7=(b.drop i).take e:=by
   simp_all
  have hstep:=DL (b:=b.drop i) (λh=>by have:=congrArg List.length h;simp at this;omega);rw [hc7,Hi] at hstep;rw [hstep] at hw;generalize hcc:(b.drop i).take e=c at *
  have hct:c.take e=c:=xR (by omega);have hin:∀ j,j<e→∃ x:Nat,(bl c)[j]?=some [.v (.int .u8 (x:Int))]∧IntKind.u64.wrap (x:Int)=(x:Int)∧IntKind.i64.wrap (8*(j:Int))=((8*j:Nat):Int)∧bM .shl (.int .u64 (x:Int)) (.int .i64 ((8*j:Nat):Int))=some (.int .u64 ((x*2^(8*j):Nat):Int)) ∧
    bM .or (.int .u64 ((tB (c.take j):Nat):Int)) (.int .u64 ((x*2^(8*j):Nat):Int))=some (.int .u64 ((tB (c.take (j+1)):Nat):Int)):=λj hj=>by
   have hjl:j<c.length:=by omega
   have hx:=okc c[j] (iN hjl);have hWj:=K9 (rC okc j);rw [kM,Mn (by omega)] at hWj;have hW7:tB (c.take j)<72057594037927936:=NX (rC okc j) (by rw [kM];omega);have hW8:tB (c.take (j+1))<72057594037927936:=NX (rC okc _) (by rw [kM];omega);have hst2:=Q5 hjl;rw [hst2] at hW8;refine ⟨c[j],aI U8 c j hjl,bT _ (by omega),by rw [bF (by omega) (by omega)];omega,Nb _ j (by omega) hx,?_⟩;have ho:=ZH (tB (c.take j)) c[j] j hWj;have hsl:c[j]*2^(8*j)<18446744073709551616:=by
    have:256^j*c[j]=c[j]*2^(8*j):=by rw [Mq,show (256:Nat)^j=2^(8*j) by rw [FZ]]
    omega
   have or1:=Q6 (tB (c.take j)) (c[j]*2^(8*j)) (by omega) hsl (by omega);simp_all
  have b2:A.length+1≤maxLen:=by unfold maxLen;omega
  have b3:(A.length+1)*8≤140737488355328:=by omega
  have w7:IntKind.i64.wrap ((i:Int)+7)=((i+7:Nat):Int):=by rw [bF (by omega) (by omega)];omega
  have hsnoc:ul A++[[AV.v (.int .u64 ((tB c:Nat):Int))]]=ul (A++[tB c]):=by simp
  rcases hsx with rfl | rfl
  ·simp only [go_sem,aL,bG hlt,hmm,w1,l1,l2,l3,l4,l5,hc1];refine hz _ _ _ _ _ rfl rfl ?_;simp only [go_sem,aL,hce];refine jE (λn s=>∃ j:Nat,j≤e∧n=e-j∧s=⟨8,[(2,.ptr 4 0),(4,.v (.int .u64 ((tB (c.take j):Nat):Int))),(10,.ls 1 (bl c)),(11,.v (.int .i64 (e:Int))),(12,.v (.int .i64 (j:Int)))],[some (.box [.ls 1 (bl b)]),some (.box [.own 2]),some (.arr 1 (ul A)),some (.lp r [(2,.ptr 1 0)]),some (.box [.yl 3]),some (.box [.ls 1 (bl b)]),some (.box [.v (.int .i64 7)]),none]⟩) e ⟨0,B8 _,rfl,?_⟩ ?_
   ·simp only [go_sem,rY,tB]
   rintro n s ⟨j,hj,rfl,rfl⟩;by_cases hje:j<e
   ·obtain ⟨x,g0,v1,v2,sh,or1⟩:=hin j hje;simp only [go_sem,bG hje,g0,v1,v2,↓sh,↓or1,aF (show j<9223372036854775807 by omega)];exact ⟨e-(j+1),by omega,j+1,by omega,rfl,rfl⟩
   ·obtain rfl:j=e:=by omega
    rw [hct];simp only [go_sem,aX (cN _)];refine hy _ _ _ _ _ rfl rfl ?_;simp only [go_sem,aL,b2,b3,w7];exact ⟨b.length+7-(i+7),by omega,i+7,A++[tB c],by omega,by omega,by simp;omega,by rw [jI];exact hw,.inr (by rw [hsnoc])⟩
  ·simp only [go_sem,aL,bG hlt,hmm,w1,l1,l2,l3,l4,l5,hc1];refine hz _ _ _ _ _ rfl rfl ?_;simp only [go_sem,aL,hce];refine jE (λn s=>∃ j:Nat,j≤e∧n=e-j∧s=⟨9,[(2,.ptr 4 0),(4,.v (.int .u64 ((tB (c.take j):Nat):Int))),(10,.ls 1 (bl c)),(11,.v (.int .i64 (e:Int))),(12,.v (.int .i64 (j:Int)))],[some (.box [.ls 1 (bl b)]),some (.box [.own 8]),none,some (.lp r [(2,.ptr 1 0)]),some (.box [.yl 3]),some (.box [.ls 1 (bl b)]),some (.box [.v (.int .i64 7)]),none,some (.arr 1 (ul A))]⟩) e ⟨0,B8 _,rfl,?_⟩ ?_
   ·simp only [go_sem,rY,tB]
   rintro n s ⟨j,hj,rfl,rfl⟩;by_cases hje:j<e
   ·obtain ⟨x,g0,v1,v2,sh,or1⟩:=hin j hje;simp only [go_sem,bG hje,g0,v1,v2,↓sh,↓or1,aF (show j<9223372036854775807 by omega)];exact ⟨e-(j+1),by omega,j+1,by omega,rfl,rfl⟩
   ·obtain rfl:j=e:=by omega
    rw [hct];simp only [go_sem,aX (cN _)];refine hy _ _ _ _ _ rfl rfl ?_;simp only [go_sem,aL,b2,b3,w7];exact ⟨b.length+7-(i+7),by omega,i+7,A++[tB c],by omega,by omega,by simp;omega,by rw [jI];exact hw,.inr (by rw [hsnoc])⟩
 ·have hnil:dC (b.drop i)=[]:=by rw [Ln (by omega)];rfl
  rw [hnil,nR] at hw;rw [←hw];rcases hsx with rfl | rfl
  ·simp only [go_sem,aL,aX hlt,q1,q2,k1,k2]
  ·simp only [go_sem,aL,aX hlt,q1,q2,k1,k2]
def Wv (b:List Nat) (hb:tI b) (hl:b.length≤1000000):aC PQ G kR [.cl kT [.ptr 0 0]] [some (.box [.ls 1 (bl b)])] λr T'=>r=.own 1∧T'=[some (.box [.ls 1 (bl b)]),some (.arr 1 (ul (dC b)))]:=by
 refine aD wY (by decide) ?_;simp only [go_sem];refine aG [0] (aA _) (by decide) (by simp) rfl rfl (Wu b hb hl) ?_;rintro r T' ⟨rfl,rfl⟩;simp only [go_sem]
def Q7 (S:ByteArray) (lab b:List Nat) (hS:jC S=bl lab) (hs:S.size=lab.length) (hb:tI lab) (hl1:1≤lab.length) (hl:lab.length≤7) (hbb:tI b) (hbl:b.length≤1000000):aC PQ G vP [.v (.string S),.ls 1 (bl b)] [] λr T'=>r=.v (fu (Q0 lab b))∧T'=[]:=by
 refine aD IZ (by decide) ?_;have hwl:=FJ b;have hw:=HR hbb;have z1:IntKind.u64.wrap (b.length:Int)=(b.length:Int):=bT _ (by omega);have b2:(dC b).length+1≤maxLen:=by unfold maxLen;omega
 have b3:((dC b).length+1)*8≤140737488355328:=by omega
 simp only [go_sem];refine aQ (aA _) rfl (Ux _) ?_;simp only [go_sem];refine aG [0] (aA _) (by decide) (by simp) rfl rfl (Wv b hbb hbl) ?_;rintro r T' ⟨rfl,rfl⟩;have e1:ul (dC b)++[[AV.v (.int .u64 (b.length:Int))]]=ul (dC b++[b.length]):=by simp
 simp only [go_sem,aL,z1,b2,b3];rw [e1];refine rB (aA _) rfl rfl (aCe S lab (dC b++[b.length]) hS hs hb hl1 hl (λn hn=>?_) (by simp;omega)) ?_
 ·grind
 simp only [go_sem];rfl
end
end
section
def OpM.B (o:OpM):List Nat :=
 cC [o.By,o.Seq,o.Kind,o.At]++(kH Id.B o.Past++(cC [o.Device,o.Old,o.Member,o.Role]++(kH NodeM.B o.Path++(o.Epoch.B++(bD o.N++(nN o.Body++(kH eH o.Refs++(o.Of.B++(kH bD o.Guards++(cC [o.Need,o.Wait]++(kH BoxM.B o.Boxes++(eH o.Pub++kH SealM.B o.Hist))))))))))))
def sQ:cC []=[]:=rfl
def qF (x:Int) (l:List Int):cC (x::l)=bD x++cC l:=by simp [cC]
def LL {l:List Int} {i:Nat} (h:i<l.length):cC (l.take (i+1))=cC (l.take i)++bD l[i]:=by rw [oV h,LI]
def ZI (A:List Nat) (l:List Int):Nat→aH
 | 0=>[some (.arr 1 (l.map λn=>[iv n])),some (.box [.ptr 2 0]),some (.box [.own 3]),some (.arr 1 (bl A))]
 | i+1=>[some (.arr 1 (l.map λn=>[iv n])),some (.box [.ptr 2 0]),some (.box [.own 4]),none,some (.arr 1 (bl (A++cC (l.take (i+1)))))]
def O3 (A:List Nat) (l:List Int):ZI A l 0=[some (.arr 1 (l.map λn=>[iv n])),some (.box [.ptr 2 0]),some (.box [.own 3]),some (.arr 1 (bl A))]:=rfl
def JL (A:List Nat) (l:List Int) (i:Nat):ZI A l (i+1)=[some (.arr 1 (l.map λn=>[iv n])),some (.box [.ptr 2 0]),some (.box [.own 4]),none,some (.arr 1 (bl (A++cC (l.take (i+1)))))]:=rfl
def ZJ (a b c d:Int):Nat→aH
 | 0=>[some (.arr 1 [[iv a],[iv b],[iv c],[iv d]]),some (.box [.ptr 2 0]),some (.box [.v (.slice none 0 0)])]
 | i+1=>[some (.arr 1 [[iv a],[iv b],[iv c],[iv d]]),some (.box [.ptr 2 0]),some (.box [.own 3]),some (.arr 1 (bl (cC ([a,b,c,d].take (i+1)))))]
def U2 (a b c d:Int):ZJ a b c d 0=[some (.arr 1 [[iv a],[iv b],[iv c],[iv d]]),some (.box [.ptr 2 0]),some (.box [.v (.slice none 0 0)])]:=rfl
def yV (a b c d:Int) (i:Nat):ZJ a b c d (i+1)=[some (.arr 1 [[iv a],[iv b],[iv c],[iv d]]),some (.box [.ptr 2 0]),some (.box [.own 3]),some (.arr 1 (bl (cC ([a,b,c,d].take (i+1)))))]:=rfl
section
variable {G:Nat→Option (List AV)}
set_option maxHeartbeats 4000000
def ZK (A:List Nat) (l:List Int) (hA:A.length≤600000) (hl:l.length≤1000) (hn:∀ x∈l,kZ x):aC PQ G qM [.own 0,.ptr 1 0] [some (.arr 1 (l.map λn=>[iv n])),some (.box [.ptr 2 0]),some (.box [.own 3]),some (.arr 1 (bl A))] λr T'=>T'=[some (.arr 1 (l.map λn=>[iv n])),some (.box [.ptr 2 0]),some (.box [.own 4]),none,some (.arr 1 (bl (A++cC l)))]∨(l=[]∧T'=[some (.arr 1 (l.map λn=>[iv n])),some (.box [.ptr 2 0]),some (.box [.own 3]),some (.arr 1 (bl A))]):=by
 refine aD Ct (by decide) ?_;simp only [go_sem,aL];refine aJ l.length (λi=>⟨4,[(1,.ptr 1 0),(5,.own 0),(6,.v (.int .i64 (l.length:Int))),(7,.v (.int .i64 (i:Int)))],ZI A l i⟩) (λ_=>True) ?_ trivial ?_ ?_
 ·simp only [go_sem,O3]
 ·intro i hi _;have g0:(l.map λn=>[iv n])[i]?=some [iv l[i]]:=aI _ l i hi;have hx:=hn l[i] (iN hi);have ws:=aF (show i<9223372036854775807 by omega)
  cases i with
  | zero =>
   have e1:cC (l.take (0+1))=bD l[0]:=by rw [LL hi];simp [cC]
   rw [O3,JL,e1];simp only [go_sem,aL,show decide ((0:Int)<(l.length:Int))=true from decide_eq_true (by omega),hi,g0];refine aG [2,3] (aA _) (by decide) (by simp) rfl rfl (vC A l[0] (by omega) hx.1 hx.2) ?_;rintro r T' rfl;simp only [go_sem,jA]
  | succ i =>
   have k1:=iX (l.take (i+1));rw [kM] at k1;rw [JL,JL,LL hi];generalize cC (l.take (i+1))=X at *
   generalize l[i+1]=x at *
   simp only [go_sem,aL,bG hi,hi,g0];rw [←jA];refine aG [2,4] (aA _) (by decide) (by simp) rfl rfl (vC (A++X) x (by rw [gK];omega) hx.1 hx.2) ?_;rintro r T' rfl;simp only [go_sem,jA,jI,ws]
 ·intro _
  cases l with
  | nil=>simp only [jJ,O3,go_sem];exact .inr trivial
  | cons x l =>
   simp only [wJ];rw [JL,show (x::l).take (l.length+1)=x::l from xR (by simp)];simp only [go_sem,show decide (((l.length+1:Nat):Int)<((l.length+1:Nat):Int))=false from decide_eq_false (by omega)];exact .inl trivial
def aB5 (A:List Nat) (a b c d:Int) (hA:A.length≤600000) (ha:kZ a) (hb:kZ b) (hc:kZ c) (hd:kZ d):aC PQ G qM [.own 0,.ptr 1 0] [some (.arr 1 [[iv a],[iv b],[iv c],[iv d]]),some (.box [.ptr 2 0]),some (.box [.own 3]),some (.arr 1 (bl A))] λr T'=>T'=[some (.arr 1 [[iv a],[iv b],[iv c],[iv d]]),some (.box [.ptr 2 0]),some (.box [.own 4]),none,some (.arr 1 (bl (A++cC [a,b,c,d])))] :=
 (ZK (G:=G) A [a,b,c,d] hA (by simp) (by simp only [jB,qS,or_false];rintro x (rfl | rfl | rfl | rfl)<;>assumption)).mono λr T' h=>by
  simp_all
def aB6 (A:List Nat) (a b:Int) (hA:A.length≤600000) (ha:kZ a) (hb:kZ b):aC PQ G qM [.own 0,.ptr 1 0] [some (.arr 1 [[iv a],[iv b]]),some (.box [.ptr 2 0]),some (.box [.own 3]),some (.arr 1 (bl A))] λr T'=>T'=[some (.arr 1 [[iv a],[iv b]]),some (.box [.ptr 2 0]),some (.box [.own 4]),none,some (.arr 1 (bl (A++cC [a,b])))] :=
 (ZK (G:=G) A [a,b] hA (by simp) (by simp only [jB,qS,or_false];rintro x (rfl | rfl)<;>assumption)).mono λr T' h=>by
  simp_all
def aB7 (a b c d:Int) (ha:kZ a) (hb:kZ b) (hc:kZ c) (hd:kZ d):aC PQ G qM [.own 0,.ptr 1 0] [some (.arr 1 [[iv a],[iv b],[iv c],[iv d]]),some (.box [.ptr 2 0]),some (.box [.v (.slice none 0 0)])] λr T'=>T'=[some (.arr 1 [[iv a],[iv b],[iv c],[iv d]]),some (.box [.ptr 2 0]),some (.box [.own 3]),some (.arr 1 (bl (cC [a,b,c,d])))]:=by
 refine aD Ct (by decide) ?_;have la:=bI a;have lb:=bI b;have lc:=bI c;simp only [go_sem];refine aJ 4 (λi=>⟨3,[(1,.ptr 1 0),(5,.own 0),(6,.v (.int .i64 4)),(7,.v (.int .i64 (i:Int)))],ZJ a b c d i⟩) (λ_=>True) ?_ trivial ?_ ?_
 ·simp only [go_sem,U2]
 ·intro i hi _;rcases i with _ | _ | _ | _ | i
  ·rw [U2,yV];simp only [go_sem];refine aG [2] (aA _) (by decide) (by simp) rfl rfl (aDi a ha.1 ha.2) ?_;rintro r T' rfl;simp only [go_sem,qF,sQ]
  ·rw [yV,yV];simp only [go_sem,qF,sQ];refine aG [2,3] (aA _) (by decide) (by simp) rfl rfl (vC (bD a) b (by omega) hb.1 hb.2) ?_;rintro r T' rfl;simp only [go_sem,qF,sQ,jA]
  ·rw [yV,yV];simp only [go_sem,qF,sQ];rw [←jA];refine aG [2,3] (aA _) (by decide) (by simp) rfl rfl (vC (bD a++bD b) c (by rw [gK];omega) hc.1 hc.2) ?_;rintro r T' rfl;simp only [go_sem,qF,sQ,jA,jI]
  ·rw [yV,yV];simp only [go_sem,qF,sQ];rw [←jA,←jA];refine aG [2,3] (aA _) (by decide) (by simp) rfl rfl (vC (bD a++(bD b++bD c)) d (by rw [gK,gK];omega) hd.1 hd.2) ?_;rintro r T' rfl;simp only [go_sem,qF,sQ,jA,jI]
  ·omega
 ·intro _;rw [yV];simp only [go_sem]
def U3 (o:OpM) (ho:o.ok):aC PQ G Dh [.ag o.A] [] λr T'=>r=.ptr 0 0∧T'=[some (.box [.own 1]),some (.arr 1 (bl o.B))]:=by
 refine aD OS (by decide) ?_;have hi:∀ n,n∈[o.By,o.Seq,o.Kind,o.At,o.Device,o.Old,o.Member,o.Role,o.N,o.Need,o.Wait]→kZ n:=ho.ints;have b1:(cC [o.By,o.Seq,o.Kind,o.At]).length≤40:=iX [o.By,o.Seq,o.Kind,o.At];have b2:(kH Id.B o.Past).length≤30010:=by have:=kX (f:=Id.B) (l:=o.Past) (k:=30) λx _=>Id.B_len x;have:=ho.past.1;omega
 have b3:(cC [o.Device,o.Old,o.Member,o.Role]).length≤40:=iX [o.Device,o.Old,o.Member,o.Role];have b4:(kH NodeM.B o.Path).length≤40210:=by have:=kX (f:=NodeM.B) (l:=o.Path) (k:=4020) λx h=>GV (ho.path.2 x h);have:=ho.path.1;omega
 have b5:o.Epoch.B.length≤30:=Id.B_len _;have b6:(bD o.N).length≤10:=bI _;have b7:(nN o.Body).length≤1010:=by unfold nN;rw [gK];have:=bI (o.Body.length:Int);have:=ho.body.1;omega
 have b8:(kH eH o.Refs).length≤10010:=by have:=kX (f:=eH) (l:=o.Refs) (k:=10) λx _=>fM x;have:=ho.refs.1;omega
 have b9:o.Of.B.length≤30:=Id.B_len _;have b10:(kH bD o.Guards).length≤10010:=by have:=kX (f:=bD) (l:=o.Guards) (k:=10) λx _=>bI x;have:=ho.guards.1;omega
 have b11:(cC [o.Need,o.Wait]).length≤20:=iX [o.Need,o.Wait];have b12:(kH BoxM.B o.Boxes).length≤40010:=by have:=kX (f:=BoxM.B) (l:=o.Boxes) (k:=40) λx _=>JJ x;have:=ho.boxes.1;omega
 have b13:(eH o.Pub).length≤10:=fM _;have b14:(kH SealM.B o.Hist).length≤104010:=by have:=kX (f:=SealM.B) (l:=o.Hist) (k:=1040) λx h=>GW (ho.hist.2 x h);have:=ho.hist.1;omega
 simp only [go_sem];refine aG [4,2,1] (aA _) (by decide) (by simp) rfl rfl (aB7 o.By o.Seq o.Kind o.At (hi _ (by simp)) (hi _ (by simp)) (hi _ (by simp)) (hi _ (by simp))) ?_;rintro r T' rfl;obtain ⟨A1,hA1⟩:∃ A1,A1=cC [o.By,o.Seq,o.Kind,o.At]:=⟨_,rfl⟩
 rw [←hA1];have l1:A1.length≤40:=by rw [hA1];exact b1
 simp only [go_sem];refine aG [1,5] (aA _) (by decide) (by simp) rfl rfl (aB4 A1 o.Past (by omega) ho.past.1 ho.past.2) ?_;rintro r T' rfl;obtain ⟨A2,hA2⟩:∃ A2,A2=A1++(kH Id.B o.Past):=⟨_,rfl⟩
 rw [←hA2];have l2:A2.length≤30050:=by simp_all;omega
 simp only [go_sem];refine aG [7,2,1,6] (aA _) (by decide) (by simp) rfl rfl (aB5 A2 o.Device o.Old o.Member o.Role (by omega) (hi _ (by simp)) (hi _ (by simp)) (hi _ (by simp)) (hi _ (by simp))) ?_;rintro r T' rfl;obtain ⟨A3,hA3⟩:∃ A3,A3=A2++(cC [o.Device,o.Old,o.Member,o.Role]):=⟨_,rfl⟩
 rw [←hA3];have l3:A3.length≤30090:=by simp_all;omega
 simp only [go_sem];refine aG [1,8,2,3] (aA _) (by decide) (by simp) rfl rfl (Ws A3 o.Path (by omega) ho.path.1 ho.path.2) ?_;rintro r T' rfl;obtain ⟨A4,hA4⟩:∃ A4,A4=A3++(kH NodeM.B o.Path):=⟨_,rfl⟩
 rw [←hA4];have l4:A4.length≤70300:=by simp_all;omega
 simp only [go_sem];refine aG [1,9] (aA _) (by decide) (by simp) rfl rfl (aB3 A4 o.Epoch (by omega) ho.epoch) ?_;rintro r T' rfl;obtain ⟨A5,hA5⟩:∃ A5,A5=A4++o.Epoch.B:=⟨_,rfl⟩
 rw [←hA5];have l5:A5.length≤70330:=by simp_all;omega
 simp only [go_sem];refine aG [1,10] (aA _) (by decide) (by simp) rfl rfl (vC A5 o.N (by omega) (hi o.N (by simp)).1 (hi o.N (by simp)).2) ?_;rintro r T' rfl;obtain ⟨A6,hA6⟩:∃ A6,A6=A5++(bD o.N):=⟨_,rfl⟩
 rw [←hA6];have l6:A6.length≤70340:=by rw [hA6,gK];omega
 simp only [go_sem,↓DN];refine aG [1,11] (aA _) (by decide) (by simp) rfl rfl (ZC A6 (bsN o.Body) o.Body (Bj ho.body.2) (GU _) (by omega) (by have:=ho.body.1;omega)) ?_;rintro r T' rfl;obtain ⟨A7,hA7⟩:∃ A7,A7=A6++nN o.Body:=⟨_,rfl⟩
 rw [show A6++(bD (o.Body.length:Int)++o.Body)=A7 from hA7.symm];have l7:A7.length≤71350:=by rw [hA7,gK];omega
 simp only [go_sem];refine aG [1,12] (aA _) (by decide) (by simp) rfl rfl (ZG A7 o.Refs (by omega) ho.refs.1 ho.refs.2) ?_;rintro r T' rfl;obtain ⟨A8,hA8⟩:∃ A8,A8=A7++(kH eH o.Refs):=⟨_,rfl⟩
 rw [←hA8];have l8:A8.length≤81360:=by rw [hA8,gK];omega
 simp only [go_sem];refine aG [1,13] (aA _) (by decide) (by simp) rfl rfl (aB3 A8 o.Of (by omega) ho.of) ?_;rintro r T' rfl;obtain ⟨A9,hA9⟩:∃ A9,A9=A8++o.Of.B:=⟨_,rfl⟩
 rw [←hA9];have l9:A9.length≤81390:=by rw [hA9,gK];omega
 simp only [go_sem];refine aG [1,14] (aA _) (by decide) (by simp) rfl rfl (ZF A9 o.Guards (by omega) ho.guards.1 ho.guards.2) ?_;rintro r T' rfl;obtain ⟨A10,hA10⟩:∃ A10,A10=A9++(kH bD o.Guards):=⟨_,rfl⟩
 rw [←hA10];have l10:A10.length≤91400:=by rw [hA10,gK];omega
 simp only [go_sem];refine aG [16,2,1,15] (aA _) (by decide) (by simp) rfl rfl (aB6 A10 o.Need o.Wait (by omega) (hi _ (by simp)) (hi _ (by simp))) ?_;rintro r T' rfl;obtain ⟨A11,hA11⟩:∃ A11,A11=A10++(cC [o.Need,o.Wait]):=⟨_,rfl⟩
 rw [←hA11];have l11:A11.length≤91420:=by rw [hA11,gK];omega
 simp only [go_sem];refine aG [1,17,2] (aA _) (by decide) (by simp) rfl rfl (Q3 A11 o.Boxes (by omega) ho.boxes.1 ho.boxes.2) ?_;rintro r T' rfl;obtain ⟨A12,hA12⟩:∃ A12,A12=A11++(kH BoxM.B o.Boxes):=⟨_,rfl⟩
 rw [←hA12];have l12:A12.length≤131430:=by rw [hA12,gK];omega
 simp only [go_sem];refine aG [1,18] (aA _) (by decide) (by simp) rfl rfl (GS A12 o.Pub (by omega) (ho.nums o.Pub (by simp))) ?_;rintro r T' rfl;obtain ⟨A13,hA13⟩:∃ A13,A13=A12++(eH o.Pub):=⟨_,rfl⟩
 rw [←hA13];have l13:A13.length≤131440:=by rw [hA13,gK];omega
 simp only [go_sem];refine aG [1,19,2] (aA _) (by decide) (by simp) rfl rfl (Wt A13 o.Hist (by omega) ho.hist.1 ho.hist.2) ?_;rintro r T' rfl;obtain ⟨A14,hA14⟩:∃ A14,A14=A13++(kH SealM.B o.Hist):=⟨_,rfl⟩
 rw [←hA14];have l14:A14.length≤235450:=by rw [hA14,gK];omega
 simp only [go_sem];rw [hA14,hA13,hA12,hA11,hA10,hA9,hA8,hA7,hA6,hA5,hA4,hA3,hA2,hA1];simp only [OpM.B,jI]
def OpM.B_len (o:OpM) (ho:o.ok):o.B.length≤300000:=by
 have b1:(cC [o.By,o.Seq,o.Kind,o.At]).length≤40:=iX [o.By,o.Seq,o.Kind,o.At];have b2:(kH Id.B o.Past).length≤30010:=by have:=kX (f:=Id.B) (l:=o.Past) (k:=30) λx _=>Id.B_len x;have:=ho.past.1;omega
 have b3:(cC [o.Device,o.Old,o.Member,o.Role]).length≤40:=iX [o.Device,o.Old,o.Member,o.Role];have b4:(kH NodeM.B o.Path).length≤40210:=by have:=kX (f:=NodeM.B) (l:=o.Path) (k:=4020) λx h=>GV (ho.path.2 x h);have:=ho.path.1;omega
 have b5:o.Epoch.B.length≤30:=Id.B_len _;have b6:(bD o.N).length≤10:=bI _;have b7:(nN o.Body).length≤1010:=by unfold nN;rw [gK];have:=bI (o.Body.length:Int);have:=ho.body.1;omega
 have b8:(kH eH o.Refs).length≤10010:=by have:=kX (f:=eH) (l:=o.Refs) (k:=10) λx _=>fM x;have:=ho.refs.1;omega
 have b9:o.Of.B.length≤30:=Id.B_len _;have b10:(kH bD o.Guards).length≤10010:=by have:=kX (f:=bD) (l:=o.Guards) (k:=10) λx _=>bI x;have:=ho.guards.1;omega
 have b11:(cC [o.Need,o.Wait]).length≤20:=iX [o.Need,o.Wait];have b12:(kH BoxM.B o.Boxes).length≤40010:=by have:=kX (f:=BoxM.B) (l:=o.Boxes) (k:=40) λx _=>JJ x;have:=ho.boxes.1;omega
 have b13:(eH o.Pub).length≤10:=fM _;have b14:(kH SealM.B o.Hist).length≤104010:=by have:=kX (f:=SealM.B) (l:=o.Hist) (k:=1040) λx h=>GW (ho.hist.2 x h);have:=ho.hist.1;omega
 grind [OpM.B,List.length_append]
def Bk {α:Type} {f:α→List Nat} {l:List α} (hl:l.length≤1000000) (h:∀ x∈l,tI (f x)):tI (kH f l):=by
 unfold kH;refine iH (Bh (by omega) (by omega)) λx hx=>?_;obtain ⟨y,hy,hxy⟩:=Hg.1 hx;obtain ⟨z,hz,rfl⟩:=cZ.1 hy;exact h z hz x hxy
def LM {l:List Int} (h:∀ x∈l,kZ x):tI (cC l):=λx hx=>by
 obtain ⟨y,hy,hxy⟩:=Hg.1 hx;obtain ⟨z,hz,rfl⟩:=cZ.1 hy;exact Bh (h z hz).1 (h z hz).2 x hxy
def ZL {l:List Nat} (h:∀ x∈l,x<18446744073709551616):tI (jZ l):=λx hx=>by
 obtain ⟨y,hy,hxy⟩:=Hg.1 hx;obtain ⟨z,hz,rfl⟩:=cZ.1 hy;exact Dp (h z hz) x hxy
def Id.B_ok {x:Id} (h:x.ok):tI x.B:=iH (iH (Bh h.1.1 h.1.2) (Bh h.2.1.1 h.2.1.2)) (Dp (by have:=h.2.2;omega))
def ZM {b:BoxM} (h:b.ok):tI b.B:=ZL λx hx=>by
 obtain ⟨h1,h2,h3,h4⟩:=h;simp_all;omega
def Q8 {b:List Nat} (hl:b.length≤1000000) (h:tI b):tI (nN b):=iH (Bh (by omega) (by omega)) h
def OpM.B_ok (o:OpM) (ho:o.ok):tI o.B:=by
 have hi:=ho.ints;unfold OpM.B;refine iH (LM λx hx=>hi x (by simp at hx ⊢;rcases hx with h | h | h | h<;>simp [h])) ?_;refine iH (Bk (by have:=ho.past.1;omega) λx hx=>Id.B_ok (ho.past.2 x hx)) ?_;refine iH (LM λx hx=>hi x (by simp at hx ⊢;rcases hx with h | h | h | h<;>simp [h])) ?_;refine iH (Bk (by have:=ho.path.1;omega) λx hx=>iH (Dp (ho.path.2 x hx).1) (Bk (by have:=(ho.path.2 x hx).2.1;omega) λy hy=>ZM ((ho.path.2 x hx).2.2 y hy))) ?_;refine iH (Id.B_ok ho.epoch) ?_;refine iH (Bh (hi o.N (by simp)).1 (hi o.N (by simp)).2) ?_;refine iH (Q8 (by have:=ho.body.1;omega) ho.body.2) ?_;refine iH (Bk (by have:=ho.refs.1;omega) λx hx=>Dp (ho.refs.2 x hx)) ?_;refine iH (Id.B_ok ho.of) ?_;refine iH (Bk (by have:=ho.guards.1;omega) λx hx=>Bh (ho.guards.2 x hx).1 (ho.guards.2 x hx).2) ?_;refine iH (LM λx hx=>hi x (by simp at hx ⊢;rcases hx with h | h<;>simp [h])) ?_;refine iH (Bk (by have:=ho.boxes.1;omega) λx hx=>ZM (ho.boxes.2 x hx)) ?_;refine iH (Dp (ho.nums o.Pub (by simp))) ?_;exact Bk (by have:=ho.hist.1;omega) λx hx=>iH (Id.B_ok (ho.hist.2 x hx).1) (Q8 (by have:=(ho.hist.2 x hx).2.1;omega) (ho.hist.2 x hx).2.2)
def OpM.P (o:OpM):List Nat:=o.B++jZ [o.SR,o.SS]
end
end
section
def lOp:List Nat:=[111,112]
def O4:List Nat:=[115,105,103,110,101,100]
def aDl:List Nat:=[115,105,103]
def Ao (o:OpM):Id:=⟨o.By,o.Seq,((Q0 lOp o.B).val:Nat)⟩
def PW (n:Nat):Fq:=⟨n%PP,vF _ (by decide)⟩
def JM {n:Nat} (h:n<2305843009213693951):(PW n).val=n:=CL h
def O5 (b:List Nat):Fq:=Q0 O4 b
def GX (r pub:Nat) (b:List Nat):Fq:=DM aDl [r,pub,(O5 b).val]
def xT (pub:Nat) (b:List Nat) (R S:Nat):Bool :=
 (decide (1≤pub)&&decide (pub≤2305843009213693950))&&(decide (1≤R)&&decide (R≤2305843009213693950))&&decide (S≤2305843009213693949) &&
 decide ((37:Fq)^S=PW R*PW pub^(GX R pub b).val)
def xE {l:List Nat} (h:(l.all λx=>decide (x<256))=true):tI l:=λx hx=>by simpa using lF.1 h x hx
def Af (a:Fq):a.val<18446744073709551616:=Mr a.isLt (by decide)
section
variable {G:Nat→Option (List AV)}
set_option maxHeartbeats 4000000
def aB8 (o:OpM) (ho:o.ok):aC PQ G F5 [.ag o.A] [] λr T=>r=.ag (Ao o).A∧T=[]:=by
 refine aD SU (by decide) ?_;have hb:=o.B_len ho;simp only [go_sem];refine aQ (aA _) rfl (U3 o ho) ?_;simp only [go_sem];refine aG [2,3] (aA _) (by decide) (by simp) rfl rfl (U0 o.B (by omega)) ?_;rintro r T' ⟨rfl,rfl⟩;simp only [go_sem];refine cD (aA _) rfl rfl (Q7 _ lOp o.B (by rfl) (by rfl) (xE (by decide)) (by decide) (by decide) (o.B_ok ho) (by omega)) ?_;rintro r T' ⟨rfl,rfl⟩;refine ⟨by simp only [fF],by simp,?_⟩;simp only [go_sem];rfl
def aDm (pub r:Nat) (b:List Nat) (hp:pub<18446744073709551616) (hr:r<18446744073709551616) (hb:tI b) (hl:b.length≤1000000):aC PQ G Cr [uv pub,uv r,.ls 1 (bl b)] [] λx T=>x=.tup [.v (fu (O5 b)),.v (fu (GX r pub b))]∧T=[]:=by
 refine aD LH (by decide) ?_;simp only [go_sem];refine aB (aA _) rfl (Q7 _ O4 b (by rfl) (by rfl) (xE (by decide)) (by decide) (by decide) hb (by omega)) rfl ?_;simp only [go_sem];refine cD (aA _) rfl rfl (aCe _ aDl [r,pub,(O5 b).val] (by rfl) (by rfl) (xE (by decide)) (by decide) (by decide) (λn hn=>?_) (by simp)) ?_
 ·simp only [jB,qS,or_false] at hn;rcases hn with rfl | rfl | rfl
  ·exact hr
  ·exact hp
  ·exact Af _
 rintro x T' ⟨rfl,rfl⟩;refine ⟨by simp only [fF],by simp,?_⟩;simp only [go_sem];rfl
def LN (n lo hi:Nat):aC PQ G wV [uv n,uv lo,uv hi] [] λr T=>r=.v (.bool (decide (lo≤n)&&decide (n≤hi)))∧T=[]:=by
 refine aD GR (by decide) ?_;have e1:decide ((lo:Int)≤(n:Int))=decide (lo≤n):=by rw [rX];simp
 have e2:decide ((n:Int)≤(hi:Int))=decide (n≤hi):=by rw [rX];simp
 simp only [go_sem,ge_iff_le,e1];cases decide (lo≤n)<;>simp only [go_sem,undef,e2,kN,kC]
def O6 (pub:Nat) (b:List Nat) (R S:Nat) (hp:pub<18446744073709551616) (hR:R<18446744073709551616) (hS:S<18446744073709551616) (hb:tI b) (hl:b.length≤1000000):aC PQ G BM [uv pub,.ls 1 (bl b),.ag [uv R,uv S]] [] λr T=>r=.v (.bool (xT pub b R S))∧T=[]:=by
 refine aD Ia (by decide) ?_;simp only [go_sem];refine aB (aA _) rfl (LN pub 1 2305843009213693950) rfl ?_;cases h1:(decide (1≤pub)&&decide (pub≤2305843009213693950))
 ·simp only [go_sem,undef,xT,h1,kC]
 simp only [go_sem];refine aB (aA _) rfl (LN R 1 2305843009213693950) rfl ?_;cases h2:(decide (1≤R)&&decide (R≤2305843009213693950))
 ·simp only [go_sem,undef,xT,h1,h2,kC,Dz]
 simp only [go_sem];refine aB (aA _) rfl (LN S 0 2305843009213693949) rfl ?_;cases h3:decide (S≤2305843009213693949)
 ·simp only [go_sem,xT,h1,h2,h3,kC,Dz,B8,kN]
 simp only [go_sem,B8];refine aB (aA _) rfl (aDm pub R b hp hR hb hl) rfl ?_;simp only [lN,decide_eq_true_eq] at h1 h2 h3;have e1:uv pub=.v (fu (PW pub)):=by simp only [fu,JM (show pub<2305843009213693951 by omega)]
 have e2:uv R=.v (fu (PW R)):=by simp only [fu,JM (show R<2305843009213693951 by omega)]
 have eq37:AV.v (.int .u64 37)=.v (fu (37:Fq)):=rfl;simp only [go_sem];refine aB (R:=.v (fu ((37:Fq)^S))) (aA _) rfl (Y5 (37:Fq) S hS) rfl ?_;simp only [go_sem];refine aB (R:=.v (fu (PW pub^(GX R pub b).val))) (aA _) rfl (by rw [e1];exact Y5 (PW pub) (GX R pub b).val (Af _)) rfl ?_;simp only [go_sem];refine aB (R:=.v (fu (PW R*PW pub^(GX R pub b).val))) (aA _) rfl (by rw [e2];exact Qu (PW R) _) rfl ?_;have e3:∀ x y:Fq,((x.val:Int)==(y.val:Int))=decide (x=y):=λx y=>by
  rw [rX];simp [Fin.ext_iff];omega
 simp only [go_sem,e3,xT];simp [h1,h2,h3]
def ZN (c:CardM) (o:OpM) (ho:o.ok) (hc:c.Sign<18446744073709551616):aC PQ G Ck [.ag c.A,.ag o.A] [] λr T=>r=.v (.bool ((o.By==c.Device)&&xT c.Sign o.B o.SR o.SS))∧T=[]:=by
 refine aD KW (by decide) ?_;have hb:=o.B_len ho;have h1:=ho.nums o.SR (by simp);have h2:=ho.nums o.SS (by simp);simp only [go_sem,CardM.A_def];cases he:(o.By==c.Device)
 ·simp only [go_sem,undef,kC]
 simp only [go_sem];refine aQ (aA _) rfl (U3 o ho) ?_;simp only [go_sem];refine aG [2,3] (aA _) (by decide) (by simp) rfl rfl (U0 o.B (by omega)) ?_;rintro r T' ⟨rfl,rfl⟩;simp only [go_sem];refine cD (aA _) rfl rfl (O6 c.Sign o.B o.SR o.SS hc h1 h2 (o.B_ok ho) (by omega)) ?_;rintro r T' ⟨rfl,rfl⟩;refine ⟨by simp only [fF],by simp,?_⟩;simp only [go_sem,kN]
end
end
section
section
variable {G:Nat→Option (List AV)}
set_option maxHeartbeats 4000000
def aB9 (x:Id) (hx:x.ok):aC PQ G nE [.ag x.A] [] λr T'=>r=.own 0∧T'=[some (.arr 1 (bl x.B))]:=by
 have:=aB1 (G:=G) x.a x.b x.c.toNat hx.1.1 hx.1.2 hx.2.1.1 hx.2.1.2 (by have:=hx.2.2;omega);rw [Int.toNat_of_nonneg hx.2.2.1] at this;exact this
def HS (o:OpM) (ho:o.ok):aC PQ G tM [.ag o.A] [] λr T'=>r=.own 0∧T'=[some (.arr 1 (bl o.B))]:=by
 refine aD KN (by decide) ?_;have hi:∀ n,n∈[o.By,o.Seq,o.Kind,o.At,o.Device,o.Old,o.Member,o.Role,o.N,o.Need,o.Wait]→kZ n:=ho.ints;have y1:=ho.past.1;have y2:=ho.path.1;have y3:=ho.refs.1;have y4:=ho.guards.1;have y5:=ho.boxes.1;have y6:=ho.hist.1;have y7:=ho.body.1;have z1:(cC [o.By,o.Seq,o.Kind,o.At,(o.Past.length:Int)]).length≤50:=iX [o.By,o.Seq,o.Kind,o.At,(o.Past.length:Int)];have z2:(cC [o.Device,o.Old,o.Member,o.Role,(o.Path.length:Int)]).length≤50:=iX [o.Device,o.Old,o.Member,o.Role,(o.Path.length:Int)];have z3:o.Epoch.B.length≤30:=Id.B_len _;have z4:(bD o.N).length≤10:=bI _;have z5:(nN o.Body).length≤1010:=by unfold nN;rw [gK];have:=bI (o.Body.length:Int);omega
 have z6:(bD (o.Refs.length:Int)).length≤10:=bI _;have z7:(jZ o.Refs).length≤10000:=by have:=wI o.Refs;omega
 have z8:o.Of.B.length≤30:=Id.B_len _;have z9:(bD (o.Guards.length:Int)).length≤10:=bI _;have z10:(cC o.Guards).length≤10000:=by have:=iX o.Guards;omega
 have z11:(cC [o.Need,o.Wait]).length≤20:=iX [o.Need,o.Wait];have z12:(rQ o.Boxes).length≤40010:=by unfold rQ;rw [gK];have:=bI (o.Boxes.length:Int);have:=GT o.Boxes;omega
 have z13:(eH o.Pub).length≤10:=fM _;have z14:(bD (o.Hist.length:Int)).length≤10:=bI _;have hpa:∀ x∈o.Past,x.B.length≤30:=λx _=>Id.B_len x;have hpt:∀ x∈o.Path,x.B.length≤4020:=λx h=>GV (ho.path.2 x h);have hhi:∀ x∈o.Hist,x.B.length≤1040:=λx h=>GW (ho.hist.2 x h);have fl:∀ {k:Nat} {W:List Nat},k<100000000→W.length≤k→(∀ e∈bl W,∀ c∈e,∃ x,c=AV.v x):=λ_ _ e he c hc=>by
  obtain ⟨n,_,rfl⟩:=cZ.1 he;exact ⟨_,iU.1 hc⟩
 simp only [go_sem,aL];refine cD (aA _) rfl rfl (O2 [o.By,o.Seq,o.Kind,o.At,(o.Past.length:Int)] (by simp) (λn hm=>?_)) ?_
 ·simp only [jB,qS,or_false] at hm;rcases hm with h | h | h | h | h
  ·exact h ▸ hi _ (by simp)
  ·exact h ▸ hi _ (by simp)
  ·exact h ▸ hi _ (by simp)
  ·exact h ▸ hi _ (by simp)
  ·subst h;exact ⟨by omega,by omega⟩
 rintro r T' ⟨rfl,rfl⟩;refine ⟨by simp only [fF],by simp only [iU,uX,forall_eq];exact fl (k:=50) (by decide) z1,?_⟩;obtain ⟨A1,hA1⟩:∃ A1,A1=cC [o.By,o.Seq,o.Kind,o.At,(o.Past.length:Int)]:=⟨_,rfl⟩
 rw [←hA1];have l1:A1.length≤50:=by rw [hA1];exact z1
 simp only [go_sem];refine aJ o.Past.length (λi=>⟨0,[(1,.ptr 0 0),(3,.own 1),(4,iv i)],[some (.box o.A),some (.arr 1 (bl (A1++((o.Past.take i).map Id.B).flatten)))]⟩) (λ_=>True) ?_ trivial ?_ ?_
 ·simp only [go_sem,rY,zF,nR]
 ·intro i hj _;have g0:(o.Past.map Id.A)[i]?=some o.Past[i].A:=aI _ o.Past i hj;have hk:=hpa o.Past[i] (iN hj);have k1:=vU hpa i (Pq hj);have es:A1++((o.Past.take (i+1)).map Id.B).flatten=(A1++((o.Past.take i).map Id.B).flatten)++Id.B o.Past[i]:=by rw [Bi _ o.Past i hj];simp only [jI]
  have k3:(A1++((o.Past.take i).map Id.B).flatten).length≤30060:=by rw [gK];omega
  rw [es];clear es;have hx:=ho.past.2 o.Past[i] (iN hj);generalize A1++((o.Past.take i).map Id.B).flatten=X at *
  generalize o.Past[i]=x at *
  have ws:=aF (show i<9223372036854775807 by omega);simp only [go_sem,aL,bG hj,g0];have b1:X.length+x.B.length≤140737488355328:=by omega
  have b2:X.length+x.B.length≤maxLen:=by unfold maxLen;omega
  have b3:(X.length+x.B.length)*1≤140737488355328:=by omega
  refine aQ (aA _) rfl (aB9 x hx) ?_;simp only [go_sem,aL,b2,b3,ws,jA]
 intro _;rw [lP];obtain ⟨A2,hA2⟩:∃ A2,A2=A1++(o.Past.map Id.B).flatten:=⟨_,rfl⟩
 rw [←hA2];have l2:A2.length≤30050:=by rw [hA2,gK];have:=LJ hpa;omega
 simp only [go_sem,aL,aX (cN _)];have b1:A2.length+(cC [o.Device,o.Old,o.Member,o.Role,(o.Path.length:Int)]).length≤140737488355328:=by omega
 have b2:A2.length+(cC [o.Device,o.Old,o.Member,o.Role,(o.Path.length:Int)]).length≤maxLen:=by unfold maxLen;omega
 have b3:(A2.length+(cC [o.Device,o.Old,o.Member,o.Role,(o.Path.length:Int)]).length)*1≤140737488355328:=by omega
 refine cD (aA _) rfl rfl (O2 [o.Device,o.Old,o.Member,o.Role,(o.Path.length:Int)] (by simp) (λn hm=>?_)) ?_
 ·simp only [jB,qS,or_false] at hm;rcases hm with h | h | h | h | h
  ·exact h ▸ hi _ (by simp)
  ·exact h ▸ hi _ (by simp)
  ·exact h ▸ hi _ (by simp)
  ·exact h ▸ hi _ (by simp)
  ·subst h;exact ⟨by omega,by omega⟩
 rintro r T' ⟨rfl,rfl⟩;refine ⟨by simp only [fF],by simp only [iU,uX,forall_eq];exact fl (k:=50) (by decide) (by omega),?_⟩;simp only [go_sem,aL,b2,b3];rw [←jA];obtain ⟨A3,hA3⟩:∃ A3,A3=A2++(cC [o.Device,o.Old,o.Member,o.Role,(o.Path.length:Int)]):=⟨_,rfl⟩
 rw [←hA3];have l3:A3.length≤30100:=by rw [hA3,gK];omega
 clear b1 b2 b3;refine aJ o.Path.length (λi=>⟨0,[(1,.ptr 0 0),(3,.own 1),(5,iv i)],[some (.box o.A),some (.arr 1 (bl (A3++((o.Path.take i).map NodeM.B).flatten)))]⟩) (λ_=>True) ?_ trivial ?_ ?_
 ·simp only [go_sem,rY,zF,nR]
 ·intro i hj _;have g0:(o.Path.map NodeM.A)[i]?=some [uv o.Path[i].Pub,De o.Path[i].Boxes]:=aI _ o.Path i hj;have hk:=hpt o.Path[i] (iN hj);have k1:=vU hpt i (Pq hj);have es:A3++((o.Path.take (i+1)).map NodeM.B).flatten=(A3++((o.Path.take i).map NodeM.B).flatten)++NodeM.B o.Path[i]:=by rw [Bi _ o.Path i hj];simp only [jI]
  have k3:(A3++((o.Path.take i).map NodeM.B).flatten).length≤70310:=by rw [gK];omega
  rw [es];clear es;have hx:=ho.path.2 o.Path[i] (iN hj);generalize A3++((o.Path.take i).map NodeM.B).flatten=X at *
  generalize o.Path[i]=x at *
  have ws:=aF (show i<9223372036854775807 by omega);simp only [go_sem,aL,bG hj,g0];have u1:(eH x.Pub).length≤10:=fM _;have u2:(rQ x.Boxes).length≤4010:=by unfold rQ;rw [gK];have:=bI (x.Boxes.length:Int);have:=GT x.Boxes;have:=hx.2.1;omega
  have b1:X.length+(eH x.Pub).length≤140737488355328:=by omega
  have b2:X.length+(eH x.Pub).length≤maxLen:=by unfold maxLen;omega
  have b3:(X.length+(eH x.Pub).length)*1≤140737488355328:=by omega
  refine aQ (aA _) rfl (NY x.Pub hx.1) ?_;simp only [go_sem,aL,g0,b2,b3];rw [←jA];obtain ⟨Y,hY⟩:∃ Y,Y=X++(eH x.Pub):=⟨_,rfl⟩
  rw [←hY];have lY:Y.length≤70320:=by rw [hY,gK];omega
  clear b1 b2 b3;have b1:Y.length+(rQ x.Boxes).length≤140737488355328:=by omega
  have b2:Y.length+(rQ x.Boxes).length≤maxLen:=by unfold maxLen;omega
  have b3:(Y.length+(rQ x.Boxes).length)*1≤140737488355328:=by omega
  refine aQ (aA _) rfl (U1 x.Boxes (by have:=hx.2.1;omega) hx.2.2) ?_;simp only [go_sem,aL,b2,b3,ws,jA,NodeM.B];rw [hY];simp only [jA,jI]
  try rfl
 intro _;rw [lP];obtain ⟨A4,hA4⟩:∃ A4,A4=A3++(o.Path.map NodeM.B).flatten:=⟨_,rfl⟩
 rw [←hA4];have l4:A4.length≤70300:=by rw [hA4,gK];have:=LJ hpt;omega
 simp only [go_sem,aL,aX (cN _)];have b1:A4.length+o.Epoch.B.length≤140737488355328:=by omega
 have b2:A4.length+o.Epoch.B.length≤maxLen:=by unfold maxLen;omega
 have b3:(A4.length+o.Epoch.B.length)*1≤140737488355328:=by omega
 refine aQ (aA _) rfl (aB9 o.Epoch ho.epoch) ?_;simp only [go_sem,aL,b2,b3];rw [←jA];obtain ⟨A5,hA5⟩:∃ A5,A5=A4++o.Epoch.B:=⟨_,rfl⟩
 rw [←hA5];have l5:A5.length≤70330:=by rw [hA5,gK];omega
 clear b1 b2 b3;have b1:A5.length+(bD o.N).length≤140737488355328:=by omega
 have b2:A5.length+(bD o.N).length≤maxLen:=by unfold maxLen;omega
 have b3:(A5.length+(bD o.N).length)*1≤140737488355328:=by omega
 refine aQ (aA _) rfl (rP o.N (hi o.N (by simp)).1 (hi o.N (by simp)).2) ?_;simp only [go_sem,aL,b2,b3,↓DN];rw [←jA];obtain ⟨A6,hA6⟩:∃ A6,A6=A5++(bD o.N):=⟨_,rfl⟩
 rw [←hA6];have l6:A6.length≤70340:=by rw [hA6,gK];omega
 clear b1 b2 b3;have b1:A6.length+(nN o.Body).length≤140737488355328:=by omega
 have b2:A6.length+(nN o.Body).length≤maxLen:=by unfold maxLen;omega
 have b3:(A6.length+(nN o.Body).length)*1≤140737488355328:=by omega
 refine aQ (aA _) rfl (ZE (bsN o.Body) o.Body (Bj ho.body.2) (GU _) (by omega)) ?_;simp only [go_sem,aL,b2,b3];rw [←jA];obtain ⟨A7,hA7⟩:∃ A7,A7=A6++(nN o.Body):=⟨_,rfl⟩
 rw [←hA7];have l7:A7.length≤71350:=by rw [hA7,gK];omega
 clear b1 b2 b3;have b1:A7.length+(bD (o.Refs.length:Int)).length≤140737488355328:=by omega
 have b2:A7.length+(bD (o.Refs.length:Int)).length≤maxLen:=by unfold maxLen;omega
 have b3:(A7.length+(bD (o.Refs.length:Int)).length)*1≤140737488355328:=by omega
 refine aQ (aA _) rfl (rP (o.Refs.length:Int) (by omega) (by omega)) ?_;simp only [go_sem,aL,b2,b3];rw [←jA];obtain ⟨A8,hA8⟩:∃ A8,A8=A7++(bD (o.Refs.length:Int)):=⟨_,rfl⟩
 rw [←hA8];have l8:A8.length≤71360:=by rw [hA8,gK];omega
 clear b1 b2 b3;have b1:A8.length+(jZ o.Refs).length≤140737488355328:=by omega
 have b2:A8.length+(jZ o.Refs).length≤maxLen:=by unfold maxLen;omega
 have b3:(A8.length+(jZ o.Refs).length)*1≤140737488355328:=by omega
 refine aQ (aA _) rfl (ZD o.Refs (by omega) ho.refs.2) ?_;simp only [go_sem,aL,b2,b3];rw [←jA];obtain ⟨A9,hA9⟩:∃ A9,A9=A8++(jZ o.Refs):=⟨_,rfl⟩
 rw [←hA9];have l9:A9.length≤81360:=by rw [hA9,gK];omega
 clear b1 b2 b3;have b1:A9.length+o.Of.B.length≤140737488355328:=by omega
 have b2:A9.length+o.Of.B.length≤maxLen:=by unfold maxLen;omega
 have b3:(A9.length+o.Of.B.length)*1≤140737488355328:=by omega
 refine aQ (aA _) rfl (aB9 o.Of ho.of) ?_;simp only [go_sem,aL,b2,b3];rw [←jA];obtain ⟨A10,hA10⟩:∃ A10,A10=A9++o.Of.B:=⟨_,rfl⟩
 rw [←hA10];have l10:A10.length≤81390:=by rw [hA10,gK];omega
 clear b1 b2 b3;have b1:A10.length+(bD (o.Guards.length:Int)).length≤140737488355328:=by omega
 have b2:A10.length+(bD (o.Guards.length:Int)).length≤maxLen:=by unfold maxLen;omega
 have b3:(A10.length+(bD (o.Guards.length:Int)).length)*1≤140737488355328:=by omega
 refine aQ (aA _) rfl (rP (o.Guards.length:Int) (by omega) (by omega)) ?_;simp only [go_sem,aL,b2,b3];rw [←jA];obtain ⟨A11,hA11⟩:∃ A11,A11=A10++(bD (o.Guards.length:Int)):=⟨_,rfl⟩
 rw [←hA11];have l11:A11.length≤81400:=by rw [hA11,gK];omega
 clear b1 b2 b3;have b1:A11.length+(cC o.Guards).length≤140737488355328:=by omega
 have b2:A11.length+(cC o.Guards).length≤maxLen:=by unfold maxLen;omega
 have b3:(A11.length+(cC o.Guards).length)*1≤140737488355328:=by omega
 refine aQ (aA _) rfl (O2 o.Guards (by omega) ho.guards.2) ?_;simp only [go_sem,aL,b2,b3];rw [←jA];obtain ⟨A12,hA12⟩:∃ A12,A12=A11++(cC o.Guards):=⟨_,rfl⟩
 rw [←hA12];have l12:A12.length≤91400:=by rw [hA12,gK];omega
 clear b1 b2 b3;have b1:A12.length+(cC [o.Need,o.Wait]).length≤140737488355328:=by omega
 have b2:A12.length+(cC [o.Need,o.Wait]).length≤maxLen:=by unfold maxLen;omega
 have b3:(A12.length+(cC [o.Need,o.Wait]).length)*1≤140737488355328:=by omega
 refine cD (aA _) rfl rfl (O2 [o.Need,o.Wait] (by simp) (λn hm=>?_)) ?_
 ·simp only [jB,qS,or_false] at hm;rcases hm with h | h
  ·exact h ▸ hi _ (by simp)
  ·exact h ▸ hi _ (by simp)
 rintro r T' ⟨rfl,rfl⟩;refine ⟨by simp only [fF],by simp only [iU,uX,forall_eq];exact fl (k:=20) (by decide) (by omega),?_⟩;simp only [go_sem,aL,b2,b3];rw [←jA];obtain ⟨A13,hA13⟩:∃ A13,A13=A12++(cC [o.Need,o.Wait]):=⟨_,rfl⟩
 rw [←hA13];have l13:A13.length≤91420:=by rw [hA13,gK];omega
 clear b1 b2 b3;have b1:A13.length+(rQ o.Boxes).length≤140737488355328:=by omega
 have b2:A13.length+(rQ o.Boxes).length≤maxLen:=by unfold maxLen;omega
 have b3:(A13.length+(rQ o.Boxes).length)*1≤140737488355328:=by omega
 refine aQ (aA _) rfl (U1 o.Boxes (by omega) ho.boxes.2) ?_;simp only [go_sem,aL,b2,b3];rw [←jA];obtain ⟨A14,hA14⟩:∃ A14,A14=A13++(rQ o.Boxes):=⟨_,rfl⟩
 rw [←hA14];have l14:A14.length≤131430:=by rw [hA14,gK];omega
 clear b1 b2 b3;have b1:A14.length+(eH o.Pub).length≤140737488355328:=by omega
 have b2:A14.length+(eH o.Pub).length≤maxLen:=by unfold maxLen;omega
 have b3:(A14.length+(eH o.Pub).length)*1≤140737488355328:=by omega
 refine aQ (aA _) rfl (NY o.Pub (ho.nums o.Pub (by simp))) ?_;simp only [go_sem,aL,b2,b3];rw [←jA];obtain ⟨A15,hA15⟩:∃ A15,A15=A14++(eH o.Pub):=⟨_,rfl⟩
 rw [←hA15];have l15:A15.length≤131440:=by rw [hA15,gK];omega
 clear b1 b2 b3;have b1:A15.length+(bD (o.Hist.length:Int)).length≤140737488355328:=by omega
 have b2:A15.length+(bD (o.Hist.length:Int)).length≤maxLen:=by unfold maxLen;omega
 have b3:(A15.length+(bD (o.Hist.length:Int)).length)*1≤140737488355328:=by omega
 refine aQ (aA _) rfl (rP (o.Hist.length:Int) (by omega) (by omega)) ?_;simp only [go_sem,aL,b2,b3];rw [←jA];obtain ⟨A16,hA16⟩:∃ A16,A16=A15++(bD (o.Hist.length:Int)):=⟨_,rfl⟩
 rw [←hA16];have l16:A16.length≤131450:=by rw [hA16,gK];omega
 clear b1 b2 b3;refine aJ o.Hist.length (λi=>⟨0,[(1,.ptr 0 0),(3,.own 1),(6,iv i)],[some (.box o.A),some (.arr 1 (bl (A16++((o.Hist.take i).map SealM.B).flatten)))]⟩) (λ_=>True) ?_ trivial ?_ ?_
 ·simp only [go_sem,rY,zF,nR]
 ·intro i hj _;have g0:(o.Hist.map SealM.A)[i]?=some [.v (.int .i64 o.Hist[i].Of.a),.v (.int .i64 o.Hist[i].Of.b),.v (.int .u64 o.Hist[i].Of.c),.ls 1 (bl o.Hist[i].Body)]:=aI _ o.Hist i hj;have hk:=hhi o.Hist[i] (iN hj);have k1:=vU hhi i (Pq hj);have es:A16++((o.Hist.take (i+1)).map SealM.B).flatten=(A16++((o.Hist.take i).map SealM.B).flatten)++SealM.B o.Hist[i]:=by rw [Bi _ o.Hist i hj];simp only [jI]
  have k3:(A16++((o.Hist.take i).map SealM.B).flatten).length≤235460:=by rw [gK];omega
  rw [es];clear es;have hx:=ho.hist.2 o.Hist[i] (iN hj);generalize A16++((o.Hist.take i).map SealM.B).flatten=X at *
  generalize o.Hist[i]=x at *
  have ws:=aF (show i<9223372036854775807 by omega);simp only [go_sem,aL,bG hj,g0];have u1:x.Of.B.length≤30:=Id.B_len _;have u2:(nN x.Body).length≤1010:=by unfold nN;rw [gK];have:=bI (x.Body.length:Int);have:=hx.2.1;omega
  have b1:X.length+x.Of.B.length≤140737488355328:=by omega
  have b2:X.length+x.Of.B.length≤maxLen:=by unfold maxLen;omega
  have b3:(X.length+x.Of.B.length)*1≤140737488355328:=by omega
  refine aQ (aA _) rfl (aB9 x.Of hx.1) ?_;simp only [go_sem,aL,g0,b2,b3,↓DN];rw [←jA];obtain ⟨Y,hY⟩:∃ Y,Y=X++x.Of.B:=⟨_,rfl⟩
  rw [←hY];have lY:Y.length≤235490:=by rw [hY,gK];omega
  clear b1 b2 b3;have b1:Y.length+(nN x.Body).length≤140737488355328:=by omega
  have b2:Y.length+(nN x.Body).length≤maxLen:=by unfold maxLen;omega
  have b3:(Y.length+(nN x.Body).length)*1≤140737488355328:=by omega
  refine aQ (aA _) rfl (ZE (bsN x.Body) x.Body (Bj hx.2.2) (GU _) (by have:=hx.2.1;omega)) ?_;simp only [go_sem,aL,b2,b3,ws,jA,SealM.B];rw [hY];simp only [jA,jI]
  try rfl
 intro _;rw [lP];obtain ⟨A17,hA17⟩:∃ A17,A17=A16++(o.Hist.map SealM.B).flatten:=⟨_,rfl⟩
 rw [←hA17];have l17:A17.length≤235450:=by rw [hA17,gK];have:=LJ hhi;omega
 simp only [go_sem,aL,aX (cN _)];rw [hA17,hA16,hA15,hA14,hA13,hA12,hA11,hA10,hA9,hA8,hA7,hA6,hA5,hA4,hA3,hA2,hA1];simp only [OpM.B,kH,rQ,jI,nR,cC,jZ,fE,mE,qW,zF]
end
end
section
def O7:List Nat:=[110,111,110,99,101]
def sF:List Nat:=[115,105,103,110]
def U4:List Nat:=[108,101,97,100]
def U5:List Nat:=[107,101,101,112]
def jK:Nat:=2305843009213693950
def AA:Nat→Nat→Nat→Nat→Nat
 | 0,_,_,out=>out
 | n+1,a,b,out=>if b=0 then out else AA n ((a+a)%jK) (b/2) (if b%2=1 then (out+a)%jK else out)
def HT:∀ (n a b out:Nat),b<2^n→out<jK→AA n a b out=(out+a*b)%jK
 | 0,a,b,out,hb,ho=>by
  have:b=0:=by simpa using hb
  subst this;rw [AA,UD,wK,CL ho]
 | n+1,a,b,out,hb,ho=>by
  rw [AA];split
  ·rename_i h;subst h;rw [UD,wK,CL ho]
  ·have hb2:b/2<2^n:=by rw [Mo] at hb;omega
   have hpos:0<jK:=by decide
   have e:a*b=(a+a)*(b/2)+a*(b%2):=by
    have:=Mm b 2
    conv=>lhs;rw [←this]
    rw [Nat.mul_add,←Xv];congr 2;omega
   split
   ·rename_i h1;rw [HT n _ _ _ hb2 (vF _ hpos),e,h1,FX];rw [Pt,JX,Gn,JX,←Gn,←Pt];congr 1;omega
   ·rename_i h1;have h0:b%2=0:=by omega
    rw [HT n _ _ _ hb2 ho,e,h0,UD,wK,Pt,Gn,JX,←Gn,←Pt]
def FL (a b:Nat):Nat:=(a*b)%jK
def sG (secret:Nat) (b:List Nat):Nat:=MS O7 [secret,(O5 b).val]
def yW (secret:Nat) (b:List Nat):Fq:=(37:Fq)^sG secret b
def GY (secret:Nat) (b:List Nat):Nat:=(sG secret b+FL (GX (yW secret b).val ((37:Fq)^secret).val b).val secret)%jK
def vV (lab:List Nat) (d:Nat):Nat:=MS lab [d]
def bR (o:OpM):OpM:={ o with SR:=(yW (vV sF o.By.toNat) o.B).val,SS:=GY (vV sF o.By.toNat) o.B }
def Ww (o:OpM):(bR o).B=o.B:=by simp only [OpM.B,bR]
def HU (lab ns:List Nat):MS lab ns<18446744073709551616:=Mg (O1 lab ns).2 (by decide)
section
variable {G:Nat→Option (List AV)}
set_option maxHeartbeats 4000000
def Q9 (o:OpM) (ho:o.ok):aC PQ G F3 [.ag o.A] [] λr T=>r=.ag (Ao o).A∧T=[]:=by
 refine aD QQ (by decide) ?_;have hb:=o.B_len ho;simp only [go_sem];refine aQ (aA _) rfl (HS o ho) ?_;simp only [go_sem];refine cD (aA _) rfl rfl (Q1 _ lOp o.B (by rfl) (by rfl) (xE (by decide)) (by decide) (o.B_ok ho) (by omega)) ?_;rintro r T' ⟨rfl,rfl⟩;refine ⟨by simp only [fF],by simp,?_⟩;simp only [go_sem];rfl
def vW:aC PQ G iR [] [] λr T=>r=uv jK∧T=[]:=by
 refine aD LB (by decide) ?_;simp only [go_sem,jK];rfl
def c_m (b:List Nat) (hb:tI b) (hl:b.length≤1000000):aC PQ G I7 [.ls 1 (bl b)] [] λr T=>r=.v (fu (O5 b))∧T=[]:=by
 refine aD S6 (by decide) ?_;simp only [go_sem];refine aB (aA _) rfl (Q1 _ O4 b (by rfl) (by rfl) (xE (by decide)) (by decide) hb hl) rfl ?_;simp only [go_sem];rfl
def c_e (r pub:Nat) (b:List Nat) (hr:r<18446744073709551616) (hp:pub<18446744073709551616) (hb:tI b) (hl:b.length≤1000000):aC PQ G I8 [uv r,uv pub,.ls 1 (bl b)] [] λx T=>x=.v (fu (GX r pub b))∧T=[]:=by
 refine aD S7 (by decide) ?_;simp only [go_sem];refine aB (aA _) rfl (c_m b hb hl) rfl ?_;simp only [go_sem];refine cD (aA _) rfl rfl (Y9 _ aDl [r,pub,(O5 b).val] (by rfl) (by rfl) (xE (by decide)) (by decide) (λn hn=>?_) (by simp)) ?_
 ·simp only [jB,qS,or_false] at hn;rcases hn with rfl | rfl | rfl
  ·exact hr
  ·exact hp
  ·exact Af _
 rintro x T' ⟨rfl,rfl⟩;refine ⟨by simp only [fF],by simp,?_⟩;simp only [go_sem];rfl
def Dr (s:Nat) (hs:s<18446744073709551616):aC PQ G wF [uv s] [] λr T=>r=.v (fu ((37:Fq)^s))∧T=[]:=by
 refine aD Oz (by decide) ?_;simp only [go_sem];refine aB (R:=.v (fu ((37:Fq)^s))) (aA _) rfl (Qw (37:Fq) s hs) rfl ?_;simp only [go_sem]
def aBa (a b:Nat) (ha:a<18446744073709551616) (hb:b<18446744073709551616):aC PQ G Co [uv a,uv b] [] λr T=>r=uv (FL a b)∧T=[]:=by
 refine aD LA (by decide) ?_;have hpos:0<jK:=by decide
 have r1:bM .rem (.int .u64 (a:Int)) (.int .u64 (jK:Nat))=some (.int .u64 ((a%jK:Nat):Int)):=jS a jK (Pr hpos);have r2:bM .rem (.int .u64 (b:Int)) (.int .u64 (jK:Nat))=some (.int .u64 ((b%jK:Nat):Int)):=jS b jK (Pr hpos);simp only [go_sem];refine aB (aA _) rfl vW rfl ?_;simp only [go_sem,↓r1];refine aB (aA _) rfl vW rfl ?_;simp only [go_sem,↓r2];have key:AA 64 (a%jK) (b%jK) 0=FL a b:=by
  rw [HT 64 _ _ _ (Mr (vF _ hpos) (by decide)) hpos,qT,FL,←Gn]
 rw [←key];have ha2:=vF a hpos;have hb2:b%jK<2^64:=Mr (vF _ hpos) (by decide);generalize a%jK=a at *
 generalize b%jK=b at *
 clear key ha hb r1 r2;refine jE (λn s=>∃ a' b' out,AA n a' b' out=AA 64 a b 0∧a'<jK∧b'<2^n∧n≤64∧out<jK∧s=⟨0,[(0,uv a'),(1,uv b'),(5,uv out)],[]⟩) 64 ⟨a,b,0,rfl,ha2,hb2,cT _,hpos,?_⟩ ?_
 ·simp only [go_sem];rfl
 rintro n s ⟨a',b',out,he,ha',hb',hn,ho',rfl⟩;rw [←he];have q1:jK=2305843009213693950:=rfl;by_cases h0:b'=0
 ·subst h0;have t1:decide (((0:Nat):Int)>0)=false:=by decide
  have ef:AA n a' 0 out=out:=by cases n<;>simp [AA]
  rw [ef];simp only [go_sem]
 cases n with
 | zero=>exact absurd (show b'=0 by simpa using hb') h0
 | succ n =>
  have t1:decide ((b':Int)>0)=true:=decide_eq_true (by omega);have hb64:b'<18446744073709551616:=AH hb' (Nz (by decide) hn);have rb:bM .rem (.int .u64 (b':Int)) (.int .u64 2)=some (.int .u64 ((b'%2:Nat):Int)):=jS b' 2 (by decide);have qb:bM .quo (.int .u64 (b':Int)) (.int .u64 2)=some (.int .u64 ((b'/2:Nat):Int)):=Ad b' 2 (by decide) hb64;have aa:bM .add (.int .u64 (a':Int)) (.int .u64 (a':Int))=some (.int .u64 ((a'+a':Nat):Int)):=dG a' a' (by omega);have ra:bM .rem (.int .u64 ((a'+a':Nat):Int)) (.int .u64 (jK:Nat))=some (.int .u64 (((a'+a')%jK:Nat):Int)):=jS (a'+a') jK (Pr hpos);have oa:bM .add (.int .u64 (out:Int)) (.int .u64 (a':Int))=some (.int .u64 ((out+a':Nat):Int)):=dG out a' (by omega);have ro:bM .rem (.int .u64 ((out+a':Nat):Int)) (.int .u64 (jK:Nat))=some (.int .u64 (((out+a')%jK:Nat):Int)):=jS (out+a') jK (Pr hpos);have hb2':b'/2<2^n:=by rw [Mo] at hb';omega
  rw [AA,if_neg h0];simp only [go_sem,t1,↓rb];by_cases hod:b'%2=1
  ·have t2:(((b'%2:Nat):Int)==1)=true:=by rw [hod];rfl
   rw [if_pos hod];simp only [go_sem,t2,↓oa];refine aB (aA _) rfl vW rfl ?_;simp only [go_sem,↓ro,↓aa];refine aB (aA _) rfl vW rfl ?_;simp only [go_sem,↓ra,↓qb];exact ⟨n,by omega,_,_,_,rfl,vF _ hpos,hb2',by omega,vF _ hpos,rfl⟩
  ·have t2:(((b'%2:Nat):Int)==1)=false:=by rw [show b'%2=0 by omega];rfl
   rw [if_neg hod];simp only [go_sem,t2,↓aa];refine aB (aA _) rfl vW rfl ?_;simp only [go_sem,↓ra,↓qb];exact ⟨n,by omega,_,_,_,rfl,vF _ hpos,hb2',by omega,ho',rfl⟩
def RA (pub:Nat) (b:List Nat) (R S:Nat) (hp:pub<18446744073709551616) (hR:R<18446744073709551616) (hS:S<18446744073709551616) (hb:tI b) (hl:b.length≤1000000):aC PQ G Cm [uv pub,.ls 1 (bl b),.ag [uv R,uv S]] [] λr T=>r=.v (.bool (xT pub b R S))∧T=[]:=by
 refine aD LD (by decide) ?_;have q1:jK=2305843009213693950:=rfl;have e1:∀ x:Nat,decide ((x:Int)<1)=!decide (1≤x):=λx=>by rw [rX];simp;omega
 have e2:∀ x:Nat,decide ((jK:Int)<(x:Int))=!decide (x≤2305843009213693950):=λx=>by rw [rX];simp;omega
 have e3:decide ((jK:Int)≤(S:Int))=!decide (S≤2305843009213693949):=by rw [rX];simp;omega
 simp only [go_sem,e1];cases h1:decide (1≤pub)
 ·simp only [go_sem,undef,xT,h1,kC]
 simp only [go_sem];refine aB (aA _) rfl vW rfl ?_;simp only [go_sem,gt_iff_lt,e2];cases h2:decide (pub≤2305843009213693950)
 ·simp only [go_sem,undef,xT,h1,h2,kC,Dz]
 simp only [go_sem,e1];cases h3:decide (1≤R)
 ·simp only [go_sem,undef,xT,h1,h2,h3,kC,Dz]
 simp only [go_sem];refine aB (aA _) rfl vW rfl ?_;simp only [go_sem,gt_iff_lt,e2];cases h4:decide (R≤2305843009213693950)
 ·simp only [go_sem,undef,xT,h1,h2,h3,h4,kC,Dz]
 simp only [go_sem];refine aB (aA _) rfl vW rfl ?_;simp only [go_sem,ge_iff_le,e3];cases h5:decide (S≤2305843009213693949)
 ·simp only [go_sem,xT,h1,h2,h3,h4,h5,kC,Dz]
 simp only [decide_eq_true_eq] at h1 h2 h3 h4 h5;have u1:uv pub=.v (fu (PW pub)):=by simp only [fu,JM (show pub<2305843009213693951 by omega)]
 have u2:uv R=.v (fu (PW R)):=by simp only [fu,JM (show R<2305843009213693951 by omega)]
 simp only [go_sem];refine aB (R:=.v (fu ((37:Fq)^S))) (aA _) rfl (Qw (37:Fq) S hS) rfl ?_;simp only [go_sem];refine aB (aA _) rfl (c_e R pub b hR hp hb hl) rfl ?_;simp only [go_sem];refine aB (R:=.v (fu (PW pub^(GX R pub b).val))) (aA _) rfl (by rw [u1];exact Qw (PW pub) (GX R pub b).val (Af _)) rfl ?_;simp only [go_sem];refine aB (R:=.v (fu (PW R*PW pub^(GX R pub b).val))) (aA _) rfl (by rw [u2];exact Qv (PW R) _) rfl ?_;have e3:∀ x y:Fq,((x.val:Int)==(y.val:Int))=decide (x=y):=λx y=>by
  rw [rX];simp [Fin.ext_iff];omega
 simp only [go_sem,e3,xT];simp [h1,h2,h3,h4,h5]
def aDn (s:Nat) (b:List Nat) (hs:s<18446744073709551616) (hb:tI b) (hl:b.length≤1000000):aC PQ G Ez [uv s,.ls 1 (bl b)] [] λr T=>r=.ag [.v (fu (yW s b)),uv (GY s b)]∧T=[]:=by
 refine aD MQ (by decide) ?_;have hpos:0<jK:=by decide
 have q1:jK=2305843009213693950:=rfl;simp only [go_sem];refine aB (aA _) rfl (c_m b hb hl) rfl ?_;simp only [go_sem];refine cD (aA _) rfl rfl (NZ _ O7 [s,(O5 b).val] (by rfl) (by rfl) (xE (by decide)) (by decide) (λn hn=>?_) (by simp)) ?_
 ·simp only [jB,qS,or_false] at hn;rcases hn with rfl | rfl
  ·exact hs
  ·exact Af _
 rintro x T' ⟨rfl,rfl⟩;refine ⟨by simp only [fF],by simp,?_⟩;have ho:sG s b<2305843009213693950:=by have:=O1 O7 [s,(O5 b).val];unfold sG;omega
 rw [show MS O7 [s,(O5 b).val]=sG s b from rfl];simp only [go_sem];refine aB (R:=.v (fu (yW s b))) (aA _) rfl (Qw (37:Fq) (sG s b) (by omega)) rfl ?_;simp only [go_sem];refine aB (aA _) rfl (Dr s hs) rfl ?_;simp only [go_sem];refine aB (aA _) rfl (c_e (yW s b).val ((37:Fq)^s).val b (Af _) (Af _) hb hl) rfl ?_;simp only [go_sem];refine aB (aA _) rfl (aBa (GX (yW s b).val ((37:Fq)^s).val b).val s (Af _) hs) rfl ?_;obtain ⟨x,hx⟩:∃ x,x=FL (GX (yW s b).val ((37:Fq)^s).val b).val s:=⟨_,rfl⟩
 rw [←hx];have hxl:x<jK:=by rw [hx];exact vF _ hpos
 have aa:bM .add (.int .u64 (sG s b:Int)) (.int .u64 (x:Int))=some (.int .u64 ((sG s b+x:Nat):Int)):=dG (sG s b) x (by omega);have ra:bM .rem (.int .u64 ((sG s b+x:Nat):Int)) (.int .u64 (jK:Nat))=some (.int .u64 (((sG s b+x)%jK:Nat):Int)):=jS (sG s b+x) jK (Pr hpos);simp only [go_sem,↓aa];refine aB (aA _) rfl vW rfl ?_;simp only [go_sem,↓ra];rw [hx];rfl
def vX (S:ByteArray) (lab:List Nat) (d:Nat) (hS:jC S=bl lab) (hs:S.size=lab.length) (hb:tI lab) (hl:lab.length≤1000) (hd:d≤9223372036854775807):aC PQ G nX [.v (.string S),iv d] [] λr T=>r=uv (vV lab d)∧T=[]:=by
 refine aD IJ (by decide) ?_;have w1:IntKind.u64.wrap (d:Int)=(d:Int):=bT d (by omega);simp only [go_sem,w1];refine cD (aA _) rfl rfl (NZ S lab [d] hS hs hb hl (λn hn=>?_) (by simp)) ?_
 ·simp only [iU] at hn;subst hn;omega
 rintro x T' ⟨rfl,rfl⟩;refine ⟨by simp only [fF],by simp,?_⟩;simp only [go_sem];rfl
def LO (o:OpM) (ho:o.ok) (hd:0≤o.By):aC PQ G gJ [.ag o.A] [] λr T=>r=.ag (bR o).A∧T=[]:=by
 refine aD II (by decide) ?_;have hb:=o.B_len ho;have h1:=(ho.ints o.By (by simp)).2;obtain ⟨d,hdd⟩:∃ d:Nat,o.By=(d:Int):=⟨o.By.toNat,by omega⟩
 have hdn:o.By.toNat=d:=by rw [hdd];rfl
 simp only [go_sem];refine aB (R:=uv (vV sF o.By.toNat)) (aA _) rfl (by rw [hdn,hdd];exact vX _ sF d (by rfl) (by rfl) (xE (by decide)) (by decide) (by omega)) rfl ?_;simp only [go_sem];refine aQ (aA _) rfl (HS o ho) ?_;simp only [go_sem];refine cD (aA _) rfl rfl (aDn (vV sF o.By.toNat) o.B (HU _ _) (o.B_ok ho) (by omega)) ?_;rintro x T' ⟨rfl,rfl⟩;refine ⟨by simp only [fF,oY];trivial,by simp,?_⟩;simp only [go_sem,OpM.A_def,bR]
end
end
section
section
variable {G:Nat→Option (List AV)}
set_option maxHeartbeats 4000000
def aFa (l:List Int) (x:Int) (hl:l.length<9223372036854775807):aC PQ G Df [uK l,iv x] [] λr T=>r=.v (.bool (decide (x∈l)))∧T=[]:=by
 refine aD Oy (by decide) ?_;simp only [go_sem];refine aJ l.length (λi=>⟨0,[(0,uK l),(1,iv x),(5,iv i)],[]⟩) (λi=>∀ j (hj:j<l.length),j<i→l[j]≠x) ?_ (by intro j hj h;omega) ?_ ?_
 ·simp only [go_sem]
 ·intro i hi hJ;have g0:(l.map λn=>[iv n])[i]?=some [iv l[i]]:=aI _ l i hi;simp only [go_sem,aL,bG hi,g0];refine aK (λh=>?_) (λh=>?_)<;>simp only [go_sem,aF (show i<9223372036854775807 by omega)]
  ·grind
  ·grind
 ·intro hJ;have e:¬x∈l:=λhm=>by
   obtain ⟨j,hj,he⟩:=AG hm;exact hJ j hj hj he
  simp only [go_sem,aL,aX (cN _),decide_eq_false e]
def vY (g:GM) (x:Id) (hg:g.ok):aC PQ G iP [.ag g.A,.ag x.A] [] λr T=>r=iv (aM g.I x)∧T=[]:=by
 refine aD KK (by decide) ?_;have hl:g.I.length<9223372036854775807:=by have:=hg.i;have:=hg.n;omega
 simp only [go_sem];refine aJ g.I.length (λi=>⟨0,[(2,.ptr 0 0),(3,.ptr 1 0),(5,iv i)],[some (.box g.A),some (.box x.A)]⟩) (λi=>∀ j (hj:j<g.I.length),j<i→decide (g.I[j]=x)=false) ?_ (by intro j hj h;omega) ?_ ?_
 ·simp only [go_sem]
 ·intro i hi hJ;have g0:(g.I.map Id.A)[i]?=some g.I[i].A:=aI _ g.I i hi;simp only [go_sem,aL,bG hi,g0];refine aK (λh=>?_) (λh=>?_)<;>simp only [go_sem,aF (show i<9223372036854775807 by omega)]
  ·rw [aM,qO hi hJ h]
  ·grind
 ·intro hJ;simp only [go_sem,aL,aX (cN _)];rw [aM,qN λj hj=>hJ j hj hj]
def RB (g:GM) (d:Int) (hg:g.ok):aC PQ G BI [.ag g.A,iv d] [] λr T=>r=.tup [.ag (eK g.Cards d).1.A,.v (.bool (eK g.Cards d).2)]∧T=[]:=by
 refine aD L0 (by decide) ?_;have hl:g.Cards.length<9223372036854775807:=by have:=hg.cn;omega
 simp only [go_sem];refine aJ g.Cards.length (λi=>⟨0,[(1,iv d),(2,.ptr 0 0),(4,.ptr 1 0),(6,iv i)],[some (.box g.A),some (.box [iv 0,iv 0,AV.v (.int .u64 0),AV.v (.int .u64 0),AV.v (.int .u64 0)])]⟩) (λi=>∀ j (hj:j<g.Cards.length),j<i→(g.Cards[j].Device==d)=false) ?_ (by intro j hj h;omega) ?_ ?_
 ·simp only [go_sem]
 ·intro i hi hJ;have g0:(g.Cards.map CardM.A)[i]?=some [iv g.Cards[i].Device,iv g.Cards[i].Member,uv g.Cards[i].Lead,uv g.Cards[i].Keep,uv g.Cards[i].Sign]:=aI _ g.Cards i hi;simp only [go_sem,aL,bG hi,g0];refine aK (λh=>?_) (λh=>?_)<;>simp only [go_sem,g0,aF (show i<9223372036854775807 by omega)]
  ·have e:g.Cards.find? (λc=>c.Device==d)=some g.Cards[i]:=aBO.2 ⟨h,i,hi,rfl,λj hj=>by simp [hJ j (by omega) hj]⟩;simp only [eK,e,CardM.A_def]
  ·grind
 ·intro hJ;have e:g.Cards.find? (λc=>c.Device==d)=none:=Ls.2 λx hx=>by
   obtain ⟨j,hj,rfl⟩:=AG hx;simp [hJ j hj hj]
  simp only [go_sem,aL,aX (cN _),eK,e,CardM.A_def];rfl
def aBb (l:List Nat):Ow l=uK (l.map λn:Nat=>(n:Int)):=by simp
def ZO {l:List Nat} {i:Nat}:decide ((i:Int)∈l.map λn:Nat=>(n:Int))=decide (i∈l):=by
 grind
theorem uB (u:List Nat) (b:List Bool):(u.foldl (λb k=>b.set k true) b).length=b.length:=by
 induction u generalizing b with
 | nil=>rfl
 | cons k u ih=>rw [Gm,ih,gG]
def Nc (Up:List (List Nat)) (up:List Nat) (a:List Bool) (i:Nat):(K6 Up up a i).length=a.length:=by
 grind [K6,uB]
def Nd (Up:List (List Nat)) (up:List Nat):∀ (n:Nat) (a:List Bool),(Hw Up up n a).length=a.length
 | 0,_=>rfl
 | n+1,a=>by rw [Hw,Nd Up up n,Nc]
theorem Ag (g:GM) (up:List Nat):(lE g up).length=g.L.length:=by rw [lE,Nd,Tw]
def GZ (u:List Nat) (b:List Bool) (i:Nat) (h:i<u.length):(u.take (i+1)).foldl (λb k=>b.set k true) b=((u.take i).foldl (λb k=>b.set k true) b).set u[i] true:=by
 rw [oV h,Pk];rfl
def aDo (l:List Nat) (i:Nat) (hl:l.length<9223372036854775807):aC PQ G Df [Ow l,iv i] [] λr T=>r=.v (.bool (decide (i∈l)))∧T=[]:=by
 rw [aBb,←ZO];exact aFa _ (i:Int) (by simpa using hl)
abbrev Wx (a:List Bool):List (List AV):=a.map λb=>[AV.v (.bool b)]
def O8 (a:List Bool) (i:Nat) (b:Bool):(Wx a).set i [AV.v (.bool b)]=Wx (a.set i b):=by simp
def TB (g:GM) (up:List Nat) (hg:g.ok) (hu:up.length≤1000):aC PQ G BD [.ag g.A,Ow up] [] λr T=>r=.own 0∧T=[some (.arr 1 (Wx (lE g up)))]:=by
 refine aD L4 (by decide) ?_;have hn:=hg.n;have b1:(g.L.length:Int)*1≤140737488355328:=by omega
 have b2:(g.L.length:Int)≤(maxLen:Nat):=by unfold maxLen;omega
 have hz:(0:Int)≤(g.L.length:Int):=by omega
 have w1:IntKind.i64.wrap ((g.L.length:Int)-1)=(g.L.length:Int)-1:=bF (by omega) (by omega);simp only [go_sem,aL,b1,b2,hz,w1,Int.le_refl];refine jE (λn s=>∃ a:List Bool,a.length=g.L.length∧n≤g.L.length∧Hw g.Up up n a=lE g up∧s=⟨0,[(1,Ow up),(2,.ptr 0 0),(5,.own 1),(6,iv ((n:Int)-1))],[some (.box g.A),some (.arr 1 (Wx a))]⟩) g.L.length ⟨List.replicate g.L.length false,by simp,cT _,rfl,?_⟩ ?_
 ·simp only [go_sem,Xl]
 rintro n s ⟨a,ha,hnl,hR,rfl⟩
 cases n with
 | zero =>
  have t1:decide ((0:Int)≤((0:Nat):Int)-1)=false:=by decide
  rw [←hR];simp only [go_sem,ge_iff_le,Hw]
 | succ i =>
  have e0:(((i+1:Nat):Int)-1)=(i:Int):=by omega
  have t1:decide ((0:Int)≤(i:Int))=true:=decide_eq_true (by omega);have w2:IntKind.i64.wrap ((i:Int)-1)=(i:Int)-1:=bF (by omega) (by omega);rw [e0];simp only [go_sem,ge_iff_le];refine aB (aA _) rfl (aDo up i (by omega)) rfl ?_;obtain ⟨a1,ha1⟩:∃ a1,a1=(if decide (i∈up) then a.set i true else a):=⟨_,rfl⟩
  have hl1:a1.length=g.L.length:=by grind
  have hil:i<g.L.length:=by omega
  have g0:(Wx a)[i]?=some [AV.v (.bool (a.getD i false))]:=by simp_all
  have g1:(Wx a1)[i]?=some [AV.v (.bool (a1.getD i false))]:=by simp_all
  have hU:(g.Up.map λl=>[Ow l])[i]?=some [Ow (g.Up.getD i [])]:=by rw [lO,uW,nQ (by rw [hg.un];omega)];rfl
  have hUm:g.Up.getD i []∈g.Up:=by grind
  obtain ⟨hul,huk⟩:=hg.up _ hUm;have hstep:K6 g.Up up a i=if a1.getD i false then (g.Up.getD i []).foldl (λb k=>b.set k true) a1 else a1:=by rw [ha1];rfl
  rw [Hw,hstep] at hR;have hul2:=hg.un;clear hstep;generalize g.Up.getD i []=u at *
  simp only [go_sem];refine aK (λh=>?_) (λh=>?_)
  ·have hs:=O8 a i true;have hai:a1=a.set i true:=by rw [ha1,if_pos h]
   simp only [go_sem,aL,ha,hil,g0,hs,←hai,hl1,g1];cases hb:a1.getD i false
   ·grind
   ·rw [hb,if_pos rfl] at hR;simp only [go_sem];refine aJ u.length (λj=>⟨0,[(1,Ow up),(2,.ptr 0 0),(5,.own 1),(6,iv i),(7,iv j)],[some (.box g.A),some (.arr 1 (Wx ((u.take j).foldl (λb k=>b.set k true) a1)))]⟩) (λ_=>True) ?_ trivial ?_ ?_
    ·simp only [go_sem,rY,JW]
    ·intro j hj _;have hk:=huk u[j] (iN hj);have gj:(u.map λn:Nat=>[iv (n:Int)])[j]?=some [iv (u[j]:Nat)]:=aI _ u j hj;have hl2:((u.take j).foldl (λb k=>b.set k true) a1).length=g.L.length:=by rw [uB,hl1]
     rw [GZ u a1 j hj,←O8];generalize (u.take j).foldl (λb k=>b.set k true) a1=c at *
     generalize u[j]=q at *
     have g2:(Wx c)[q]?=some [AV.v (.bool (c.getD q false))]:=by grind
     simp only [go_sem,aL,hU,bG hj,gj,hl2,hk,g2,aF (show j<9223372036854775807 by omega)]
    ·intro _;rw [lP];simp only [go_sem,aL,hU,aX (cN _),w2];grind [uB]
  ·have hai:a1=a:=by simp_all
   rw [←hai] at ha g0 ⊢;simp only [go_sem,aL,hl1,hil,g1];cases hb:a1.getD i false
   ·rw [hb] at hR;simp only [kB,if_false] at hR;simp only [go_sem,w2];grind
   ·rw [hb,if_pos rfl] at hR;simp only [go_sem];refine aJ u.length (λj=>⟨0,[(1,Ow up),(2,.ptr 0 0),(5,.own 1),(6,iv i),(7,iv j)],[some (.box g.A),some (.arr 1 (Wx ((u.take j).foldl (λb k=>b.set k true) a1)))]⟩) (λ_=>True) ?_ trivial ?_ ?_
    ·simp only [go_sem,rY,JW]
    ·intro j hj _;have hk:=huk u[j] (iN hj);have gj:(u.map λn:Nat=>[iv (n:Int)])[j]?=some [iv (u[j]:Nat)]:=aI _ u j hj;have hl2:((u.take j).foldl (λb k=>b.set k true) a1).length=g.L.length:=by rw [uB,hl1]
     rw [GZ u a1 j hj,←O8];generalize (u.take j).foldl (λb k=>b.set k true) a1=c at *
     generalize u[j]=q at *
     have g2:(Wx c)[q]?=some [AV.v (.bool (c.getD q false))]:=by simp_all
     simp only [go_sem,aL,hU,bG hj,gj,hl2,hk,g2,aF (show j<9223372036854775807 by omega)]
    ·intro _;rw [lP];simp only [go_sem,aL,hU,aX (cN _),w2];grind [uB]
end
end
section
section
variable {G:Nat→Option (List AV)}
set_option maxHeartbeats 4000000
def U6 {α:Type} (p:α→Bool) (l:List α) (i:Nat) (h:i<l.length):(l.take (i+1)).any p=((l.take i).any p||p l[i]):=by
 rw [oV h,List.any_append];simp
def U7 (g:GM) (o:OpM) (inn:List Bool) (hg:g.ok) (ho:o.ok) (hs:1≤o.Seq) (hi:inn.length=g.L.length):aC PQ G Cn [.ag g.A,.ag o.A,Qt inn] [] λr T=>r=.v (.bool (DJ g.L o inn))∧T=[]:=by
 refine aD KR (by decide) ?_;have hn:=hg.n;have hseq:=ho.ints o.Seq (by simp);have w1:IntKind.i64.wrap (o.Seq-1)=o.Seq-1:=bF (by have:=hseq.1;omega) (by have:=hseq.2;omega);obtain ⟨z,hz⟩:∃ z,z=g.L.zip inn:=⟨_,rfl⟩
 have hzl:z.length=g.L.length:=by rw [hz];simp [hi]
 have hR:DJ g.L o inn=(z.all (λe=>!(GQ o e)||decide (e.1.Seq<o.Seq))&&((o.Seq==1)||z.any λe=>GQ o e&&e.1.Seq==o.Seq-1)):=by rw [hz];rfl
 simp only [go_sem];refine aJ g.L.length (λi=>⟨0,[(2,Qt inn),(3,.ptr 0 0),(4,.ptr 1 0),(7,.v (.bool ((z.take i).any λe=>GQ o e&&e.1.Seq==o.Seq-1))),(8,iv i)],[some (.box g.A),some (.box o.A)]⟩) (λi=>∀ j (hj:j<z.length),j<i→(!(GQ o z[j])||decide (z[j].1.Seq<o.Seq))=true) ?_ (by intro j hj h;omega) ?_ ?_
 ·simp only [go_sem,rY,List.any_nil]
 ·intro i hil hJ;have hiz:i<z.length:=by omega
  have g0:(g.L.map OpM.A)[i]?=some g.L[i].A:=aI _ g.L i hil;have g1:(inn.map λb=>[AV.v (.bool b)])[i]?=some [AV.v (.bool inn[i])]:=aI _ inn i (by omega);have hzi:z[i]=(g.L[i],inn[i]):=by subst hz;simp
  have ws:=aF (show i<9223372036854775807 by omega);have hii:i<inn.length:=by omega
  rw [U6 _ z i hiz];have hlow:=hJ;have hsuc:(!(GQ o z[i])||decide (z[i].1.Seq<o.Seq))=true→∀ j (hj:j<z.length),j<i+1→(!(GQ o z[j])||decide (z[j].1.Seq<o.Seq))=true:=λh j hj hji=>by
   grind
  have hbad:(!(GQ o z[i])||decide (z[i].1.Seq<o.Seq))=false→DJ g.L o inn=false:=λh=>by
   grind
  rw [hzi] at hsuc hbad ⊢;have hrel:GQ o (g.L[i],inn[i])=(inn[i]&&g.L[i].By==o.By):=rfl;rw [hrel] at hsuc hbad ⊢;clear hJ hlow hzi hrel;generalize ((z.take i).any λe=>GQ o e&&e.1.Seq==o.Seq-1)=one;generalize inn[i]=b at *
  generalize g.L[i]=x at *
  have hne:(x.By !=o.By)=!(x.By==o.By):=rfl;simp only [go_sem,aL,bG hil,g1];cases b
  ·simp only [go_sem,undef,ws,kC,Mp];exact hsuc rfl
  simp only [go_sem,g0,hne];cases hby:(x.By==o.By)
  ·simp only [go_sem,ws,kN,kC,Mp];simp_all
  rw [hby] at hsuc hbad;simp only [go_sem,g0,ge_iff_le];have hd:decide (o.Seq≤x.Seq)=!decide (x.Seq<o.Seq):=by grind
  rw [hd];cases hlt:decide (x.Seq<o.Seq)
  ·rw [hlt] at hbad;simp only [go_sem,hbad rfl]
  rw [hlt] at hsuc;simp only [go_sem];cases one
  ·simp only [go_sem,ws,g0,w1,kN,FY];exact hsuc rfl
  ·simp only [go_sem,undef,ws,kN,FW];exact hsuc rfl
 intro hJ;have hall:=yL (p:=λe=>!(GQ o e)||decide (e.1.Seq<o.Seq)) λj hj _=>hJ j hj (by omega);rw [←hzl,lP];rw [hR,hall,kN];simp only [go_sem,aL,hzl,aX (cN _)];cases h1:(o.Seq==1)
 ·simp only [go_sem,FY]
 ·simp only [go_sem,undef,FW]
def qR (I:List Id) (x:Id):aM I x<I.length∧-1≤aM I x:=by
 unfold aM zV
 cases h:I.findIdx? (λy=>decide (y=x)) with
 | none=>simp;omega
 | some i =>
  obtain ⟨h1,_⟩:=aAq.1 h;simp;omega
def AB (g:GM) (o:OpM) (up:List Nat):Int×List Nat:=if HQ g o up=false then (6,[]) else if DJ g.L o (lE g up)=false then (11,[]) else (0,up)
def xF (g:GM) (o:OpM):Int×List Nat:=match MO g.I o.Past with
 | none=>(10,[])
 | some up=>AB g o up
def Bl (g:GM) (o:OpM):Int×List Nat :=
 if 0≤aM g.I (Ao o) then (5,[])
 else if 200≤g.L.length then (3,[])
 else if (eK g.Cards o.By).2=false then (17,[])
 else if xT (eK g.Cards o.By).1.Sign o.B o.SR o.SS=false then (12,[])
 else if (o.Kind==1&&decide (0<g.L.length))=true then (1,[])
 else xF g o
def cX (g:GM) (o:OpM):Int×List Nat:=if fS o≠0 then (fS o,[]) else Bl g o
def Bm {o:OpM} (h:fS o=0):1≤o.Seq∧1≤o.By∧o.By≤12∧0≤o.At:=by
 unfold fS at h;grind [dU,lD]
def RC {cs:List CardM} {d:Int} (h:∀ c∈cs,c.ok):(eK cs d).1.Sign<18446744073709551616:=by
 unfold eK;split
 ·rename_i c e;exact (h c (Pb e)).2.2.2.2
 ·decide
def ZP (g:GM) (o:OpM) (hg:g.ok) (ho:o.ok):aC PQ G xZ [.ag g.A,.ag o.A] [] λr T=>r=.tup [iv (cX g o).1,.own 0]∧T=[some (.arr 1 ((cX g o).2.map λn:Nat=>[iv (n:Int)]))]:=by
 refine aD KO (by decide) ?_;have hn:=hg.n;have hpl:=ho.past.1;simp only [go_sem];refine aB (aA _) rfl (aAV o ho) rfl ?_;simp only [go_sem];refine aK (λh=>?_) (λh=>?_)
 ·simp only [bne_iff_ne,ne_eq] at h;simp only [go_sem,cX,h]
 simp only [bne_eq_false_iff_eq] at h;have k1:=h;have hW:cX g o=Bl g o:=by grind [cX]
 unfold Bl at hW;clear h;simp only [go_sem];refine aB (aA _) rfl (Q9 o ho) rfl ?_;simp only [go_sem];refine aB (aA _) rfl (vY g (Ao o) hg) rfl ?_;simp only [go_sem,ge_iff_le];refine aK (λh=>?_) (λh=>?_)<;>simp only [decide_eq_true_eq,decide_eq_false_iff_not] at h
 ·rw [hW,if_pos h];simp only [go_sem]
 rw [if_neg h] at hW;clear h;have d200:decide ((200:Int)≤(g.L.length:Int))=decide (200≤g.L.length):=by simp_all;omega
 simp only [go_sem,aL,ge_iff_le,d200];refine aK (λh=>?_) (λh=>?_)<;>simp only [decide_eq_true_eq,decide_eq_false_iff_not] at h
 ·rw [hW,if_pos h];simp only [go_sem]
 rw [if_neg h] at hW;clear h;simp only [go_sem];refine aB (aA _) rfl (RB g o.By hg) rfl ?_;simp only [go_sem,CardM.A_def];cases hc:(eK g.Cards o.By).2
 ·rw [hW,if_pos hc];simp only [go_sem]
 rw [if_neg (by simp [hc])] at hW;have hcs:=RC (d:=o.By) hg.cs;generalize (eK g.Cards o.By).1=c at *
 simp only [go_sem];refine aQ (aA _) rfl (HS o ho) ?_;simp only [go_sem];refine cD (aA _) rfl rfl (RA c.Sign o.B o.SR o.SS hcs (ho.nums o.SR (by simp)) (ho.nums o.SS (by simp)) (o.B_ok ho) (by have:=o.B_len ho;omega)) ?_;rintro r T' ⟨rfl,rfl⟩;refine ⟨by simp only [fF],by simp,?_⟩;simp only [go_sem];cases hsg:xT c.Sign o.B o.SR o.SS
 ·rw [hW,if_pos hsg];simp only [go_sem]
 rw [if_neg (by simp [hsg])] at hW;simp only [go_sem];have hpos:decide ((g.L.length:Int)>0)=decide (0<g.L.length):=by simp
 cases hK:(o.Kind==1);rotate_left
 ·simp only [go_sem,aL,hpos];cases h2:decide (0<g.L.length);rotate_left
  ·rw [hK,h2,if_pos (by simp)] at hW;rw [hW];simp only [go_sem]
  rw [hK,h2,if_neg (by simp)] at hW;clear hpos;have hpI:∀ x:Id,(aM g.I x).toNat<g.L.length∨aM g.I x<0:=λx=>by have:=qR g.I x;have:=hg.i;omega
  simp only [go_sem];refine aJ o.Past.length (λi=>⟨0,[(2,.ptr 0 0),(3,.ptr 1 0),(10,.own 2),(11,iv i)],[some (.box g.A),some (.box o.A),some (.arr 1 (((o.Past.take i).map λx=>(aM g.I x).toNat).map λn:Nat=>[iv (n:Int)]))]⟩) (λi=>∀ j (hj:j<o.Past.length),j<i→decide (0≤aM g.I o.Past[j])=true) ?_ (by intro j hj h;omega) ?_ ?_
  ·simp only [go_sem,rY]
  ·intro i hi hJ;have g0:(o.Past.map Id.A)[i]?=some o.Past[i].A:=aI _ o.Past i hi;have ws:=aF (show i<9223372036854775807 by omega);rw [oV hi,jA,jA];have ltk:((o.Past.take i).map λx=>(aM g.I x).toNat).length=i:=by simp_all;omega
   simp only [go_sem,aL,bG hi,g0];refine aB (aA _) rfl (vY g o.Past[i] hg) rfl ?_;simp only [go_sem];refine aK (λh3=>?_) (λh3=>?_)<;>simp only [decide_eq_true_eq,decide_eq_false_iff_not] at h3
   ·have hf:(o.Past.all λx=>decide (0≤aM g.I x))=false:=B3 (p:=λx=>decide (0≤aM g.I x)) hi (decide_eq_false (by omega));rw [hW];simp only [go_sem,xF,MO,hf]
   ·simp_all
  intro hJ;have hall:=yL (p:=λx=>decide (0≤aM g.I x)) hJ;rw [lP];have hW3:cX g o=AB g o (o.Past.map λx=>(aM g.I x).toNat):=by grind [xF,MO]
  have hub:∀ k∈o.Past.map (λx=>(aM g.I x).toNat),k<g.L.length:=λk hk=>by
   grind
  have hul:(o.Past.map λx=>(aM g.I x).toNat).length≤1000:=by simp_all
  generalize hupg:(o.Past.map λx=>(aM g.I x).toNat)=up at *
  clear hW hall hJ hpI;rw [←hupg] at hul;rw [aL] at hul;have hupl:up.length=o.Past.length:=by grind
  simp only [go_sem,aL,aX (cN _)];refine aJ up.length (λi=>⟨0,[(2,.ptr 0 0),(3,.ptr 1 0),(10,.own 2),(13,iv i)],[some (.box g.A),some (.box o.A),some (.arr 1 (up.map λn:Nat=>[iv (n:Int)]))]⟩) (λi=>∀ j (hj:j<up.length),j<i→((up.all λk=>!((g.In.getD up[j] []).getD k false))&&!decide (o.At<(g.L.getD up[j] default).At))=true) ?_ (by intro j hj h;omega) ?_ ?_
  ·simp only [go_sem]
  ·grind
  intro hJ;have hord:HQ g o up=true:=yL (p:=λi=>(up.all λk=>!((g.In.getD i []).getD k false))&&!decide (o.At<(g.L.getD i default).At)) hJ;rw [AB,if_neg (by simp [hord])] at hW3;simp only [go_sem,aL,aX (cN _)];refine cD (aA _) rfl rfl (TB g up hg (by omega)) ?_;rintro r T' ⟨rfl,rfl⟩;refine ⟨by simp only [fF],by simp only [iU,uX,forall_eq,Wx,cZ];rintro e ⟨b,_,rfl⟩ c hc;exact ⟨_,iU.1 hc⟩,?_⟩;simp only [go_sem];refine cD (aA _) rfl rfl (U7 g o (lE g up) hg ho (Bm k1).1 (Ag g up)) ?_;rintro r T' ⟨rfl,rfl⟩;refine ⟨by simp only [fF],by simp,?_⟩;simp only [go_sem];cases hr:DJ g.L o (lE g up)
  ·rw [if_pos hr] at hW3;rw [hW3];simp only [go_sem]
  ·rw [if_neg (by simp [hr])] at hW3;rw [hW3];simp only [go_sem]
 ·rw [hK,kC,if_neg (by simp)] at hW;clear hpos;have hpI:∀ x:Id,(aM g.I x).toNat<g.L.length∨aM g.I x<0:=λx=>by have:=qR g.I x;have:=hg.i;omega
  simp only [go_sem,undef];refine aJ o.Past.length (λi=>⟨0,[(2,.ptr 0 0),(3,.ptr 1 0),(10,.own 2),(11,iv i)],[some (.box g.A),some (.box o.A),some (.arr 1 (((o.Past.take i).map λx=>(aM g.I x).toNat).map λn:Nat=>[iv (n:Int)]))]⟩) (λi=>∀ j (hj:j<o.Past.length),j<i→decide (0≤aM g.I o.Past[j])=true) ?_ (by intro j hj h;omega) ?_ ?_
  ·simp only [go_sem,rY]
  ·intro i hi hJ;have g0:(o.Past.map Id.A)[i]?=some o.Past[i].A:=aI _ o.Past i hi;have ws:=aF (show i<9223372036854775807 by omega);rw [oV hi,jA,jA];have ltk:((o.Past.take i).map λx=>(aM g.I x).toNat).length=i:=by simp_all;omega
   simp only [go_sem,aL,bG hi,g0];refine aB (aA _) rfl (vY g o.Past[i] hg) rfl ?_;simp only [go_sem];refine aK (λh3=>?_) (λh3=>?_)<;>simp only [decide_eq_true_eq,decide_eq_false_iff_not] at h3
   ·have hf:(o.Past.all λx=>decide (0≤aM g.I x))=false:=B3 (p:=λx=>decide (0≤aM g.I x)) hi (decide_eq_false (by omega));rw [hW];simp only [go_sem,xF,MO,hf]
   ·have e1:AV.v (.int .i64 (aM g.I o.Past[i]))=iv (((aM g.I o.Past[i]).toNat:Nat):Int):=by simp_all;omega
    have hsuc:=rO (p:=λx=>decide (0≤aM g.I x)) hi hJ (decide_eq_true (by omega));have hmin:min i o.Past.length=i:=Mn (Pq hi);simp only [go_sem,aL,kM,hmin,ws,e1,show i+1≤maxLen by unfold maxLen;omega,show (i+1)*8≤140737488355328 by omega];exact hsuc
  intro hJ;have hall:=yL (p:=λx=>decide (0≤aM g.I x)) hJ;rw [lP];have hW3:cX g o=AB g o (o.Past.map λx=>(aM g.I x).toNat):=by grind [xF,MO]
  have hub:∀ k∈o.Past.map (λx=>(aM g.I x).toNat),k<g.L.length:=λk hk=>by
   grind
  have hul:(o.Past.map λx=>(aM g.I x).toNat).length≤1000:=by simp_all
  generalize hupg:(o.Past.map λx=>(aM g.I x).toNat)=up at *
  clear hW hall hJ hpI;rw [←hupg] at hul;rw [aL] at hul;have hupl:up.length=o.Past.length:=by grind
  simp only [go_sem,aL,aX (cN _)];refine aJ up.length (λi=>⟨0,[(2,.ptr 0 0),(3,.ptr 1 0),(10,.own 2),(13,iv i)],[some (.box g.A),some (.box o.A),some (.arr 1 (up.map λn:Nat=>[iv (n:Int)]))]⟩) (λi=>∀ j (hj:j<up.length),j<i→((up.all λk=>!((g.In.getD up[j] []).getD k false))&&!decide (o.At<(g.L.getD up[j] default).At))=true) ?_ (by intro j hj h;omega) ?_ ?_
  ·simp only [go_sem]
  ·intro i hi hJ;have hui:=hub _ (iN hi);have gi:(up.map λn:Nat=>[iv (n:Int)])[i]?=some [iv (up[i]:Nat)]:=aI _ up i hi;have hin:=hg.inn;have hrow:(g.In.map λl=>[Qt l])[up[i]]?=some [Qt (g.In.getD up[i] [])]:=by simp_all
   have hrl:(g.In.getD up[i] []).length=g.L.length:=by
    rw [uW,nQ (by omega)];exact hg.ins _ (iN _)
   have bO:(g.L.map OpM.A)[up[i]]?=some (g.L.getD up[i] default).A:=by simp_all
   have hsuc:=λh=>rO (p:=λi=>(up.all λk=>!((g.In.getD i []).getD k false))&&!decide (o.At<(g.L.getD i default).At)) hi hJ h;have hbad:=λh=>B3 (p:=λi=>(up.all λk=>!((g.In.getD i []).getD k false))&&!decide (o.At<(g.L.getD i default).At)) hi h;have hbad2:((up.all λk=>!((g.In.getD up[i] []).getD k false))&&!decide (o.At<(g.L.getD up[i] default).At))=false→cX g o=(6,[]):=λh=>by
    rw [hW3,AB,if_pos (show HQ g o up=false from hbad h)]
   clear hbad hJ;generalize up[i]=q at *
   generalize g.In.getD q []=row at *
   generalize g.L.getD q default=oq at *
   simp only [go_sem,aL,bG hi];refine aJ up.length (λk=>⟨0,[(2,.ptr 0 0),(3,.ptr 1 0),(10,.own 2),(13,iv i),(14,iv k)],[some (.box g.A),some (.box o.A),some (.arr 1 (up.map λn:Nat=>[iv (n:Int)]))]⟩) (λk=>∀ j (hj:j<up.length),j<k→(λk=>!(row.getD k false)) up[j]=true) ?_ (by intro j hj h;omega) ?_ ?_
   ·simp only [go_sem]
   ·intro k hk hJ2;have huk:=hub _ (iN hk);have gk:(up.map λn:Nat=>[iv (n:Int)])[k]?=some [iv (up[k]:Nat)]:=aI _ up k hk;have gr:(row.map λb=>[AV.v (.bool b)])[up[k]]?=some [AV.v (.bool (row.getD up[k] false))]:=by simp_all
    have hsuc2:=λh=>rO (p:=λk=>!(row.getD k false)) hk hJ2 h;have hbad3:=λh=>B3 (p:=λk=>!(row.getD k false)) hk h;generalize up[k]=p at *
    simp only [go_sem,aL,bG hk,hk,hi,gi,gk,hrow,gr];cases hb:row.getD p false
    ·rw [hb] at hsuc2;simp only [go_sem,aF (show k<9223372036854775807 by omega)];exact hsuc2 rfl
    ·rw [hb] at hbad3;rw [hbad3 rfl] at hbad2;simp only [go_sem,hbad2 rfl]
   intro hJ2;have hall2:=yL (p:=λk=>!(row.getD k false)) hJ2;rw [hall2] at hsuc hbad2;simp only [go_sem,aL,aX (cN _),hi,gi,bO];cases hlt:decide (o.At<oq.At)
   ·rw [hlt] at hsuc;simp only [go_sem,aF (show i<9223372036854775807 by omega)];exact hsuc rfl
   ·rw [hlt] at hbad2;simp only [go_sem,hbad2 rfl]
  intro hJ;have hord:HQ g o up=true:=yL (p:=λi=>(up.all λk=>!((g.In.getD i []).getD k false))&&!decide (o.At<(g.L.getD i default).At)) hJ;rw [AB,if_neg (by simp [hord])] at hW3;simp only [go_sem,aL,aX (cN _)];refine cD (aA _) rfl rfl (TB g up hg (by omega)) ?_;rintro r T' ⟨rfl,rfl⟩;refine ⟨by simp only [fF],by simp only [iU,uX,forall_eq,Wx,cZ];rintro e ⟨b,_,rfl⟩ c hc;exact ⟨_,iU.1 hc⟩,?_⟩;simp only [go_sem];refine cD (aA _) rfl rfl (U7 g o (lE g up) hg ho (Bm k1).1 (Ag g up)) ?_;rintro r T' ⟨rfl,rfl⟩;refine ⟨by simp only [fF],by simp,?_⟩;simp only [go_sem];cases hr:DJ g.L o (lE g up)
  ·rw [if_pos hr] at hW3;rw [hW3];simp only [go_sem]
  ·rw [if_neg (by simp [hr])] at hW3;rw [hW3];simp only [go_sem]
end
end
end Hud
