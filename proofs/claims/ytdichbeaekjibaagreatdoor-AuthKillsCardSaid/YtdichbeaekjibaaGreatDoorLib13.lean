import Derived.Test.YtdichbeaekjibaaGreatDoorLib12
set_option linter.all false
namespace Hud
open Go
section
abbrev fl (l:List Fq):List (List AV):=l.map λc=>[.v (fu c)]
def aDg (l:List Fq) (i:Nat) (h:i<l.length):(fl l)[i]?=some [.v (fu l[i])]:=by simp [fl,h]
section
variable {G:Nat→Option (List AV)}
end
end
section
def tB:List Nat→Nat
 | []=>0
 | x::r=>x+256*tB r
def sP:Nat→List Nat→List Nat
 | 0,_=>[]
 | _+1,[]=>[]
 | n+1,x::b=>tB ((x::b).take 7)::sP n ((x::b).drop 7)
def dC (b:List Nat):List Nat:=sP b.length b
def K9:∀ {b:List Nat},tI b→tB b<256^b.length
 | [],_=>by simp [tB]
 | x::r,h=>by
  have h1:=K9 (b:=r) λy hy=>h y (H8 _ hy);have h2:=h x Gk;grind [tB,List.length_cons,Nat.pow_succ]
def NX {b:List Nat} (h:tI b) (hl:b.length≤7):tB b<72057594037927936 :=
 AH (K9 h) (B7 (Nz (by decide) hl) (by decide))
def Hx:∀ (n m:Nat) (b:List Nat),b.length≤n→b.length≤m→sP n b=sP m b
 | 0,m,b,h,_=>by
  have:b=[]:=H7 (by omega);subst this;cases m<;>rfl
 | n+1,m,[],_,_=>by cases m<;>rfl
 | n+1,0,x::b,_,h=>by simp at h
 | n+1,m+1,x::b,h1,h2=>by
  simp only [sP];rw [Hx n m ((x::b).drop 7) (by simp at h1 ⊢;omega) (by simp at h2 ⊢;omega)]
def S4:dC []=[]:=rfl
def DL {b:List Nat} (h:b≠[]):dC b=tB (b.take 7)::dC (b.drop 7):=by
 cases b with
 | nil=>exact absurd rfl h
 | cons x b =>
  unfold dC;simp only [wJ,sP];rw [Hx _ ((x::b).drop 7).length _ (by simp) (cT _)]
def S5 {b:List Nat} (h:b≠[]) (hl:b.length≤7):dC b=[tB b]:=by
 rw [DL h,xR hl,Ln hl,S4]
def FJ (b:List Nat):(dC b).length≤b.length:=by
 have:∀ (n:Nat) (b:List Nat),(sP n b).length≤n:=by
  intro n
  induction n with
  | zero=>intro b;simp [sP]
  | succ n ih=>intro b;cases b<;>simp [sP,ih]
 exact this _ _
def HR {b:List Nat} (h:tI b):∀ w∈dC b,w<72057594037927936:=by
 have:∀ (n:Nat) (b:List Nat),tI b→∀ w∈sP n b,w<72057594037927936:=by
  intro n
  induction n with
  | zero=>intro b _ w hw;simp [sP] at hw
  | succ n ih =>
   intro b hb w hw
   cases b with
   | nil=>simp [sP] at hw
   | cons x b =>
    simp only [sP,jB] at hw;rcases hw with rfl | hw
    ·exact NX (rC hb 7) (by rw [kM];omega)
    ·exact ih _ (F1 hb 7) w hw
 exact this _ _ h
def Y7 {c:List Nat} {j:Nat} (h:j<c.length):tB (c.drop j)=c[j]+256*tB (c.drop (j+1)):=by
 rw [VX h];rfl
def Ae {w:Nat} (h:w<PP):(Value.int .u64 ((w:Nat):Int))=fu (Fin.ofNat PP w):=by rw [fu,NW w h]
section
variable {G:Nat→Option (List AV)}
set_option maxHeartbeats 4000000
def Qx (b:List Nat) (hb:tI b) (hl:b.length≤100000000):aC PQ G yD [.ls 1 (bl b)] [] λr T'=>r=.own 0∧T'=[some (.arr 1 (ul (dC b)))]:=by
 refine aD Kr (by decide) ?_;simp only [go_sem];refine jE (λn s=>∃ (i:Nat) (A:List Nat),n=b.length+7-i∧i≤b.length+6∧A.length≤i∧A++dC (b.drop i)=dC b∧s=⟨0,[(0,.ls 1 (bl b)),(3,.own 0),(4,.v (.int .i64 (i:Int)))],[some (.arr 1 (ul A))]⟩) (b.length+7) ⟨0,[],by omega,by omega,cT _,by simp,?_⟩ ?_
 ·simp only [go_sem]
 rintro n s ⟨i,A,rfl,hi,hA,hw,rfl⟩;by_cases hlt:i<b.length
 ·obtain ⟨e,he1,he2,he3,he4⟩:∃ e:Nat,i<e∧e≤b.length∧e≤i+7∧e=min b.length (i+7):=⟨min b.length (i+7),by omega,by omega,by omega,rfl⟩
  have w1:IntKind.i64.wrap ((i:Int)+7)=((i+7:Nat):Int):=by rw [bF (by omega) (by omega)];omega
  have w2:(if ((i+7:Nat):Int)<(b.length:Int) then ((i+7:Nat):Int) else (b.length:Int))=(e:Int):=by split<;>omega
  have w3:IntKind.i64.wrap ((e:Int)-1)=(e:Int)-1:=bF (by omega) (by omega);have hc:((b.drop i).take (e-i)).length=e-i:=by simp;omega
  have okc:tI ((b.drop i).take (e-i)):=rC (F1 hb i) _;have hcw:tB ((b.drop i).take 7)=tB ((b.drop i).take (e-i)):=by
   grind
  have hget:∀ j (h:j<((b.drop i).take (e-i)).length),(bl b)[i+j]?=some [.v (.int .u8 ((((b.drop i).take (e-i))[j]:Nat):Int))]:=λj h=>by
   grind
  generalize (b.drop i).take (e-i)=c at hc okc hcw hget;have hstep:=DL (b:=b.drop i) (λh=>by have:=congrArg List.length h;simp at this;omega);rw [hcw,Hi] at hstep;rw [hstep] at hw;simp only [go_sem,aL,bG hlt,w1,w2,w3];refine wD (λs=>s=⟨0,[(0,.ls 1 (bl b)),(3,.own 0),(4,.v (.int .i64 (i:Int))),(5,.v (.int .u64 ((tB c:Nat):Int)))],[some (.arr 1 (ul A))]⟩) ?_ ?_
  ·refine jE (λn s=>∃ j:Nat,n=j∧j≤e-i∧s=⟨0,[(0,.ls 1 (bl b)),(3,.own 0),(4,.v (.int .i64 (i:Int))),(5,.v (.int .u64 ((tB (c.drop j):Nat):Int))),(6,.v (.int .i64 (((i+j:Nat):Int)-1)))],[some (.arr 1 (ul A))]⟩) (e-i) ⟨e-i,rfl,cT _,?_⟩ ?_
   ·have h0:tB (c.drop (e-i))=0:=by rw [Ln (by omega)];rfl
    simp only [go_sem,h0,show i+(e-i)=e by omega]
   rintro n s ⟨j,rfl,hj,rfl⟩
   cases n with
   | zero =>
    have hg:decide ((i:Int)≤(i:Int)-1)=false:=decide_eq_false (by omega);simp only [go_sem,ge_iff_le,hg]
   | succ j =>
    have hjc:j<c.length:=by omega
    have e1:((i+(j+1):Nat):Int)-1=((i+j:Nat):Int):=by omega
    have hg:decide ((i:Int)≤((i+j:Nat):Int))=true:=decide_eq_true (by omega);have hW:=K9 (F1 okc (j+1));have hW2:tB (c.drop (j+1))<281474976710656:=AH hW (B7 (Nz (by decide) (show (c.drop (j+1)).length≤6 by simp;omega)) (by decide));have hx:=okc c[j] (iN hjc);have hd:=Y7 hjc;have g0:=hget j hjc;have e2:IntKind.i64.wrap (((i+j:Nat):Int)-1)=((i+j:Nat):Int)-1:=bF (by omega) (by omega);generalize c[j]=x at hx hd g0;generalize tB (c.drop (j+1))=W at hW2 hd;have m1:bM .mul (.int .u64 (W:Int)) (.int .u64 256)=some (.int .u64 ((W*256:Nat):Int)):=iW W 256 (by omega);have a1:bM .add (.int .u64 ((W*256:Nat):Int)) (.int .u64 (x:Int))=some (.int .u64 ((W*256+x:Nat):Int)):=dG _ _ (by omega);have v1:IntKind.u64.wrap (x:Int)=(x:Int):=bT x (by omega);have hd2:W*256+x=tB (c.drop j):=by omega
    simp only [e1];simp only [go_sem,ge_iff_le,hg,g0,v1,↓m1,↓a1,e2];exact ⟨j,by omega,j,rfl,by omega,by rw [hd2]⟩
  rintro s rfl;have b1:(A.length+1)*8≤140737488355328:=by omega
  have b2:A.length+1≤maxLen:=by unfold maxLen;omega
  simp only [go_sem,aL,b1,b2,w1];exact ⟨b.length+7-(i+7),by omega,i+7,A++[tB c],by omega,by omega,by simp;omega,by rw [jI];exact hw,by simp only [ul,jA,fE,mE]⟩
 ·simp only [go_sem,aL,aX hlt];have:dC (b.drop i)=[]:=by rw [Ln (by omega)];rfl
  simp_all
theorem Do (w:Fq):∀ (l:List Fq) (s:Fq) (k:Nat),Bf s k (l++[w])=vT (Bf s k l) w (k+l.length+1)
 | [],s,k=>rfl
 | x::l,s,k=>by
  rw [fX,Bf,Bf,Do w l];congr 1;simp;omega
def Qy (lab ns:List Nat):List Fq:=(dC lab++ns.length::ns++[0]).map (Fin.ofNat PP)
def DM (lab ns:List Nat):Fq:=Bf (Fin.ofNat PP lab.length) 0 (Qy lab ns)
def Y8 {l:List Nat} (h:∀ w∈l,w<PP):ul l=fl (l.map (Fin.ofNat PP)):=by
 simp only [ul,fl,D1];refine N0 λw hw=>?_;simp only [Function.comp,Ae (h w hw)]
def Y9 (S:ByteArray) (lab ns:List Nat) (hS:jC S=bl lab) (hs:S.size=lab.length) (hb:tI lab) (hl:lab.length≤1000) (hn:∀ n∈ns,n<18446744073709551616) (hnl:ns.length≤10000000):aC PQ G Cq [.v (.string S),.ls 1 (ul ns)] [] λr T'=>r=.v (fu (DM lab ns))∧T'=[]:=by
 refine aD QY (by decide) ?_;have hw:=HR hb;have hwl:=FJ lab;have hm:lab.length≤maxLen:=by unfold maxLen;omega
 have z1:IntKind.u64.wrap (ns.length:Int)=(ns.length:Int):=bT _ (by omega);have z2:IntKind.u64.wrap (lab.length:Int)=(lab.length:Int):=bT _ (by omega);simp only [go_sem,hS,hs,hm];refine aQ (aA _) rfl (Qx lab hb (by omega)) ?_;have b1:((dC lab).length+1)*8≤140737488355328:=by omega
 have b2:(dC lab).length+1≤maxLen:=by unfold maxLen;omega
 simp only [go_sem,aL,b1,b2,z1];have e1:ul (dC lab)++[[AV.v (.int .u64 (ns.length:Int))]]=fl ((dC lab++[ns.length]).map (Fin.ofNat PP)):=by
  rw [←Y8 (l:=dC lab++[ns.length])]
  ·simp
  ·intro w h;rcases eM.1 h with h | h
   ·exact Mr (hw w h) (by decide)
   ·rw [iU.1 h];show _<2305843009213693951;omega
 rw [e1];have hW:((dC lab++[ns.length]).map (Fin.ofNat PP):List Fq).length≤1001:=by simp;omega
 have hfin:Qy lab ns=(dC lab++[ns.length]).map (Fin.ofNat PP)++(ns.map (Fin.ofNat PP)++[0]):=by
  unfold Qy;simp
 unfold DM;rw [hfin];generalize (dC lab++[ns.length]).map (Fin.ofNat PP)=W at hW;refine aJ ns.length (λi=>⟨0,[(0,.v (.string S)),(1,.ls 1 (ul ns)),(5,.own 0),(6,.v (.int .i64 (i:Int)))],[some (.arr 1 (fl (W++(ns.take i).map (Fin.ofNat PP))))]⟩) (λ_=>True) ?_ trivial ?_ ?_
 ·simp only [go_sem]
 ·intro i hi _;have g0:(ul ns)[i]?=some [.v (.int .u64 ((ns[i]:Nat):Int))]:=by simp_all
  have wn:(Value.int .u64 ((ns[i]%2305843009213693951:Nat):Int))=fu (Fin.ofNat PP ns[i]):=rfl;have b1:(W.length+min i ns.length+1)*8≤140737488355328:=by omega
  have b2:W.length+min i ns.length+1≤maxLen:=by unfold maxLen;omega
  have hs:fl (W++(ns.take i).map (Fin.ofNat PP))++[[.v (fu (Fin.ofNat PP ns[i]))]]=fl (W++(ns.take (i+1)).map (Fin.ofNat PP)):=by
   rw [oV hi];simp only [fl,jA,fE,mE,jI]
  have hlen:(fl (W++(ns.take i).map (Fin.ofNat PP))).length=W.length+min i ns.length:=by simp [fl]
  generalize fl (W++(ns.take i).map (Fin.ofNat PP))=X at hs hlen;simp only [go_sem,aL,bG hi,g0,↓Dn,wn,hlen,b1,b2,aF (show i<9223372036854775807 by omega),hs]
 ·intro _;rw [lP];have b1:(W.length+ns.length+1)*8≤140737488355328:=by omega
  have b2:W.length+ns.length+1≤maxLen:=by unfold maxLen;omega
  have hs2:fl (W++ns.map (Fin.ofNat PP))++[[.v (.int .u64 0)]]=fl (W++(ns.map (Fin.ofNat PP)++[0])):=by
   simp
  have hlen:(fl (W++ns.map (Fin.ofNat PP))).length=W.length+ns.length:=by simp [fl]
  have hL:(W++(ns.map (Fin.ofNat PP)++[0])).length=W.length+ns.length+1:=by simp;omega
  generalize W++(ns.map (Fin.ofNat PP)++[0])=L at hs2 hL;generalize fl (W++ns.map (Fin.ofNat PP))=X at hs2 hlen;have s0:(Value.int .u64 ((lab.length:Nat):Int))=fu (Fin.ofNat PP lab.length):=Ae (by show _<2305843009213693951;omega);simp only [go_sem,aL,aX (cN _),hlen,b1,b2,hs2,hs,z2,s0];refine aJ L.length (λi=>⟨0,[(5,.own 0),(7,.v (fu (Bf (Fin.ofNat PP lab.length) 0 (L.take i)))),(8,.v (.int .i64 (i:Int)))],[some (.arr 1 (fl L))]⟩) (λ_=>True) ?_ trivial ?_ ?_
  ·rfl
  ·intro i hi _;have key:vT (Bf (Fin.ofNat PP lab.length) 0 (L.take i)) L[i] (i+1)=Bf (Fin.ofNat PP lab.length) 0 (L.take (i+1)):=by
    rw [oV hi,Do];congr 1;simp;omega
   unfold vT at key;have hg:=aDg L i hi;have ww:=aF (show i<9223372036854775807 by omega);have wu:IntKind.u64.wrap ((i+1:Nat):Int)=((i+1:Nat):Int):=bT _ (by omega);have fi:(Value.int .u64 ((i+1:Nat):Int))=fu (Fin.ofNat PP (i+1)):=Ae (by show _<2305843009213693951;omega);generalize Bf (Fin.ofNat PP lab.length) 0 (L.take i)=x at key;generalize Bf (Fin.ofNat PP lab.length) 0 (L.take (i+1))=z at key;generalize L[i]=y at key hg;simp only [go_sem,aL,bG hi,hg,hi,ww,wu];refine aB (aA _) rfl (Qv 37 x) rfl ?_;simp only [go_sem,aL,hg,hi,ww,wu,fi];refine aB (aA _) rfl (aCc y (Fin.ofNat PP (i+1))) rfl ?_;simp only [go_sem];refine aB (aA _) rfl (aCc (37*x) (y+Fin.ofNat PP (i+1))) rfl ?_;simp only [go_sem];refine aB (aA _) rfl (Qw _ 17 (by decide)) rfl ?_;simp only [go_sem,ww,key]
  ·intro _;rw [lP];simp only [go_sem,aL,aX (cN _)]
end
end
section
open W
def Oy:cF Df []=some ⟨18,[(4,none)],S [R0 4 1 [M F],S [i0 5,fo 0 6 3 (ls v5 (n v0)) [0,5,1] 5 (S [R0 12 5 [eq (l (i 1 v0 v5)) v1],If 17 [5,1,0] (S [E0 [A 4 T],.ret])])],E0 [A 4 F],.ret]⟩:=by kernel_rfl
def IX:cF vO []=some ⟨10,[(4,none)],S [R0 4 1 [M (u 0)],R 5 5 [0,1] [ad (u 1) (rm (c2 Cq v0 v1) (u 2305843009213693949)),J 4 v9],.ret]⟩:=by kernel_rfl
def Oz:cF wF []=some ⟨5,[(2,none)],S [R0 2 1 [M (u 0)],R 3 2 [0] [c2 sK (u 37) v0,J 2 v4],.ret]⟩:=by kernel_rfl
def MQ:cF Ez []=some ⟨29,[(4,some (some 2))],S [E 4 [al zUU],R0 8 5 [A 5 (c2 vO (kc (.const (.string (Hud.bs [110,111,110,99,101])))) (j2 zUU v0 (c1 I7 v1)))],R0 13 2 [A 6 (c2 sK (u 37) v5)],R 15 7 [0,1] [A 7 (c2 Co (c3 I8 v6 (c1 wF v0) v1) v0)],R 22 7 [6,5,7] [s 2 t4 (q2 zUU v6 (rm (ad v5 v7) (c0 iR)))],.ret]⟩:=by kernel_rfl
def S6:cF I7 []=some ⟨5,[(2,none)],S [R0 2 1 [M (u 0)],R 3 2 [0] [c2 yA (kc (.const (.string (Hud.bs [115,105,103,110,101,100])))) v0,J 2 v4],.ret]⟩:=by kernel_rfl
def LA:cF Co []=some ⟨30,[(4,none)],S [R0 4 1 [M (u 0)],R0 6 3 [A 0 (rm v0 (c0 iR))],R0 9 3 [A 1 (rm v1 (c0 iR))],E0 [A 5 (u 0)],lo 0 (S [S [R0 12 1 [gt v1 (u 0)],Ie 13 [] .skip [1,0] (ex 0)],bw 1 (S [S [R0 14 2 [eq (rm v1 (u 2)) (u 1)],If 16 [] (R0 17 5 [A 5 (rm (ad v5 v0) (c0 iR))])],R0 22 5 [A 0 (rm (ad v0 v0) (c0 iR))],R0 27 2 [A 1 (qu v1 (u 2))]])]),R 29 1 [5] [A 4 v5],.ret]⟩:=by kernel_rfl
def S7:cF I8 []=some ⟨13,[(6,none)],S [R0 6 1 [M (u 0)],R 7 6 [0,1,2] [c2 Cq (kc (.const (.string (Hud.bs [115,105,103])))) (j3 zU3 v0 v1 (c1 I7 v2)),J 6 v12],.ret]⟩:=by kernel_rfl
def LB:cF iR []=some ⟨1,[(0,none)],S [R0 0 1 [M (u 0)],E0 [A 0 (u 2305843009213693950)],.ret]⟩:=by kernel_rfl
def LC:cF nE [(2,none,1)]=some ⟨16,[(2,none)],S [R 2 1 [0] [J 1 (b t0),M z],D 4 7 [] [l (f 0 t1),J 7 (l (f 1 t1)),J 6 (K [zl 8 7,zf 7 1 1] (c1 fL t5)),J 9 (a 1 1 t6 (c1 fL t8)),J 3 v10],S [R 11 5 [3,1] [A 2 (a 1 1 v3 (c1 qL (l (f 2 t1))))],ow 2 1],.ret]⟩:=by kernel_rfl
def O0:cF qL [(2,none,1),(3,none,1)]=some ⟨20,[(2,none)],S [R0 2 1 [M z],S [iz 3,ow 3 1],lo 0 (S [S [R0 4 1 [gt v0 (u 127)],Ie 5 [] .skip [] (ex 0)],bw 1 (S [S [R0 6 7 [A 3 (a 1 1 v3 (ba 1 [.int .u8 0] (ad (cw .u8 (rm v0 (u 128))) (kc (.const (.int .u8 128))))))],ow 3 1],R0 13 2 [A 0 (qu v0 (u 128))]])]),S [R 15 5 [3,0] [A 2 (a 1 1 v3 (ba 1 [.int .u8 0] (cw .u8 v0)))],ow 2 1],.ret]⟩:=by kernel_rfl
def IY:cF fL []=some ⟨16,[(2,none)],S [R0 2 1 [M z],S [R0 3 1 [ls v0 w0],If 4 [] (S [R 5 7 [0] [ad v0 w1,A 2 (c1 qL (ad (mu (cw .u64 (x (.un .neg (zt 6)))) (u 2)) (u 1)))],.ret])],R 12 4 [0] [A 2 (c1 qL (mu (cw .u64 v0) (u 2)))],.ret]⟩:=by kernel_rfl
def LD:cF Cm []=some ⟨45,[(6,none)],S [R 6 1 [2] [J 5 (b t2),M F],S [D 7 23 [] [O (O (O (O (ls v0 (u 1)) (gt v0 (K [⟨some 10,.mov (zt 0),some (9,false)⟩] (c0 iR)))) (ls (l (f 0 t5)) (u 1))) (gt (l (f 0 t5)) (K [⟨some 21,.ld none (zt 20),some (19,false)⟩,⟨some 20,.fad (zt 5) 0,some (19,false)⟩] (c0 iR)))) (ge (l (f 1 t5)) (K [⟨some 27,.ld none (zt 26),some (25,false)⟩,⟨some 26,.fad (zt 5) 1,some (25,false)⟩] (c0 iR)))],If 30 [5,0,1] (S [E0 [A 6 F],.ret])],D 31 14 [5,0,1] [l (f 1 t5),J 34 (l (f 0 t5)),v0,l (f 0 t5),v0,v1,J 33 (K [zm 40 1,zm 39 0,zl 38 37,zf 37 5 0,zm 36 0,zl 35 34,zf 34 5 0] (c2 sK (u 37) (t 32))),J 41 (K [zm 36 0,zl 35 34,zf 34 5 0] (c3 I8 (t 38) (t 39) (t 40))),A 6 (eq (t 33) (c2 wH (t 35) (K [zl 35 34,zf 34 5 0] (c2 sK (t 36) (t 41)))))],.ret]⟩:=by kernel_rfl
def LE:cF yA []=some ⟨14,[(4,none)],S [R0 4 1 [M (u 0)],R 5 9 [0,1] [c2 Cq v0 (a 1 8 (c1 yD v1) (ba 1 [zU] (cw .u64 (n v1)))),J 4 v13],.ret]⟩:=by kernel_rfl
def MR:cF BJ []=some ⟨8,[(2,none)],S [R0 2 1 [M z],R 3 5 [0] [v0,c1 fL (x (.lenS (zt 3))),v0,x (.apS (zt 5) (zt 6)),J 2 v7],.ret]⟩:=by kernel_rfl
end
section
def Bg:Nat→Nat→List Nat
 | 0,k=>[k]
 | n+1,k=>if 127<k then (k%128+128)::Bg n (k/128) else [k]
def eH (k:Nat):List Nat:=Bg 9 k
def S8 (n:Int):Nat:=if n<0 then (2*(-(n+1))+1).toNat else (2*n).toNat
def LF {n:Int} (h1:-9223372036854775808≤n) (h2:n≤9223372036854775807):S8 n<18446744073709551616:=by grind [S8]
def bD (n:Int):List Nat:=eH (S8 n)
def Uz:∀ (n k:Nat),k<2*128^n→tI (Bg n k)
 | 0,k,h=>λx hx=>by simp [Bg] at hx;subst hx;simp at h;omega
 | n+1,k,h=>by
  simp only [Bg];split
  ·intro x hx;rcases jB.1 hx with rfl | hx
   ·omega
   ·exact Uz n (k/128) (by rw [Mo] at h;omega) x hx
  ·intro x hx;simp_all;omega
def Qz:∀ (n k:Nat),(Bg n k).length≤n+1
 | 0,k=>by simp [Bg]
 | n+1,k=>by
  simp only [Bg];split
  ·have:=Qz n (k/128);simp;omega
  ·simp
def Dp {k:Nat} (h:k<18446744073709551616):tI (eH k):=Uz 9 k (by omega)
def fM (k:Nat):(eH k).length≤10:=Qz 9 k
def Dq (x:Nat) (h:x<256):IntKind.u8.wrap (x:Int)=(x:Int):=by simp [IntKind.wrap,IntKind.bits,IntKind.signed];omega
section
variable {G:Nat→Option (List AV)}
set_option maxHeartbeats 4000000
def NY (k:Nat) (hk:k<18446744073709551616):aC PQ G qL [.v (.int .u64 (k:Int))] [] λr T'=>r=.own 0∧T'=[some (.arr 1 (bl (eH k)))]:=by
 refine aD O0 (by decide) ?_;simp only [go_sem];refine wD (λs=>∃ (A:List Nat) (j:Nat),A++[j]=eH k∧j≤127∧s=⟨0,[(0,.v (.int .u64 (j:Int))),(3,.own 0)],[some (.arr 1 (bl A))]⟩) ?_ ?_
 ·refine jE (λm s=>∃ (A:List Nat) (j:Nat),A++Bg m j=eH k∧j<2*128^m∧A.length+m≤9∧s=⟨0,[(0,.v (.int .u64 (j:Int))),(3,.own 0)],[some (.arr 1 (bl A))]⟩) 9 ⟨[],k,rfl,by omega,by decide,?_⟩ ?_
  ·simp only [go_sem]
  rintro m s ⟨A,j,hA,hj,hl,rfl⟩;by_cases hlt:127<j
  ·cases m with
   | zero=>simp at hj;omega
   | succ m =>
    have hj2:j<18446744073709551616:=AH hj (B7 (T5 2 (Nz (by decide) (show m+1≤9 by omega))) (by decide));have t1:decide ((j:Int)>127)=true:=decide_eq_true (by omega);have r1:bM .rem (.int .u64 (j:Int)) (.int .u64 128)=some (.int .u64 ((j%128:Nat):Int)):=jS j 128 (by decide);have q1:bM .quo (.int .u64 (j:Int)) (.int .u64 128)=some (.int .u64 ((j/128:Nat):Int)):=Ad j 128 (by decide) hj2;have w1:IntKind.u8.wrap ((j%128:Nat):Int)=((j%128:Nat):Int):=Dq _ (by omega);have w2:IntKind.u8.wrap (((j%128:Nat):Int)+128)=((j%128+128:Nat):Int):=Dq (j%128+128) (by omega);have b1:A.length+1≤140737488355328:=by omega
    have b2:A.length+1≤maxLen:=by unfold maxLen;omega
    have b3:(A.length+1)*1≤140737488355328:=by omega
    simp only [go_sem,aL,t1,↓r1,↓q1,w1,w2,b2,b3];refine ⟨m,by omega,A++[j%128+128],j/128,?_,?_,?_,?_⟩
    ·simp_all [hA,Bg,jI]
    ·omega
    ·simp;omega
    ·simp
  ·have t1:decide ((j:Int)>127)=false:=decide_eq_false (by omega);simp only [go_sem,t1];refine ⟨A,j,?_,by omega,rfl⟩;rw [←hA]
   cases m with
   | zero=>rfl
   | succ m=>rw [Bg,if_neg hlt]
 rintro s ⟨A,j,hA,hj,rfl⟩;have hl:=fM k;rw [←hA] at hl;simp at hl;have w1:IntKind.u8.wrap (j:Int)=(j:Int):=Dq _ (by omega);have b2:A.length+1≤maxLen:=by unfold maxLen;omega
 have b3:(A.length+1)*1≤140737488355328:=by omega
 have b1:A.length+1≤140737488355328:=by omega
 rw [←hA];simp only [go_sem,aL,w1,b2,b3,jA,fE,mE]
def rP (n:Int) (h1:-9223372036854775808≤n) (h2:n≤9223372036854775807):aC PQ G fL [.v (.int .i64 n)] [] λr T'=>r=.own 0∧T'=[some (.arr 1 (bl (bD n)))]:=by
 refine aD IY (by decide) ?_;have hz:=LF h1 h2;unfold bD;simp only [go_sem];by_cases hn:n<0
 ·obtain ⟨m,rfl,hm⟩:∃ m:Nat,n=-((m:Int)+1)∧m≤9223372036854775807:=⟨(-(n+1)).toNat,by omega,by omega⟩
  have t1:decide (-((m:Int)+1)<0)=true:=decide_eq_true hn;have w1:IntKind.i64.wrap (-((m:Int)+1)+1)=-(m:Int):=by rw [bF (by omega) (by omega)];omega
  have w2:IntKind.i64.wrap (0 - -(m:Int))=(m:Int):=by rw [bF (by omega) (by omega)];omega
  have w3:IntKind.u64.wrap (m:Int)=(m:Int):=bT m (by omega);have m1:bM .mul (.int .u64 (m:Int)) (.int .u64 2)=some (.int .u64 ((m*2:Nat):Int)):=iW m 2 (by omega);have a1:bM .add (.int .u64 ((m*2:Nat):Int)) (.int .u64 1)=some (.int .u64 ((m*2+1:Nat):Int)):=dG (m*2) 1 (by omega);have hzz:S8 (-((m:Int)+1))=m*2+1:=by grind [S8]
  rw [hzz];simp only [go_sem,t1,w1,w2,w3,↓m1,↓a1];refine aQ (aA _) rfl (NY (m*2+1) (by omega)) ?_;simp only [go_sem]
 ·obtain ⟨m,rfl⟩:∃ m:Nat,n=(m:Int):=⟨n.toNat,by omega⟩
  have t1:decide ((m:Int)<0)=false:=decide_eq_false hn;have w3:IntKind.u64.wrap (m:Int)=(m:Int):=bT m (by omega);have m1:bM .mul (.int .u64 (m:Int)) (.int .u64 2)=some (.int .u64 ((m*2:Nat):Int)):=iW m 2 (by omega);have hzz:S8 (m:Int)=m*2:=by grind [S8]
  rw [hzz];simp only [go_sem,t1,w3,↓m1];refine aQ (aA _) rfl (NY (m*2) (by omega)) ?_;simp only [go_sem]
def bI (n:Int):(bD n).length≤10:=fM _
def Bh {n:Int} (h1:-9223372036854775808≤n) (h2:n≤9223372036854775807):tI (bD n):=Dp (LF h1 h2)
def idB (a b:Int) (c:Nat):List Nat:=bD a++bD b++eH c
def aB1 (a b:Int) (c:Nat) (ha1:-9223372036854775808≤a) (ha2:a≤9223372036854775807) (hb1:-9223372036854775808≤b) (hb2:b≤9223372036854775807) (hc:c<18446744073709551616) :
  aC PQ G nE [.ag [.v (.int .i64 a),.v (.int .i64 b),.v (.int .u64 (c:Int))]] [] λr T'=>r=.own 0∧T'=[some (.arr 1 (bl (idB a b c)))]:=by
 refine aD LC (by decide) ?_;have l1:=bI a;have l2:=bI b;have l3:=fM c;have e1:(bl (bD a)).length=(bD a).length:=by simp
 have e2:(bl (bD b)).length=(bD b).length:=by simp
 have e3:(bl (eH c)).length=(eH c).length:=by simp
 simp only [go_sem];refine aQ (aA _) rfl (rP a ha1 ha2) ?_;simp only [go_sem];refine aQ (aA _) rfl (rP b hb1 hb2) ?_;have b1:(bD a).length+(bD b).length≤140737488355328:=by omega
 have b2:(bD a).length+(bD b).length≤maxLen:=by unfold maxLen;omega
 have b3:((bD a).length+(bD b).length)*1≤140737488355328:=by omega
 simp only [go_sem,aL,b2,b3];refine aQ (aA _) rfl (NY c hc) ?_;have d1:(bD a).length+(bD b).length+(eH c).length≤140737488355328:=by omega
 have d2:(bD a).length+(bD b).length+(eH c).length≤maxLen:=by unfold maxLen;omega
 have d3:((bD a).length+(bD b).length+(eH c).length)*1≤140737488355328:=by omega
 simp only [go_sem,aL,gK,d2,d3,idB,bl,jA]
def Q0 (lab b:List Nat):Fq:=DM lab (dC b++[b.length])
def Q1 (S:ByteArray) (lab b:List Nat) (hS:jC S=bl lab) (hs:S.size=lab.length) (hb:tI lab) (hl:lab.length≤1000) (hbb:tI b) (hbl:b.length≤1000000):aC PQ G yA [.v (.string S),.ls 1 (bl b)] [] λr T'=>r=.v (fu (Q0 lab b))∧T'=[]:=by
 refine aD LE (by decide) ?_;have hwl:=FJ b;have hw:=HR hbb;have z1:IntKind.u64.wrap (b.length:Int)=(b.length:Int):=bT _ (by omega);have b2:(dC b).length+1≤maxLen:=by unfold maxLen;omega
 have b3:((dC b).length+1)*8≤140737488355328:=by omega
 simp only [go_sem];refine aQ (aA _) rfl (Qx b hbb (by omega)) ?_;have e1:ul (dC b)++[[AV.v (.int .u64 (b.length:Int))]]=ul (dC b++[b.length]):=by simp
 simp only [go_sem,aL,z1,b2,b3];rw [e1];refine rB (aA _) rfl rfl (Y9 S lab (dC b++[b.length]) hS hs hb hl (λn hn=>?_) (by simp;omega)) ?_
 ·grind
 simp only [go_sem];rfl
def MS (lab ns:List Nat):Nat:=1+(DM lab ns).val%2305843009213693949
def O1 (lab ns:List Nat):1≤MS lab ns∧MS lab ns≤2305843009213693949:=by unfold MS;omega
def NZ (S:ByteArray) (lab ns:List Nat) (hS:jC S=bl lab) (hs:S.size=lab.length) (hb:tI lab) (hl:lab.length≤1000) (hn:∀ n∈ns,n<18446744073709551616) (hnl:ns.length≤10000000):aC PQ G vO [.v (.string S),.ls 1 (ul ns)] [] λr T'=>r=.v (.int .u64 ((MS lab ns:Nat):Int))∧T'=[]:=by
 refine aD IX (by decide) ?_;have hlt:=O1 lab ns;have r1:bM .rem (fu (DM lab ns)) (.int .u64 2305843009213693949)=some (.int .u64 (((DM lab ns).val%2305843009213693949:Nat):Int)):=jS _ 2305843009213693949 (by decide);have a1:bM .add (.int .u64 1) (.int .u64 (((DM lab ns).val%2305843009213693949:Nat):Int))=some (.int .u64 ((MS lab ns:Nat):Int)):=dG 1 _ (by unfold MS at hlt;omega);simp only [go_sem];refine aB (aA _) rfl (Y9 S lab ns hS hs hb hl hn hnl) rfl ?_;simp only [go_sem,↓r1,↓a1]
end
end
section
open W
def IZ:cF vP []=some ⟨15,[(4,none)],S [R0 4 1 [M (u 0)],R 5 10 [0,1] [c2 Di v0 (a 1 8 (c1 kR (c1 vR v1)) (ba 1 [zU] (cw .u64 (n v1)))),J 4 v14],.ret]⟩:=by kernel_rfl
def EB:cF nZ [(2,none,1)]=some ⟨8,[(2,none)],S [R0 2 1 [M z],S [R 3 5 [0] [a 1 1 z (l (f 0 (y v0))),J 2 v7],ow 2 1],.ret]⟩:=by kernel_rfl
def yT:cF bL []=some ⟨8,[],R 4 4 [0,1] [c2 dK v0 (c1 Cs v1)]⟩:=by kernel_rfl
def yU:cF dK []=some ⟨31,[],S [lo 0 (S [S [R0 4 1 [ge v1 (u 128)],Ie 5 [] .skip [] (ex 0)],bw 1 (S [R0 6 12 [v0,a 1 1 (l (f 0 (y v0))) (ba 1 [.int .u8 0] (B .or (cw .u8 v1) (kc (.const (.int .u8 128))))),s 1 (f 0 (y t6)) (t 15)],R0 18 2 [A 1 (B .shr v1 (u 7))]])]),R 20 11 [0,1] [v0,a 1 1 (l (f 0 (y v0))) (ba 1 [.int .u8 0] (cw .u8 v1)),s 1 (f 0 (y (t 20))) (t 28)]]⟩:=by kernel_rfl
def EC:cF dQ []=some ⟨16,[],S [R 3 0 [1] [b t1],R0 4 4 [c2 bL v0 (l (f 0 t3))],R0 8 4 [c2 bL v0 (l (f 1 t3))],R 12 4 [0,3] [c2 dK v0 (l (f 2 t3))]]⟩:=by kernel_rfl
def Ia:cF BM []=some ⟨46,[(6,none)],S [R 6 1 [2] [J 5 (b t2),M F],E0 [A 7 (kc (.func wV))],S [R 10 17 [7] [O (O (o (d3 v7 v0 (u 1) (u 2305843009213693950))) (o (d3 v7 (l (f 0 t5)) (u 1) (u 2305843009213693950)))) (o (d3 v7 (l (f 1 t5)) (u 0) (u 2305843009213693949)))],If 27 [0,5,1] (S [E0 [A 6 F],.ret])],R 29 5 [1,8,35,34,28] [c3 Cr v0 (l (f 0 t5)) v1,J 28 v33,J 34 (e 0 (t 28)),e 1 (t 28),A 8 (t 34),A 9 (t 35)],D 36 10 [5,0,9] [l (f 1 t5),J 39 (l (f 0 t5)),v0,v9,J 38 (K [zm 42 9,zm 41 0,zl 40 39,zf 39 5 0] (c2 tR (u 37) (t 37))),J 43 (A 6 (eq (t 38) (c2 nG (t 40) (K [zl 40 39,zf 39 5 0] (c2 tR (t 41) (t 42))))))],.ret]⟩:=by kernel_rfl
def LG:cF Cs []=some ⟨10,[(2,none)],S [R0 2 1 [M (u 0)],R 3 7 [0] [B .xor (B .shl (cw .u64 v0) (u 1)) (cw .u64 (B .shr v0 (u 63))),J 2 v9],.ret]⟩:=by kernel_rfl
def GR:cF wV []=some ⟨15,[(6,none)],S [R0 6 1 [M F],R 7 8 [0,1,2] [N (ge v0 v1) (le v0 v2),J 6 v14],.ret]⟩:=by kernel_rfl
def LH:cF Cr []=some ⟨16,[(6,none),(7,none)],S [R0 6 2 [M (u 0),M (u 0)],R 8 2 [2] [A 6 (c2 vP (kc (.const (.string (Hud.bs [115,105,103,110,101,100])))) v2)],R 10 6 [1,0] [v6,c2 Di (kc (.const (.string (Hud.bs [115,105,103])))) (j3 zU3 v1 v0 v6),A 6 (t 10),A 7 (t 15)],.ret]⟩:=by kernel_rfl
def FK:cF pL []=some ⟨17,[],S [R0 4 4 [v0,v1,c2 bL t4 (x (.lenS (zt 5)))],R 8 9 [0,1] [v0,l (f 0 (y v0)),v1,x (.apS (zt 12) (zt 13)),s 1 (f 0 (y t8)) (t 14)]]⟩:=by kernel_rfl
end
section
def aF7:∀ x,x<256→x ||| 128=x%128+128:=by decide +kernel
def Q2 (x:Nat) (hx:x<256):bM .or (.int .u8 (x:Int)) (.int .u8 128)=some (.int .u8 ((x%128+128:Nat):Int)):=by
 have h1:(BitVec.ofInt IntKind.u8.bits (x:Int) ||| BitVec.ofInt IntKind.u8.bits 128).toNat=x%128+128:=by
  have ea:(BitVec.ofInt 8 (x:Int)).toNat=x:=by simp_all
  have eb:(BitVec.ofInt 8 (128:Int)).toNat=128:=by decide
  show (BitVec.ofInt 8 (x:Int) ||| BitVec.ofInt 8 (128:Int)).toNat=x%128+128;rw [BitVec.toNat_or,ea,eb,aF7 x hx]
 simp only [bM,if_true,h1];rw [Dq _ (by omega)]
def Na (x:Nat) (hx:x<18446744073709551616):bM .shr (.int .u64 (x:Int)) (.int .u64 7)=some (.int .u64 ((x/128:Nat):Int)):=by
 have h2:(x:Int).fdiv (2^(min (7:Int).toNat IntKind.u64.bits))=((x/128:Nat):Int):=by
  show (x:Int).fdiv 128=_;grind
 grind [bM]
section
variable {G:Nat→Option (List AV)}
set_option maxHeartbeats 4000000
def GS (A:List Nat) (k:Nat) (hA:A.length≤1000000) (hk:k<18446744073709551616):aC PQ G dK [.ptr 0 0,.v (.int .u64 (k:Int))] [some (.box [.own 1]),some (.arr 1 (bl A))] λr T'=>T'=[some (.box [.own 2]),none,some (.arr 1 (bl (A++eH k)))]:=by
 refine aD yU (by decide) ?_;simp only [go_sem];refine wD (λs=>∃ (B:List Nat) (j:Nat),B++[j]=A++eH k∧j≤127∧B.length≤A.length+9∧(s=⟨2,[(0,.ptr 0 0),(1,.v (.int .u64 (j:Int)))],[some (.box [.own 1]),some (.arr 1 (bl B))]⟩∨s=⟨2,[(0,.ptr 0 0),(1,.v (.int .u64 (j:Int)))],[some (.box [.own 2]),none,some (.arr 1 (bl B))]⟩)) ?_ ?_
 ·refine jE (λm s=>∃ (B:List Nat) (j:Nat),B++Bg m j=A++eH k∧j<2*128^m∧B.length+m≤A.length+9∧m≤9∧(s=⟨2,[(0,.ptr 0 0),(1,.v (.int .u64 (j:Int)))],[some (.box [.own 1]),some (.arr 1 (bl B))]⟩∨s=⟨2,[(0,.ptr 0 0),(1,.v (.int .u64 (j:Int)))],[some (.box [.own 2]),none,some (.arr 1 (bl B))]⟩)) 9 ⟨A,k,rfl,by omega,by omega,by omega,.inl ?_⟩ ?_
  ·simp only [go_sem]
  rintro m s ⟨B,j,hB,hj,hl,hm9,hsx⟩;by_cases hlt:127<j
  ·cases m with
   | zero=>simp at hj;omega
   | succ m =>
    have hj2:j<18446744073709551616:=AH hj (B7 (T5 2 (Nz (by decide) (show m+1≤9 by omega))) (by decide));have t1:decide ((128:Int)≤(j:Int))=true:=decide_eq_true (by omega);have w1:IntKind.u8.wrap (j:Int)=((j%256:Nat):Int):=by rfl
    have o1:=Q2 (j%256) (by omega);have e1:j%256%128+128=j%128+128:=by omega
    rw [e1] at o1;have q1:=Na j hj2;have b2:B.length+1≤maxLen:=by unfold maxLen;omega
    have b3:(B.length+1)*1≤140737488355328:=by omega
    have b1:B.length+1≤140737488355328:=by omega
    have fin:B++[j%128+128]++Bg m (j/128)=A++eH k:=by grind [Bg,List.append_assoc]
    have fin2:j/128<2*128^m:=by omega
    have e2:bl B++[U8 (j%128+128)]=bl (B++[j%128+128]):=by simp
    rcases hsx with rfl | rfl
    ·simp only [go_sem,aL,ge_iff_le,t1,w1,↓o1,↓q1,b2,b3];grind
    ·simp only [go_sem,aL,ge_iff_le,t1,w1,↓o1,↓q1,b2,b3];grind
  ·have t1:decide ((128:Int)≤(j:Int))=false:=decide_eq_false (by omega);have fin:B++[j]=A++eH k:=by
    rw [←hB]
    cases m with
    | zero=>rfl
    | succ m=>rw [Bg,if_neg hlt]
   rcases hsx with rfl | rfl
   ·simp only [go_sem,ge_iff_le,t1];grind
   ·simp only [go_sem,ge_iff_le,t1];grind
 rintro s ⟨B,j,hB,hj,hl,hsx⟩;have w1:IntKind.u8.wrap (j:Int)=(j:Int):=Dq _ (by omega);have b2:B.length+1≤maxLen:=by unfold maxLen;omega
 have b3:(B.length+1)*1≤140737488355328:=by omega
 have b1:B.length+1≤140737488355328:=by omega
 have e2:bl B++[U8 j]=bl (B++[j]):=by simp
 rcases hsx with rfl | rfl
 ·simp only [go_sem,aL,w1,b2,b3];simp_all
 ·simp only [go_sem,aL,w1,b2,b3];simp_all
theorem aF8 (n:Int):IntKind.u64.wrap n=n%18446744073709551616:=by rfl
def ZA (a:Nat) (ha:a<18446744073709551616):(BitVec.ofInt 64 (a:Int) ^^^ BitVec.ofInt 64 18446744073709551615).toNat=18446744073709551615-a:=by
 have e:BitVec.ofInt 64 18446744073709551615=BitVec.allOnes 64:=by decide
 rw [e,BitVec.xor_allOnes,BitVec.toNat_not];simp_all;omega
def ZB (n:Int) (h1:-9223372036854775808≤n) (h2:n≤9223372036854775807):aC PQ G Cs [.v (.int .i64 n)] [] λr T'=>r=.v (.int .u64 ((S8 n:Nat):Int))∧T'=[]:=by
 refine aD LG (by decide) ?_;have hz:=LF h1 h2;by_cases hn:n<0
 ·obtain ⟨a,ha,ha2⟩:∃ a:Nat,n*2%18446744073709551616=(a:Int)∧S8 n=18446744073709551615-a:=⟨(18446744073709551616+2*n).toNat,by omega,by unfold S8;rw [if_pos hn];omega⟩
  have c1:IntKind.u64.wrap n=n+18446744073709551616:=by rw [aF8];omega
  have s1:bM .shl (.int .u64 (n+18446744073709551616)) (.int .u64 1)=some (.int .u64 (a:Int)):=by
   have h3:¬(1:Int)<0:=by decide
   have h4:(n+18446744073709551616)*2^(min (1:Int).toNat IntKind.u64.bits)=n*2+36893488147419103232:=by
    show (n+18446744073709551616)*2=_;omega
   grind [bM,aF8]
  have s2:bM .shr (.int .i64 n) (.int .u64 63)=some (.int .i64 (-1)):=by
   have h3:¬(63:Int)<0:=by decide
   have h4:n.fdiv (2^(min (63:Int).toNat IntKind.i64.bits))=-1:=by
    show n.fdiv 9223372036854775808=-1;grind
   grind [bM]
  have c2:IntKind.u64.wrap (-1)=18446744073709551615:=by decide
  have x1:bM .xor (.int .u64 (a:Int)) (.int .u64 18446744073709551615)=some (.int .u64 ((S8 n:Nat):Int)):=by
   have hx:(BitVec.ofInt IntKind.u64.bits (a:Int) ^^^ BitVec.ofInt IntKind.u64.bits 18446744073709551615).toNat=18446744073709551615-a:=ZA a (by omega);simp only [bM,if_true,hx];rw [bT _ (by omega),ha2]
  simp only [go_sem,c1,↓s1,↓s2,c2,↓x1]
 ·obtain ⟨m,rfl⟩:∃ m:Nat,n=(m:Int):=⟨n.toNat,by omega⟩
  have hzz:S8 (m:Int)=m*2:=by grind [S8]
  have c1:IntKind.u64.wrap (m:Int)=(m:Int):=bT m (by omega);have s1:bM .shl (.int .u64 (m:Int)) (.int .u64 1)=some (.int .u64 ((m*2:Nat):Int)):=by
   have h3:¬(1:Int)<0:=by decide
   have h4:(m:Int)*2^(min (1:Int).toNat IntKind.u64.bits)=((m*2:Nat):Int):=by
    rfl
   simp only [bM,h3,if_false,h4];rw [bT _ (by omega)]
  have s2:bM .shr (.int .i64 (m:Int)) (.int .u64 63)=some (.int .i64 0):=by
   have h3:¬(63:Int)<0:=by decide
   have h4:(m:Int).fdiv (2^(min (63:Int).toNat IntKind.i64.bits))=0:=by
    show (m:Int).fdiv 9223372036854775808=0;grind
   grind [bM]
  have x1:bM .xor (.int .u64 ((m*2:Nat):Int)) (.int .u64 0)=some (.int .u64 ((m*2:Nat):Int)):=by
   have hx:(BitVec.ofInt IntKind.u64.bits ((m*2:Nat):Int) ^^^ BitVec.ofInt IntKind.u64.bits 0).toNat=m*2:=by
    show (BitVec.ofInt 64 ((m*2:Nat):Int) ^^^ BitVec.ofInt 64 0).toNat=m*2;simp_all;omega
   simp only [bM,if_true,hx];rw [bT _ (by omega)]
  rw [hzz];simp only [go_sem,c1,↓s1,↓s2,↓x1]
def vC (A:List Nat) (n:Int) (hA:A.length≤1000000) (h1:-9223372036854775808≤n) (h2:n≤9223372036854775807):aC PQ G bL [.ptr 0 0,.v (.int .i64 n)] [some (.box [.own 1]),some (.arr 1 (bl A))] λr T'=>T'=[some (.box [.own 2]),none,some (.arr 1 (bl (A++bD n)))]:=by
 refine aD yT (by decide) ?_;simp only [go_sem];refine aB (aA _) rfl (ZB n h1 h2) rfl ?_;simp only [go_sem];refine aG [0,1] (aA _) (by decide) (by simp) rfl rfl (GS A (S8 n) hA (LF h1 h2)) ?_;rintro r T' rfl;simp only [go_sem];rfl
def aB2 (A:List Nat) (a b:Int) (c:Nat) (hA:A.length≤900000) (ha1:-9223372036854775808≤a) (ha2:a≤9223372036854775807) (hb1:-9223372036854775808≤b) (hb2:b≤9223372036854775807) (hc:c<18446744073709551616) :
  aC PQ G dQ [.ptr 0 0,.ag [.v (.int .i64 a),.v (.int .i64 b),.v (.int .u64 (c:Int))]] [some (.box [.own 1]),some (.arr 1 (bl A))] λr T'=>T'=[some (.box [.own 2]),none,some (.arr 1 (bl (A++idB a b c)))]:=by
 refine aD EC (by decide) ?_;have l1:=bI a;have l2:=bI b;simp only [go_sem];refine aG [0,1] (aA _) (by decide) (by simp) rfl rfl (vC A a (by omega) ha1 ha2) ?_;rintro r T' rfl;simp only [go_sem];rw [←jA];refine aG [0,3] (aA _) (by decide) (by simp) rfl rfl (vC (A++bD a) b (by simp;omega) hb1 hb2) ?_;rintro r T' rfl;simp only [go_sem];rw [←jA,←jA];refine aG [0,4] (aA _) (by decide) (by simp) rfl rfl (GS (A++bD a++bD b) c (by simp;omega) hc) ?_;rintro r T' rfl;simp only [go_sem,idB,jI]
def ZC (A:List Nat) (S:ByteArray) (b:List Nat) (hS:jC S=bl b) (hs:S.size=b.length) (hA:A.length≤900000) (hl:b.length≤1000000):aC PQ G pL [.ptr 0 0,.v (.string S)] [some (.box [.own 1]),some (.arr 1 (bl A))] λr T'=>T'=[some (.box [.own 2]),none,some (.arr 1 (bl (A++(bD (b.length:Int)++b))))]:=by
 refine aD FK (by decide) ?_;have l1:=bI (b.length:Int);have b1:(A++bD (b.length:Int)).length+b.length≤140737488355328:=by simp_all;omega
 have b2:(A++bD (b.length:Int)).length+b.length≤maxLen:=by rw [gK];unfold maxLen;omega
 simp only [go_sem,hs];refine aG [0,1] (aA _) (by decide) (by simp) rfl rfl (vC A (b.length:Int) (by omega) (by omega) (by omega)) ?_;rintro r T' rfl;rw [gK] at b1 b2;simp only [go_sem,aL,gK,hs,hS,b1,b2,jA,jI]
def aDh (k:Nat) (hk:k<18446744073709551616):aC PQ G dK [.ptr 0 0,.v (.int .u64 (k:Int))] [some (.box [.v (.slice none 0 0)])] λr T'=>T'=[some (.box [.own 1]),some (.arr 1 (bl (eH k)))]:=by
 refine aD yU (by decide) ?_;simp only [go_sem];refine wD (λs=>∃ (B:List Nat) (j:Nat),B++[j]=eH k∧j≤127∧B.length≤9∧((B=[]∧s=⟨1,[(0,.ptr 0 0),(1,.v (.int .u64 (j:Int)))],[some (.box [.v (.slice none 0 0)])]⟩)∨s=⟨1,[(0,.ptr 0 0),(1,.v (.int .u64 (j:Int)))],[some (.box [.own 1]),some (.arr 1 (bl B))]⟩)) ?_ ?_
 ·refine jE (λm s=>∃ (B:List Nat) (j:Nat),B++Bg m j=eH k∧j<2*128^m∧B.length+m≤9∧m≤9∧((B=[]∧s=⟨1,[(0,.ptr 0 0),(1,.v (.int .u64 (j:Int)))],[some (.box [.v (.slice none 0 0)])]⟩)∨s=⟨1,[(0,.ptr 0 0),(1,.v (.int .u64 (j:Int)))],[some (.box [.own 1]),some (.arr 1 (bl B))]⟩)) 9 ⟨[],k,rfl,by omega,by decide,by omega,.inl ⟨rfl,?_⟩⟩ ?_
  ·simp only [go_sem]
  rintro m s ⟨B,j,hB,hj,hl,hm9,hsx⟩;by_cases hlt:127<j
  ·cases m with
   | zero=>simp at hj;omega
   | succ m =>
    have hj2:j<18446744073709551616:=AH hj (B7 (T5 2 (Nz (by decide) (show m+1≤9 by omega))) (by decide));have t1:decide ((128:Int)≤(j:Int))=true:=decide_eq_true (by omega);have w1:IntKind.u8.wrap (j:Int)=((j%256:Nat):Int):=by rfl
    have o1:=Q2 (j%256) (by omega);have e1:j%256%128+128=j%128+128:=by omega
    rw [e1] at o1;have q1:=Na j hj2;have b2:B.length+1≤maxLen:=by unfold maxLen;omega
    have b3:(B.length+1)*1≤140737488355328:=by omega
    have b1:B.length+1≤140737488355328:=by omega
    have fin:B++[j%128+128]++Bg m (j/128)=eH k:=by grind [Bg,List.append_assoc]
    have fin2:j/128<2*128^m:=by omega
    have e2:bl B++[U8 (j%128+128)]=bl (B++[j%128+128]):=by simp
    rcases hsx with ⟨rfl,rfl⟩ | rfl
    ·simp only [go_sem,ge_iff_le,t1,w1,↓o1,↓q1,show 1≤maxLen by decide];grind
    ·simp only [go_sem,aL,ge_iff_le,t1,w1,↓o1,↓q1,b2,b3];grind
  ·have t1:decide ((128:Int)≤(j:Int))=false:=decide_eq_false (by omega);have fin:B++[j]=eH k:=by
    rw [←hB]
    cases m with
    | zero=>rfl
    | succ m=>rw [Bg,if_neg hlt]
   rcases hsx with ⟨rfl,rfl⟩ | rfl
   ·simp only [go_sem,ge_iff_le,t1];grind
   ·simp only [go_sem,ge_iff_le,t1];grind
 rintro s ⟨B,j,hB,hj,hl,hsx⟩;have w1:IntKind.u8.wrap (j:Int)=(j:Int):=Dq _ (by omega);have b2:B.length+1≤maxLen:=by unfold maxLen;omega
 have b3:(B.length+1)*1≤140737488355328:=by omega
 have b1:B.length+1≤140737488355328:=by omega
 have e2:bl B++[U8 j]=bl (B++[j]):=by simp
 rcases hsx with ⟨rfl,rfl⟩ | rfl
 ·rw [←hB];simp only [go_sem,w1,show 1≤maxLen by decide]
 ·simp only [go_sem,aL,w1,b2,b3];simp_all
def aDi (n:Int) (h1:-9223372036854775808≤n) (h2:n≤9223372036854775807):aC PQ G bL [.ptr 0 0,.v (.int .i64 n)] [some (.box [.v (.slice none 0 0)])] λr T'=>T'=[some (.box [.own 1]),some (.arr 1 (bl (bD n)))]:=by
 refine aD yT (by decide) ?_;simp only [go_sem];refine aB (aA _) rfl (ZB n h1 h2) rfl ?_;simp only [go_sem];refine aG [0] (aA _) (by decide) (by simp) rfl rfl (aDh (S8 n) (LF h1 h2)) ?_;rintro r T' rfl;simp only [go_sem];rfl
def U0 (A:List Nat) (hA:A.length≤1000000):aC PQ G nZ [.ptr 0 0] [some (.box [.own 1]),some (.arr 1 (bl A))] λr T'=>r=.own 2∧T'=[some (.box [.own 1]),some (.arr 1 (bl A)),some (.arr 1 (bl A))]:=by
 refine aD EB (by decide) ?_;have b1:A.length≤140737488355328:=by omega
 have b2:A.length≤maxLen:=by unfold maxLen;omega
 have b3:A.length*1≤140737488355328:=by omega
 simp only [go_sem,aL,b2,b3]
end
end
section
def cC (l:List Int):List Nat:=(l.map bD).flatten
def jZ (l:List Nat):List Nat:=(l.map eH).flatten
def LI (l:List Int) (x:Int):cC (l++[x])=cC l++bD x:=by simp [cC]
def S9 (l:List Nat) (x:Nat):jZ (l++[x])=jZ l++eH x:=by simp [jZ]
def iX:∀ l:List Int,(cC l).length≤10*l.length
 | []=>by simp [cC]
 | x::l=>by
  have:=iX l;have h:=bI x;simp only [cC,fE,qW,gK,wJ] at *
  omega
def wI:∀ l:List Nat,(jZ l).length≤10*l.length
 | []=>by simp [jZ]
 | x::l=>by
  have:=wI l;have h:=fM x;simp only [jZ,fE,qW,gK,wJ] at *
  omega
section
variable {G:Nat→Option (List AV)}
set_option maxHeartbeats 4000000
def O2 (l:List Int) (hl:l.length≤1000000) (hn:∀ n∈l,kZ n):aC PQ G sL [uK l] [] λr T'=>r=.own 0∧T'=[some (.arr 1 (bl (cC l)))]:=by
 refine aD L6 (by decide) ?_;simp only [go_sem];refine aJ l.length (λi=>⟨0,[(0,uK l),(3,.own 0),(4,.v (.int .i64 (i:Int)))],[some (.arr 1 (bl (cC (l.take i))))]⟩) (λ_=>True) ?_ trivial ?_ ?_
 ·simp only [go_sem];rfl
 ·intro i hi _;have g0:(l.map λn=>[iv n])[i]?=some [iv l[i]]:=aI _ l i hi;have hx:=hn l[i] (iN hi);have hs:cC (l.take (i+1))=cC (l.take i)++bD l[i]:=by rw [oV hi,LI]
  have k1:=iX (l.take i);have k2:=bI l[i];rw [hs];rw [kM] at k1;generalize cC (l.take i)=X at *
  generalize l[i]=x at *
  have b2:X.length+(bD x).length≤maxLen:=by unfold maxLen;omega
  have b3:(X.length+(bD x).length)*1≤140737488355328:=by omega
  have b1:X.length+(bD x).length≤140737488355328:=by omega
  simp only [go_sem,aL,bG hi,g0];refine aQ (aA _) rfl (rP x hx.1 hx.2) ?_;simp only [go_sem,aL,b2,b3,aF (show i<9223372036854775807 by omega),jA]
 ·intro _;rw [lP];simp only [go_sem,aL,aX (cN _)]
def ZD (l:List Nat) (hl:l.length≤1000000) (hn:∀ n∈l,n<18446744073709551616):aC PQ G BK [.ls 1 (ul l)] [] λr T'=>r=.own 0∧T'=[some (.arr 1 (bl (jZ l)))]:=by
 refine aD L7 (by decide) ?_;simp only [go_sem];refine aJ l.length (λi=>⟨0,[(0,.ls 1 (ul l)),(3,.own 0),(4,.v (.int .i64 (i:Int)))],[some (.arr 1 (bl (jZ (l.take i))))]⟩) (λ_=>True) ?_ trivial ?_ ?_
 ·simp only [go_sem];rfl
 ·intro i hi _;have g0:(ul l)[i]?=some [.v (.int .u64 ((l[i]:Nat):Int))]:=aI _ l i hi;have hx:=hn l[i] (iN hi);have hs:jZ (l.take (i+1))=jZ (l.take i)++eH l[i]:=by rw [oV hi,S9]
  have k1:=wI (l.take i);have k2:=fM l[i];rw [hs];rw [kM] at k1;generalize jZ (l.take i)=X at *
  generalize l[i]=x at *
  have b2:X.length+(eH x).length≤maxLen:=by unfold maxLen;omega
  have b3:(X.length+(eH x).length)*1≤140737488355328:=by omega
  have b1:X.length+(eH x).length≤140737488355328:=by omega
  simp only [go_sem,aL,bG hi,g0];refine aQ (aA _) rfl (NY x hx) ?_;simp only [go_sem,aL,b2,b3,aF (show i<9223372036854775807 by omega),jA]
 ·intro _;rw [lP];simp only [go_sem,aL,aX (cN _)]
def BoxM.B (b:BoxM):List Nat:=jZ [b.To,b.Eph,b.Body,b.Tag]
def rQ (l:List BoxM):List Nat:=bD (l.length:Int)++(l.map BoxM.B).flatten
def GT:∀ l:List BoxM,((l.map BoxM.B).flatten).length≤40*l.length
 | []=>by simp
 | x::l=>by
  have:=GT l;have h:x.B.length≤10*4:=wI [x.To,x.Eph,x.Body,x.Tag];simp only [fE,qW,gK,wJ] at *
  omega
def U1 (l:List BoxM) (hl:l.length≤1000000) (hn:∀ b∈l,b.ok):aC PQ G yB [De l] [] λr T'=>r=.own 0∧T'=[some (.arr 1 (bl (rQ l)))]:=by
 refine aD KP (by decide) ?_;have h0:=bI (l.length:Int);simp only [go_sem,aL];refine aQ (aA _) rfl (rP (l.length:Int) (by omega) (by omega)) ?_;simp only [go_sem];refine aJ l.length (λi=>⟨0,[(0,De l),(3,.own 0),(4,.v (.int .i64 (i:Int)))],[some (.arr 1 (bl (bD (l.length:Int)++((l.take i).map BoxM.B).flatten)))]⟩) (λ_=>True) ?_ trivial ?_ ?_
 ·simp only [go_sem,rY,zF,nR]
 ·intro i hi _;have g0:(l.map BoxM.A)[i]?=some l[i].A:=aI _ l i hi;have hx:=hn l[i] (iN hi);have hs:bD (l.length:Int)++((l.take (i+1)).map BoxM.B).flatten=(bD (l.length:Int)++((l.take i).map BoxM.B).flatten)++l[i].B:=by
   rw [oV hi,jA,PZ,jI];simp only [fE,mE,qW,zF,nR]
  have k1:=GT (l.take i);rw [kM] at k1;have k2:l[i].B.length≤10*4:=wI [l[i].To,l[i].Eph,l[i].Body,l[i].Tag];have k3:(bD (l.length:Int)++((l.take i).map BoxM.B).flatten).length≤40000010:=by rw [gK];omega
  rw [hs];generalize bD (l.length:Int)++((l.take i).map BoxM.B).flatten=X at *
  generalize l[i]=x at *
  have b2:X.length+x.B.length≤maxLen:=by unfold maxLen;omega
  have b3:(X.length+x.B.length)*1≤140737488355328:=by omega
  have b1:X.length+x.B.length≤140737488355328:=by omega
  have g1:(l.map BoxM.A)[i]?=some [uv x.To,uv x.Eph,uv x.Body,uv x.Tag]:=g0;simp only [go_sem,aL,bG hi,g1];refine cD (aA _) rfl rfl (ZD [x.To,x.Eph,x.Body,x.Tag] (by simp) (λn hm=>?_)) ?_
  ·simp only [jB,qS,or_false] at hm;obtain ⟨h1,h2,h3,h4⟩:=hx;rcases hm with rfl | rfl | rfl | rfl<;>assumption
  rintro r T' ⟨rfl,rfl⟩;refine ⟨by simp only [fF],by simp only [iU,uX,forall_eq,bl,cZ];rintro e ⟨n,_,rfl⟩ c hc;exact ⟨_,iU.1 hc⟩,?_⟩;have hB:jZ [x.To,x.Eph,x.Body,x.Tag]=x.B:=rfl;rw [hB];simp only [go_sem,aL,b2,b3,aF (show i<9223372036854775807 by omega),jA]
 ·intro _;rw [lP];simp only [go_sem,aL,aX (cN _),rQ]
def nN (b:List Nat):List Nat:=bD (b.length:Int)++b
def ZE (S:ByteArray) (b:List Nat) (hS:jC S=bl b) (hs:S.size=b.length) (hl:b.length≤1000000):aC PQ G BJ [.v (.string S)] [] λr T'=>r=.own 0∧T'=[some (.arr 1 (bl (nN b)))]:=by
 refine aD MR (by decide) ?_;have l1:=bI (b.length:Int);have b1:(bD (b.length:Int)).length+b.length≤140737488355328:=by omega
 have b2:(bD (b.length:Int)).length+b.length≤maxLen:=by unfold maxLen;omega
 simp only [go_sem,hs];refine aQ (aA _) rfl (rP (b.length:Int) (by omega) (by omega)) ?_;simp only [go_sem,aL,hs,hS,b1,b2,nN,jA]
end
end
section
def Id.B (x:Id):List Nat:=idB x.a x.b x.c.toNat
def kH {α:Type} (f:α→List Nat) (l:List α):List Nat:=bD (l.length:Int)++(l.map f).flatten
def LJ {α:Type} {f:α→List Nat} {l:List α} {k:Nat} (h:∀ x∈l,(f x).length≤k):((l.map f).flatten).length≤k*l.length:=by
 induction l with
 | nil=>simp
 | cons x l ih =>
  grind [List.flatten_cons,List.length_append,List.length_cons,Nat.mul_succ]
def kX {α:Type} {f:α→List Nat} {l:List α} {k:Nat} (h:∀ x∈l,(f x).length≤k):(kH f l).length≤10+k*l.length:=by
 have h1:=bI (l.length:Int);have h2:=LJ h;grind [kH,List.length_append]
def Bi {α:Type} (f:α→List Nat) (l:List α) (i:Nat) (h:i<l.length):((l.take (i+1)).map f).flatten=((l.take i).map f).flatten++f l[i]:=by
 rw [oV h,jA,PZ];simp only [fE,mE,qW,zF,nR]
def vU {α:Type} {f:α→List Nat} {l:List α} {k:Nat} (h:∀ x∈l,(f x).length≤k) (i:Nat) (hi:i≤l.length):(((l.take i).map f).flatten).length≤k*l.length:=by
 refine B7 (LJ (l:=l.take i) λx hx=>h x (Ef hx)) (T5 k ?_);simp_all
def Id.B_len (x:Id):x.B.length≤30:=by
 have h1:=bI x.a;have h2:=bI x.b;have h3:=fM x.c.toNat;grind [Id.B,idB,List.length_append]
def bsN (b:List Nat):ByteArray:=⟨(b.map UInt8.ofNat).toArray⟩
def DN:∀ b:List Nat,Hn (bl b)=some (b.map UInt8.ofNat)
 | []=>rfl
 | x::b=>by
  have h:=DN b;simp_all [bl,fE,Hn,Lp]
def Bj {b:List Nat} (h:tI b):jC (bsN b)=bl b:=by
 simp only [jC,bsN,D1,bl];refine N0 λx hx=>?_;have:=h x hx;simp_all;omega
def GU (b:List Nat):(bsN b).size=b.length:=by simp [bsN,ByteArray.size]
section
variable {G:Nat→Option (List AV)}
set_option maxHeartbeats 4000000
def ZF (A:List Nat) (l:List Int) (hA:A.length≤500000) (hl:l.length≤1000) (hn:∀ x∈l,kZ x):aC PQ G BQ [.ptr 0 0,uK l,.bm bL 1 [.ptr 0 0]] [some (.box [.own 1]),some (.arr 1 (bl A))] λr T'=>T'=[some (.box [.own 2]),none,some (.arr 1 (bl (A++kH bD l)))]:=by
 refine aD IM (by decide) ?_;have hw:∀ x∈l,(bD x).length≤10:=λx _=>bI x;have l1:=bI (l.length:Int);simp only [go_sem,aL];refine aG [0,1] (aA _) (by decide) (by simp) rfl rfl (vC A (l.length:Int) (by omega) (by omega) (by omega)) ?_;rintro r T' rfl;simp only [go_sem];refine aJ l.length (λi=>⟨2,[(2,.bm bL 1 [.ptr 0 0]),(12,uK l),(13,.v (.int .i64 (l.length:Int))),(14,.v (.int .i64 (i:Int)))],[some (.box [.own 2]),none,some (.arr 1 (bl (A++(bD (l.length:Int)++((l.take i).map bD).flatten))))]⟩) (λ_=>True) ?_ trivial ?_ ?_
 ·simp only [go_sem,rY,zF,nR]
 ·intro i hi _;have g0:(l.map λn=>[iv n])[i]?=some [iv l[i]]:=aI _ l i hi;have hx:=hn l[i] (iN hi);have hk:=hw l[i] (iN hi);have k1:=vU hw i (by omega);have es:A++(bD (l.length:Int)++((l.take (i+1)).map bD).flatten)=(A++(bD (l.length:Int)++((l.take i).map bD).flatten))++bD l[i]:=by rw [Bi _ l i hi];simp only [jI]
  rw [es];have k3:(A++(bD (l.length:Int)++((l.take i).map bD).flatten)).length≤600000:=by simp_all;omega
  clear es;generalize A++(bD (l.length:Int)++((l.take i).map bD).flatten)=X at *
  generalize l[i]=x at *
  simp only [go_sem,bG hi,g0];refine aG [0,2] (aA _) (by decide) (by simp) rfl rfl (vC X x (by omega) hx.1 hx.2) ?_;rintro r T' rfl;simp only [go_sem,aF (show i<9223372036854775807 by omega),jA]
 ·intro _;rw [lP];simp only [go_sem,aX (cN _),kH]
def ZG (A:List Nat) (l:List Nat) (hA:A.length≤500000) (hl:l.length≤1000) (hn:∀ x∈l,x<18446744073709551616):aC PQ G uM [.ptr 0 0,.ls 1 (ul l),.bm dK 1 [.ptr 0 0]] [some (.box [.own 1]),some (.arr 1 (bl A))] λr T'=>T'=[some (.box [.own 2]),none,some (.arr 1 (bl (A++kH eH l)))]:=by
 refine aD E5 (by decide) ?_;have hw:∀ x∈l,(eH x).length≤10:=λx _=>fM x;have l1:=bI (l.length:Int);simp only [go_sem,aL];refine aG [0,1] (aA _) (by decide) (by simp) rfl rfl (vC A (l.length:Int) (by omega) (by omega) (by omega)) ?_;rintro r T' rfl;simp only [go_sem];refine aJ l.length (λi=>⟨2,[(2,.bm dK 1 [.ptr 0 0]),(12,.ls 1 (ul l)),(13,.v (.int .i64 (l.length:Int))),(14,.v (.int .i64 (i:Int)))],[some (.box [.own 2]),none,some (.arr 1 (bl (A++(bD (l.length:Int)++((l.take i).map eH).flatten))))]⟩) (λ_=>True) ?_ trivial ?_ ?_
 ·simp only [go_sem,rY,zF,nR]
 ·intro i hi _;have g0:(ul l)[i]?=some [.v (.int .u64 ((l[i]:Nat):Int))]:=aI _ l i hi;have hx:=hn l[i] (iN hi);have hk:=hw l[i] (iN hi);have k1:=vU hw i (by omega);have es:A++(bD (l.length:Int)++((l.take (i+1)).map eH).flatten)=(A++(bD (l.length:Int)++((l.take i).map eH).flatten))++eH l[i]:=by rw [Bi _ l i hi];simp only [jI]
  rw [es];have k3:(A++(bD (l.length:Int)++((l.take i).map eH).flatten)).length≤600000:=by simp_all;omega
  clear es;generalize A++(bD (l.length:Int)++((l.take i).map eH).flatten)=X at *
  generalize l[i]=x at *
  simp only [go_sem,bG hi,g0];refine aG [0,2] (aA _) (by decide) (by simp) rfl rfl (GS X x (by omega) hx) ?_;rintro r T' rfl;simp only [go_sem,aF (show i<9223372036854775807 by omega),jA]
 ·intro _;rw [lP];simp only [go_sem,aX (cN _),kH]
def aB3 (A:List Nat) (x:Id) (hA:A.length≤900000) (hx:x.ok):aC PQ G dQ [.ptr 0 0,.ag [.v (.int .i64 x.a),.v (.int .i64 x.b),.v (.int .u64 x.c)]] [some (.box [.own 1]),some (.arr 1 (bl A))] λr T'=>T'=[some (.box [.own 2]),none,some (.arr 1 (bl (A++x.B)))]:=by
 have:=aB2 (G:=G) A x.a x.b x.c.toNat hA hx.1.1 hx.1.2 hx.2.1.1 hx.2.1.2 (by have:=hx.2.2;omega);rwa [Int.toNat_of_nonneg hx.2.2.1] at this
def aB4 (A:List Nat) (l:List Id) (hA:A.length≤500000) (hl:l.length≤1000) (hn:∀ x∈l,x.ok):aC PQ G pZ [.ptr 0 0,ids l,.bm dQ 1 [.ptr 0 0]] [some (.box [.own 1]),some (.arr 1 (bl A))] λr T'=>T'=[some (.box [.own 2]),none,some (.arr 1 (bl (A++kH Id.B l)))]:=by
 refine aD CA (by decide) ?_;have hw:∀ x∈l,(Id.B x).length≤30:=λx _=>Id.B_len x;have l1:=bI (l.length:Int);simp only [go_sem,aL];refine aG [0,1] (aA _) (by decide) (by simp) rfl rfl (vC A (l.length:Int) (by omega) (by omega) (by omega)) ?_;rintro r T' rfl;simp only [go_sem];refine aJ l.length (λi=>⟨2,[(2,.bm dQ 1 [.ptr 0 0]),(12,ids l),(13,.v (.int .i64 (l.length:Int))),(14,.v (.int .i64 (i:Int)))],[some (.box [.own 2]),none,some (.arr 1 (bl (A++(bD (l.length:Int)++((l.take i).map Id.B).flatten))))]⟩) (λ_=>True) ?_ trivial ?_ ?_
 ·simp only [go_sem,rY,zF,nR]
 ·intro i hi _;have g0:(l.map Id.A)[i]?=some [.v (.int .i64 l[i].a),.v (.int .i64 l[i].b),.v (.int .u64 l[i].c)]:=aI _ l i hi;have hx:=hn l[i] (iN hi);have hk:=hw l[i] (iN hi);have k1:=vU hw i (by omega);have es:A++(bD (l.length:Int)++((l.take (i+1)).map Id.B).flatten)=(A++(bD (l.length:Int)++((l.take i).map Id.B).flatten))++Id.B l[i]:=by rw [Bi _ l i hi];simp only [jI]
  rw [es];have k3:(A++(bD (l.length:Int)++((l.take i).map Id.B).flatten)).length≤600000:=by simp_all;omega
  clear es;generalize A++(bD (l.length:Int)++((l.take i).map Id.B).flatten)=X at *
  generalize l[i]=x at *
  simp only [go_sem,bG hi,g0];refine aG [0,2] (aA _) (by decide) (by simp) rfl rfl (aB3 X x (by omega) hx) ?_;rintro r T' rfl;simp only [go_sem,aF (show i<9223372036854775807 by omega),jA]
 ·intro _;rw [lP];simp only [go_sem,aX (cN _),kH]
def aF9 (A:List Nat) (b:BoxM) (hA:A.length≤600000) (hb:b.ok):aC PQ G iS [.ag b.A,.ptr 0 0] [some (.box [.ptr 1 0]),some (.box [.own 2]),some (.arr 1 (bl A))] λr T'=>T'=[some (.box [.ptr 1 0]),some (.box [.own 3]),none,some (.arr 1 (bl (A++b.B)))]:=by
 refine aD KX (by decide) ?_;obtain ⟨h1,h2,h3,h4⟩:=hb;have l1:=fM b.To;have l2:=fM b.Eph;have l3:=fM b.Body;have l4:=fM b.Tag;simp only [go_sem,BoxM.A]
 refine aJ 4 (λi=>match i with
  | 0=>⟨3,[(1,.ptr 0 0),(13,.own 3),(14,.v (.int .i64 4)),(15,.v (.int .i64 0))],[some (.box [.ptr 1 0]),some (.box [.own 2]),some (.arr 1 (bl A)),some (.arr 1 [[uv b.To],[uv b.Eph],[uv b.Body],[uv b.Tag]])]⟩
  | i+1=>⟨3,[(1,.ptr 0 0),(13,.own 3),(14,.v (.int .i64 4)),(15,.v (.int .i64 ((i+1:Nat):Int)))],[some (.box [.ptr 1 0]),some (.box [.own 4]),none,some (.arr 1 [[uv b.To],[uv b.Eph],[uv b.Body],[uv b.Tag]]),some (.arr 1 (bl (A++jZ ([b.To,b.Eph,b.Body,b.Tag].take (i+1)))))]⟩) (λ_=>True) ?_ trivial ?_ ?_
 ·simp only [go_sem]
 ·intro i hi _;rcases i with _ | _ | _ | _ | i
  ·simp only [go_sem];refine aG [1,2] (aA _) (by decide) (by simp) rfl rfl (GS A b.To (by omega) h1) ?_;rintro r T' rfl;simp only [go_sem,jZ,qW,zF]
  ·simp only [go_sem,jZ,qW,zF];rw [←jA];refine aG [1,4] (aA _) (by decide) (by simp) rfl rfl (GS (A++eH b.To) b.Eph (by simp only [gK];omega) h2) ?_;rintro r T' rfl;simp only [go_sem,jI,jZ,qW,zF,jA]
  ·simp only [go_sem,jZ,qW,zF];rw [←jA,←jA];refine aG [1,4] (aA _) (by decide) (by simp) rfl rfl (GS (A++(eH b.To++eH b.Eph)) b.Body (by simp only [gK];omega) h3) ?_;rintro r T' rfl;simp only [go_sem,jI,jZ,qW,zF,jA]
  ·simp only [go_sem,jZ,qW,zF];rw [←jA,←jA,←jA];refine aG [1,4] (aA _) (by decide) (by simp) rfl rfl (GS (A++(eH b.To++(eH b.Eph++eH b.Body))) b.Tag (by simp only [gK];omega) h4) ?_;rintro r T' rfl;simp only [go_sem,jI,jZ,qW,zF,jA]
  ·omega
 ·intro _;simp only [go_sem,BoxM.B]
def JJ (b:BoxM):b.B.length≤40:=wI [b.To,b.Eph,b.Body,b.Tag]
def Q3 (A:List Nat) (l:List BoxM) (hA:A.length≤500000) (hl:l.length≤1000) (hn:∀ x∈l,x.ok):aC PQ G oC [.ptr 0 0,De l,.cl iS [.ptr 2 0]] [some (.box [.own 1]),some (.arr 1 (bl A)),some (.box [.ptr 0 0])] λr T'=>T'=[some (.box [.own 3]),none,some (.box [.ptr 0 0]),some (.arr 1 (bl (A++kH BoxM.B l)))]:=by
 refine aD D5 (by decide) ?_;have hw:∀ x∈l,(BoxM.B x).length≤40:=λx _=>JJ x;have l1:=bI (l.length:Int);simp only [go_sem,aL];refine aG [0,1] (aA _) (by decide) (by simp) rfl rfl (vC A (l.length:Int) (by omega) (by omega) (by omega)) ?_;rintro r T' rfl;simp only [go_sem];refine aJ l.length (λi=>⟨3,[(2,.cl iS [.ptr 2 0]),(12,De l),(13,.v (.int .i64 (l.length:Int))),(14,.v (.int .i64 (i:Int)))],[some (.box [.own 3]),none,some (.box [.ptr 0 0]),some (.arr 1 (bl (A++(bD (l.length:Int)++((l.take i).map BoxM.B).flatten))))]⟩) (λ_=>True) ?_ trivial ?_ ?_
 ·simp only [go_sem,rY,zF,nR]
 ·intro i hi _;have g0:(l.map BoxM.A)[i]?=some [uv l[i].To,uv l[i].Eph,uv l[i].Body,uv l[i].Tag]:=aI _ l i hi;have hx:=hn l[i] (iN hi);have hk:=hw l[i] (iN hi);have k1:=vU hw i (by omega);have es:A++(bD (l.length:Int)++((l.take (i+1)).map BoxM.B).flatten)=(A++(bD (l.length:Int)++((l.take i).map BoxM.B).flatten))++BoxM.B l[i]:=by rw [Bi _ l i hi];simp only [jI]
  rw [es];have k3:(A++(bD (l.length:Int)++((l.take i).map BoxM.B).flatten)).length≤600000:=by simp_all;omega
  clear es;generalize A++(bD (l.length:Int)++((l.take i).map BoxM.B).flatten)=X at *
  generalize l[i]=x at *
  simp only [go_sem,bG hi,g0];refine aG [2,0,3] (aA _) (by decide) (by simp) rfl rfl (aF9 X x (by omega) hx) ?_;rintro r T' rfl;simp only [go_sem,aF (show i<9223372036854775807 by omega),jA]
 ·intro _;rw [lP];simp only [go_sem,aX (cN _),kH]
def NodeM.B (n:NodeM):List Nat:=eH n.Pub++kH BoxM.B n.Boxes
def GV {n:NodeM} (h:n.ok):n.B.length≤4020:=by
 have h1:=fM n.Pub;have h2:=kX (f:=BoxM.B) (l:=n.Boxes) (k:=40) λx _=>JJ x;have h3:=h.2.1;grind [NodeM.B,List.length_append]
def aDj (A:List Nat) (n:NodeM) (hA:A.length≤450000) (hn:n.ok):aC PQ G tO [.ag n.A,.ptr 0 0,.ptr 1 0] [some (.box [.ptr 2 0]),some (.box [.cl iS [.ptr 0 0]]),some (.box [.own 3]),some (.arr 1 (bl A))] λr T'=>T'=[some (.box [.ptr 2 0]),some (.box [.cl iS [.ptr 0 0]]),some (.box [.own 4]),none,some (.arr 1 (bl (A++n.B)))]:=by
 refine aD KY (by decide) ?_;have l1:=fM n.Pub;simp only [go_sem,NodeM.A];refine aG [2,3] (aA _) (by decide) (by simp) rfl rfl (GS A n.Pub (by omega) hn.1) ?_;rintro r T' rfl;simp only [go_sem];rw [←jA];refine aG [2,5,0] (aA _) (by decide) (by simp) rfl rfl (Q3 (A++eH n.Pub) n.Boxes (by simp only [gK];omega) (by have:=hn.2.1;omega) hn.2.2) ?_;rintro r T' rfl;simp only [go_sem,NodeM.B,jI]
def SealM.B (x:SealM):List Nat:=x.Of.B++nN x.Body
def GW {x:SealM} (h:x.ok):x.B.length≤1040:=by
 have h1:=Id.B_len x.Of;have h2:=bI (x.Body.length:Int);have h3:=h.2.1;grind [SealM.B,nN,List.length_append]
def aDk (A:List Nat) (x:SealM) (hA:A.length≤600000) (hx:x.ok):aC PQ G tQ [.ag x.A,.ptr 0 0] [some (.box [.ptr 1 0]),some (.box [.own 2]),some (.arr 1 (bl A))] λr T'=>T'=[some (.box [.ptr 1 0]),some (.box [.own 3]),none,some (.arr 1 (bl (A++x.B)))]:=by
 refine aD KZ (by decide) ?_;have l1:=Id.B_len x.Of;have l2:=hx.2.1;simp only [go_sem,SealM.A];refine aG [1,2] (aA _) (by decide) (by simp) rfl rfl (aB3 A x.Of (by omega) hx.1) ?_;rintro r T' rfl;simp only [go_sem,↓DN];rw [←jA];refine aG [1,4] (aA _) (by decide) (by simp) rfl rfl (ZC (A++x.Of.B) (bsN x.Body) x.Body (Bj hx.2.2) (GU _) (by simp only [gK];omega) (by omega)) ?_;rintro r T' rfl;simp only [go_sem,SealM.B,nN,jI]
def Ws (A:List Nat) (l:List NodeM) (hA:A.length≤400000) (hl:l.length≤10) (hn:∀ x∈l,x.ok):aC PQ G rH [.ptr 0 0,.ls 2 (l.map NodeM.A),.cl tO [.ptr 2 0,.ptr 3 0]] [some (.box [.own 1]),some (.arr 1 (bl A)),some (.box [.ptr 0 0]),some (.box [.cl iS [.ptr 2 0]])] λr T'=>T'=[some (.box [.own 4]),none,some (.box [.ptr 0 0]),some (.box [.cl iS [.ptr 2 0]]),some (.arr 1 (bl (A++kH NodeM.B l)))]:=by
 refine aD Cu (by decide) ?_;have hw:∀ x∈l,(NodeM.B x).length≤4020:=λx hm=>GV (hn x hm);have l1:=bI (l.length:Int);simp only [go_sem,aL];refine aG [0,1] (aA _) (by decide) (by simp) rfl rfl (vC A (l.length:Int) (by omega) (by omega) (by omega)) ?_;rintro r T' rfl;simp only [go_sem];refine aJ l.length (λi=>⟨4,[(2,.cl tO [.ptr 2 0,.ptr 3 0]),(12,.ls 2 (l.map NodeM.A)),(13,.v (.int .i64 (l.length:Int))),(14,.v (.int .i64 (i:Int)))],[some (.box [.own 4]),none,some (.box [.ptr 0 0]),some (.box [.cl iS [.ptr 2 0]]),some (.arr 1 (bl (A++(bD (l.length:Int)++((l.take i).map NodeM.B).flatten))))]⟩) (λ_=>True) ?_ trivial ?_ ?_
 ·simp only [go_sem,rY,zF,nR]
 ·intro i hi _;have g0:(l.map NodeM.A)[i]?=some [uv l[i].Pub,De l[i].Boxes]:=aI _ l i hi;have hx:=hn l[i] (iN hi);have hk:=hw l[i] (iN hi);have k1:=vU hw i (by omega);have es:A++(bD (l.length:Int)++((l.take (i+1)).map NodeM.B).flatten)=(A++(bD (l.length:Int)++((l.take i).map NodeM.B).flatten))++NodeM.B l[i]:=by rw [Bi _ l i hi];simp only [jI]
  rw [es];have k3:(A++(bD (l.length:Int)++((l.take i).map NodeM.B).flatten)).length≤450000:=by simp_all;omega
  clear es;generalize A++(bD (l.length:Int)++((l.take i).map NodeM.B).flatten)=X at *
  generalize l[i]=x at *
  simp only [go_sem,bG hi,g0];refine aG [2,3,0,4] (aA _) (by decide) (by simp) rfl rfl (aDj X x (by omega) hx) ?_;rintro r T' rfl;simp only [go_sem,aF (show i<9223372036854775807 by omega),jA]
 ·intro _;rw [lP];simp only [go_sem,aX (cN _),kH]
def Wt (A:List Nat) (l:List SealM) (hA:A.length≤450000) (hl:l.length≤100) (hn:∀ x∈l,x.ok):aC PQ G oK [.ptr 0 0,.ls 4 (l.map SealM.A),.cl tQ [.ptr 2 0]] [some (.box [.own 1]),some (.arr 1 (bl A)),some (.box [.ptr 0 0])] λr T'=>T'=[some (.box [.own 3]),none,some (.box [.ptr 0 0]),some (.arr 1 (bl (A++kH SealM.B l)))]:=by
 refine aD BS (by decide) ?_;have hw:∀ x∈l,(SealM.B x).length≤1040:=λx hm=>GW (hn x hm);have l1:=bI (l.length:Int);simp only [go_sem,aL];refine aG [0,1] (aA _) (by decide) (by simp) rfl rfl (vC A (l.length:Int) (by omega) (by omega) (by omega)) ?_;rintro r T' rfl;simp only [go_sem];refine aJ l.length (λi=>⟨3,[(2,.cl tQ [.ptr 2 0]),(12,.ls 4 (l.map SealM.A)),(13,.v (.int .i64 (l.length:Int))),(14,.v (.int .i64 (i:Int)))],[some (.box [.own 3]),none,some (.box [.ptr 0 0]),some (.arr 1 (bl (A++(bD (l.length:Int)++((l.take i).map SealM.B).flatten))))]⟩) (λ_=>True) ?_ trivial ?_ ?_
 ·simp only [go_sem,rY,zF,nR]
 ·intro i hi _;have g0:(l.map SealM.A)[i]?=some [.v (.int .i64 l[i].Of.a),.v (.int .i64 l[i].Of.b),.v (.int .u64 l[i].Of.c),.ls 1 (bl l[i].Body)]:=aI _ l i hi;have hx:=hn l[i] (iN hi);have hk:=hw l[i] (iN hi);have k1:=vU hw i (by omega);have es:A++(bD (l.length:Int)++((l.take (i+1)).map SealM.B).flatten)=(A++(bD (l.length:Int)++((l.take i).map SealM.B).flatten))++SealM.B l[i]:=by rw [Bi _ l i hi];simp only [jI]
  rw [es];have k3:(A++(bD (l.length:Int)++((l.take i).map SealM.B).flatten)).length≤600000:=by simp_all;omega
  clear es;generalize A++(bD (l.length:Int)++((l.take i).map SealM.B).flatten)=X at *
  generalize l[i]=x at *
  simp only [go_sem,bG hi,g0];refine aG [2,0,3] (aA _) (by decide) (by simp) rfl rfl (aDk X x (by omega) hx) ?_;rintro r T' rfl;simp only [go_sem,aF (show i<9223372036854775807 by omega),jA]
 ·intro _;rw [lP];simp only [go_sem,aX (cN _),kH]
end
end
end Hud
