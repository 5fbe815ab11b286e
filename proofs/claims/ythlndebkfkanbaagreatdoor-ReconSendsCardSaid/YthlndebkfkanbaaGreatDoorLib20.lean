import Derived.Test.YthlndebkfkanbaaGreatDoorLib19
set_option linter.all false
namespace Hud
open Go
section
open W
def JY:cF wF []=some ⟨15,[(4,none)],S [R0 4 1 [M (u 0)],R 5 10 [0,1] [c2 wW v0 (a 1 8 (c1 lQ (c1 wH v1)) (ba 1 [zU] (cw .u64 (n v1)))),J 4 v14],.ret]⟩:=by kernel_rfl
def Er:cF lO [(2,none,1)]=some ⟨8,[(2,none)],S [R0 2 1 [M z],S [R 3 5 [0] [a 1 1 z (l (f 0 (y v0))),J 2 v7],ow 2 1],.ret]⟩:=by kernel_rfl
def zW:cF bR []=some ⟨8,[],R 4 4 [0,1] [c2 cS v0 (c1 DC v1)]⟩:=by kernel_rfl
def zX:cF cS []=some ⟨31,[],S [lo 0 (S [S [R0 4 1 [ge v1 (u 128)],Ie 5 [] .skip [] (ex 0)],bw 1 (S [R0 6 12 [v0,a 1 1 (l (f 0 (y v0))) (ba 1 [.int .u8 0] (B .or (cw .u8 v1) (kc (.const (.int .u8 128))))),s 1 (f 0 (y t6)) (t 15)],R0 18 2 [A 1 (B .shr v1 (u 7))]])]),R 20 11 [0,1] [v0,a 1 1 (l (f 0 (y v0))) (ba 1 [.int .u8 0] (cw .u8 v1)),s 1 (f 0 (y (t 20))) (t 28)]]⟩:=by kernel_rfl
def Es:cF eG []=some ⟨16,[],S [R 3 0 [1] [b t1],R0 4 4 [c2 bR v0 (l (f 0 t3))],R0 8 4 [c2 bR v0 (l (f 1 t3))],R 12 4 [0,3] [c2 cS v0 (l (f 2 t3))]]⟩:=by kernel_rfl
def JZ:cF Br []=some ⟨46,[(6,none)],S [R 6 1 [2] [J 5 (b t2),M F],E0 [A 7 (kc (.func xO))],S [R 10 17 [7] [O (O (o (d3 v7 v0 (u 1) (u 2305843009213693950))) (o (d3 v7 (l (f 0 t5)) (u 1) (u 2305843009213693950)))) (o (d3 v7 (l (f 1 t5)) (u 0) (u 2305843009213693949)))],If 27 [0,5,1] (S [E0 [A 6 F],.ret])],R 29 5 [1,8,35,34,28] [c3 DD v0 (l (f 0 t5)) v1,J 28 v33,J 34 (e 0 (t 28)),e 1 (t 28),A 8 (t 34),A 9 (t 35)],D 36 10 [5,0,9] [l (f 1 t5),J 39 (l (f 0 t5)),v0,v9,J 38 (K [zm 42 9,zm 41 0,zl 40 39,zf 39 5 0] (c2 oI (u 37) (t 37))),J 43 (A 6 (eq (t 38) (c2 bQ (t 40) (K [zl 40 39,zf 39 5 0] (c2 oI (t 41) (t 42))))))],.ret]⟩:=by kernel_rfl
def MF:cF DC []=some ⟨10,[(2,none)],S [R0 2 1 [M (u 0)],R 3 7 [0] [B .xor (B .shl (cw .u64 v0) (u 1)) (cw .u64 (B .shr v0 (u 63))),J 2 v9],.ret]⟩:=by kernel_rfl
def G6:cF xO []=some ⟨15,[(6,none)],S [R0 6 1 [M F],R 7 8 [0,1,2] [N (ge v0 v1) (le v0 v2),J 6 v14],.ret]⟩:=by kernel_rfl
def MH:cF DD []=some ⟨16,[(6,none),(7,none)],S [R0 6 2 [M (u 0),M (u 0)],R 8 2 [2] [A 6 (c2 wF (kc (.const (.string (Hud.bs [115,105,103,110,101,100])))) v2)],R 10 6 [1,0] [v6,c2 wW (kc (.const (.string (Hud.bs [115,105,103])))) (j3 zU3 v1 v0 v6),A 6 (t 10),A 7 (t 15)],.ret]⟩:=by kernel_rfl
def F0:cF qM []=some ⟨17,[],S [R0 4 4 [v0,v1,c2 bR t4 (x (.lenS (zt 5)))],R 8 9 [0,1] [v0,l (f 0 (y v0)),v1,x (.apS (zt 12) (zt 13)),s 1 (f 0 (y t8)) (t 14)]]⟩:=by kernel_rfl
end
section
def aGB:∀ x,x<256→x ||| 128=x%128+128:=by decide +kernel
def R8 (x:Nat) (hx:x<256):aZ .or (.int .u8 (x:Int)) (.int .u8 128)=some (.int .u8 ((x%128+128:Nat):Int)):=by
 have h1:(BitVec.ofInt IntKind.u8.bits (x:Int) ||| BitVec.ofInt IntKind.u8.bits 128).toNat=x%128+128:=by
  have ea:(BitVec.ofInt 8 (x:Int)).toNat=x:=by simp [Cf];omega
  have eb:(BitVec.ofInt 8 (128:Int)).toNat=128:=by decide
  show (BitVec.ofInt 8 (x:Int) ||| BitVec.ofInt 8 (128:Int)).toNat=x%128+128;rw [VG,ea,eb,aGB x hx]
 simp only [aZ,if_true,h1];rw [EQ _ (by omega)]
def OH (x:Nat) (hx:x<18446744073709551616):aZ .shr (.int .u64 (x:Int)) (.int .u64 7)=some (.int .u64 ((x/128:Nat):Int)):=by
 have h2:(x:Int).fdiv (2^(min (7:Int).toNat IntKind.u64.bits))=((x/128:Nat):Int):=by
  show (x:Int).fdiv 128=_;rw [Ut _ (by decide)];first | done | omega
 have h3:¬(7:Int)<0:=by decide
 simp only [aZ,h3,if_false,h2]
 all_goals rw [bG _ (by omega)]
section
variable {G:Nat→Option (List AV)}
set_option maxHeartbeats 4000000
def Dt (A:List Nat) (k:Nat) (hA:A.length≤1000000) (hk:k<18446744073709551616):aC PQ G cS [.ptr 0 0,.v (.int .u64 (k:Int))] [some (.box [.own 1]),some (.arr 1 (bl A))] λr T'=>T'=[some (.box [.own 2]),none,some (.arr 1 (bl (A++fA k)))]:=by
 refine aF zX (by decide) ?_;simp only [go_sem];refine eF (λs=>∃ (B:List Nat) (j:Nat),B++[j]=A++fA k∧j≤127∧B.length≤A.length+9∧(s=⟨2,[(0,.ptr 0 0),(1,.v (.int .u64 (j:Int)))],[some (.box [.own 1]),some (.arr 1 (bl B))]⟩∨s=⟨2,[(0,.ptr 0 0),(1,.v (.int .u64 (j:Int)))],[some (.box [.own 2]),none,some (.arr 1 (bl B))]⟩)) ?_ ?_
 ·refine bU (λm s=>∃ (B:List Nat) (j:Nat),B++B8 m j=A++fA k∧j<2*128^m∧B.length+m≤A.length+9∧m≤9∧(s=⟨2,[(0,.ptr 0 0),(1,.v (.int .u64 (j:Int)))],[some (.box [.own 1]),some (.arr 1 (bl B))]⟩∨s=⟨2,[(0,.ptr 0 0),(1,.v (.int .u64 (j:Int)))],[some (.box [.own 2]),none,some (.arr 1 (bl B))]⟩)) 9 ⟨A,k,rfl,by omega,by omega,by omega,.inl ?_⟩ ?_
  ·simp only [go_sem]
  rintro m s ⟨B,j,hB,hj,hl,hm9,hsx⟩;by_cases hlt:127<j
  ·cases m with
   | zero=>simp at hj;omega
   | succ m =>
    have hj2:j<18446744073709551616:=CU hj (nX (U4 2 (Ms (by decide) (show m+1≤9 by omega))) (by decide));have t1:decide ((128:Int)≤(j:Int))=true:=decide_eq_true (by omega);have w1:IntKind.u8.wrap (j:Int)=((j%256:Nat):Int):=by simp [IntKind.wrap,IntKind.bits,IntKind.signed]
    have o1:=R8 (j%256) (by omega);have e1:j%256%128+128=j%128+128:=by omega
    rw [e1] at o1;have q1:=OH j hj2;have b2:B.length+1≤maxLen:=by unfold maxLen;omega
    have b3:(B.length+1)*1≤140737488355328:=by omega
    have b1:B.length+1≤140737488355328:=by omega
    have fin:B++[j%128+128]++B8 m (j/128)=A++fA k:=by rw [←hB,B8,if_pos hlt,eE];rfl
    have fin2:j/128<2*128^m:=by rw [Cj] at hj;omega
    have e2:bl B++[U8 (j%128+128)]=bl (B++[j%128+128]):=by simp only [bl,gQ,cN,eQ]
    rcases hsx with rfl | rfl
    ·simp only [go_sem,aL,ge_iff_le,t1,w1,↓o1,↓q1,b1,b2,b3];exact ⟨m,by omega,B++[j%128+128],j/128,fin,fin2,by simp;omega,by omega,.inr (by rw [←e2])⟩
    ·simp only [go_sem,aL,ge_iff_le,t1,w1,↓o1,↓q1,b1,b2,b3];exact ⟨m,by omega,B++[j%128+128],j/128,fin,fin2,by simp;omega,by omega,.inr (by rw [←e2])⟩
  ·have t1:decide ((128:Int)≤(j:Int))=false:=decide_eq_false (by omega);have fin:B++[j]=A++fA k:=by
    rw [←hB]
    cases m with
    | zero=>rfl
    | succ m=>rw [B8,if_neg hlt]
   rcases hsx with rfl | rfl
   ·simp only [go_sem,ge_iff_le,t1];exact ⟨B,j,fin,by omega,by omega,.inl rfl⟩
   ·simp only [go_sem,ge_iff_le,t1];exact ⟨B,j,fin,by omega,by omega,.inr rfl⟩
 rintro s ⟨B,j,hB,hj,hl,hsx⟩;have w1:IntKind.u8.wrap (j:Int)=(j:Int):=EQ _ (by omega);have b2:B.length+1≤maxLen:=by unfold maxLen;omega
 have b3:(B.length+1)*1≤140737488355328:=by omega
 have b1:B.length+1≤140737488355328:=by omega
 have e2:bl B++[U8 j]=bl (B++[j]):=by simp only [bl,gQ,cN,eQ]
 rcases hsx with rfl | rfl
 ·simp only [go_sem,aL,w1,b1,b2,b3];rw [←gQ,←hB,gQ];rfl
 ·simp only [go_sem,aL,w1,b1,b2,b3];rw [←gQ,←hB,gQ];rfl
def aGC (n:Int):IntKind.u64.wrap n=n%18446744073709551616:=by simp [IntKind.wrap,IntKind.bits,IntKind.signed]
def aAi (a:Nat) (ha:a<18446744073709551616):(BitVec.ofInt 64 (a:Int) ^^^ BitVec.ofInt 64 18446744073709551615).toNat=18446744073709551615-a:=by
 have e:BitVec.ofInt 64 18446744073709551615=BitVec.allOnes 64:=by decide
 rw [e,BitVec.xor_allOnes,BitVec.toNat_not];simp [Cf];omega
def aAj (n:Int) (h1:-9223372036854775808≤n) (h2:n≤9223372036854775807):aC PQ G DC [.v (.int .i64 n)] [] λr T'=>r=.v (.int .u64 ((UF n:Nat):Int))∧T'=[]:=by
 refine aF MF (by decide) ?_;have hz:=ME h1 h2;by_cases hn:n<0
 ·obtain ⟨a,ha,ha2⟩:∃ a:Nat,n*2%18446744073709551616=(a:Int)∧UF n=18446744073709551615-a:=⟨(18446744073709551616+2*n).toNat,by omega,by unfold UF;rw [if_pos hn];omega⟩
  have c1:IntKind.u64.wrap n=n+18446744073709551616:=by rw [aGC];omega
  have s1:aZ .shl (.int .u64 (n+18446744073709551616)) (.int .u64 1)=some (.int .u64 (a:Int)):=by
   have h3:¬(1:Int)<0:=by decide
   have h4:(n+18446744073709551616)*2^(min (1:Int).toNat IntKind.u64.bits)=n*2+36893488147419103232:=by
    show (n+18446744073709551616)*2=_;omega
   simp only [aZ,h3,if_false,h4,aGC];congr 2;omega
  have s2:aZ .shr (.int .i64 n) (.int .u64 63)=some (.int .i64 (-1)):=by
   have h3:¬(63:Int)<0:=by decide
   have h4:n.fdiv (2^(min (63:Int).toNat IntKind.i64.bits))=-1:=by
    show n.fdiv 9223372036854775808=-1;rw [Ut _ (by decide)];omega
   simp only [aZ,h3,if_false,h4]
   first | done | rfl
  have c2:IntKind.u64.wrap (-1)=18446744073709551615:=by decide
  have x1:aZ .xor (.int .u64 (a:Int)) (.int .u64 18446744073709551615)=some (.int .u64 ((UF n:Nat):Int)):=by
   have hx:(BitVec.ofInt IntKind.u64.bits (a:Int) ^^^ BitVec.ofInt IntKind.u64.bits 18446744073709551615).toNat=18446744073709551615-a:=aAi a (by omega);simp only [aZ,if_true,hx];rw [bG _ (by omega),ha2]
  simp only [go_sem,c1,↓s1,↓s2,c2,↓x1]
 ·obtain ⟨m,rfl⟩:∃ m:Nat,n=(m:Int):=⟨n.toNat,by omega⟩
  have hzz:UF (m:Int)=m*2:=by unfold UF;rw [if_neg hn];omega
  have c1:IntKind.u64.wrap (m:Int)=(m:Int):=bG m (by omega);have s1:aZ .shl (.int .u64 (m:Int)) (.int .u64 1)=some (.int .u64 ((m*2:Nat):Int)):=by
   have h3:¬(1:Int)<0:=by decide
   have h4:(m:Int)*2^(min (1:Int).toNat IntKind.u64.bits)=((m*2:Nat):Int):=by
    show (m:Int)*2=_;omega
   simp only [aZ,h3,if_false,h4];rw [bG _ (by omega)]
  have s2:aZ .shr (.int .i64 (m:Int)) (.int .u64 63)=some (.int .i64 0):=by
   have h3:¬(63:Int)<0:=by decide
   have h4:(m:Int).fdiv (2^(min (63:Int).toNat IntKind.i64.bits))=0:=by
    show (m:Int).fdiv 9223372036854775808=0;rw [Ut _ (by decide)];omega
   simp only [aZ,h3,if_false,h4]
   first | done | rfl
  have x1:aZ .xor (.int .u64 ((m*2:Nat):Int)) (.int .u64 0)=some (.int .u64 ((m*2:Nat):Int)):=by
   have hx:(BitVec.ofInt IntKind.u64.bits ((m*2:Nat):Int) ^^^ BitVec.ofInt IntKind.u64.bits 0).toNat=m*2:=by
    show (BitVec.ofInt 64 ((m*2:Nat):Int) ^^^ BitVec.ofInt 64 0).toNat=m*2;have:BitVec.ofInt 64 0=0#64:=by decide
    rw [this,BitVec.xor_zero];simp [Cf];omega
   simp only [aZ,if_true,hx];rw [bG _ (by omega)]
  rw [hzz];simp only [go_sem,c1,↓s1,↓s2,↓x1]
def vZ (A:List Nat) (n:Int) (hA:A.length≤1000000) (h1:-9223372036854775808≤n) (h2:n≤9223372036854775807):aC PQ G bR [.ptr 0 0,.v (.int .i64 n)] [some (.box [.own 1]),some (.arr 1 (bl A))] λr T'=>T'=[some (.box [.own 2]),none,some (.arr 1 (bl (A++bJ n)))]:=by
 refine aF zW (by decide) ?_;simp only [go_sem];refine aB (aA _) rfl (aAj n h1 h2) rfl ?_;simp only [go_sem];refine aI [0,1] (aA _) (by decide) (by simp) rfl rfl (Dt A (UF n) hA (ME h1 h2)) ?_;rintro r T' rfl;simp only [go_sem];rfl
def aCB (A:List Nat) (a b:Int) (c:Nat) (hA:A.length≤900000) (ha1:-9223372036854775808≤a) (ha2:a≤9223372036854775807) (hb1:-9223372036854775808≤b) (hb2:b≤9223372036854775807) (hc:c<18446744073709551616) :
  aC PQ G eG [.ptr 0 0,.ag [.v (.int .i64 a),.v (.int .i64 b),.v (.int .u64 (c:Int))]] [some (.box [.own 1]),some (.arr 1 (bl A))] λr T'=>T'=[some (.box [.own 2]),none,some (.arr 1 (bl (A++idB a b c)))]:=by
 refine aF Es (by decide) ?_;have l1:=bP a;have l2:=bP b;simp only [go_sem];refine aI [0,1] (aA _) (by decide) (by simp) rfl rfl (vZ A a (by omega) ha1 ha2) ?_;rintro r T' rfl;simp only [go_sem];rw [←gQ];refine aI [0,3] (aA _) (by decide) (by simp) rfl rfl (vZ (A++bJ a) b (by simp;omega) hb1 hb2) ?_;rintro r T' rfl;simp only [go_sem];rw [←gQ,←gQ];refine aI [0,4] (aA _) (by decide) (by simp) rfl rfl (Dt (A++bJ a++bJ b) c (by simp;omega) hc) ?_;rintro r T' rfl;simp only [go_sem,idB,eE]
def aAk (A:List Nat) (S:ByteArray) (b:List Nat) (hS:jH S=bl b) (hs:S.size=b.length) (hA:A.length≤900000) (hl:b.length≤1000000):aC PQ G qM [.ptr 0 0,.v (.string S)] [some (.box [.own 1]),some (.arr 1 (bl A))] λr T'=>T'=[some (.box [.own 2]),none,some (.arr 1 (bl (A++(bJ (b.length:Int)++b))))]:=by
 refine aF F0 (by decide) ?_;have l1:=bP (b.length:Int);have b1:(A++bJ (b.length:Int)).length+b.length≤140737488355328:=by rw [dU];omega
 have b2:(A++bJ (b.length:Int)).length+b.length≤maxLen:=by rw [dU];unfold maxLen;omega
 simp only [go_sem,hs];refine aI [0,1] (aA _) (by decide) (by simp) rfl rfl (vZ A (b.length:Int) (by omega) (by omega) (by omega)) ?_;rintro r T' rfl;rw [dU] at b1 b2;simp only [go_sem,aL,dU,hs,hS,b1,b2,gQ,eE]
def aEU (k:Nat) (hk:k<18446744073709551616):aC PQ G cS [.ptr 0 0,.v (.int .u64 (k:Int))] [some (.box [.v (.slice none 0 0)])] λr T'=>T'=[some (.box [.own 1]),some (.arr 1 (bl (fA k)))]:=by
 refine aF zX (by decide) ?_;simp only [go_sem];refine eF (λs=>∃ (B:List Nat) (j:Nat),B++[j]=fA k∧j≤127∧B.length≤9∧((B=[]∧s=⟨1,[(0,.ptr 0 0),(1,.v (.int .u64 (j:Int)))],[some (.box [.v (.slice none 0 0)])]⟩)∨s=⟨1,[(0,.ptr 0 0),(1,.v (.int .u64 (j:Int)))],[some (.box [.own 1]),some (.arr 1 (bl B))]⟩)) ?_ ?_
 ·refine bU (λm s=>∃ (B:List Nat) (j:Nat),B++B8 m j=fA k∧j<2*128^m∧B.length+m≤9∧m≤9∧((B=[]∧s=⟨1,[(0,.ptr 0 0),(1,.v (.int .u64 (j:Int)))],[some (.box [.v (.slice none 0 0)])]⟩)∨s=⟨1,[(0,.ptr 0 0),(1,.v (.int .u64 (j:Int)))],[some (.box [.own 1]),some (.arr 1 (bl B))]⟩)) 9 ⟨[],k,rfl,by omega,by decide,by omega,.inl ⟨rfl,?_⟩⟩ ?_
  ·simp only [go_sem]
  rintro m s ⟨B,j,hB,hj,hl,hm9,hsx⟩;by_cases hlt:127<j
  ·cases m with
   | zero=>simp at hj;omega
   | succ m =>
    have hj2:j<18446744073709551616:=CU hj (nX (U4 2 (Ms (by decide) (show m+1≤9 by omega))) (by decide));have t1:decide ((128:Int)≤(j:Int))=true:=decide_eq_true (by omega);have w1:IntKind.u8.wrap (j:Int)=((j%256:Nat):Int):=by simp [IntKind.wrap,IntKind.bits,IntKind.signed]
    have o1:=R8 (j%256) (by omega);have e1:j%256%128+128=j%128+128:=by omega
    rw [e1] at o1;have q1:=OH j hj2;have b2:B.length+1≤maxLen:=by unfold maxLen;omega
    have b3:(B.length+1)*1≤140737488355328:=by omega
    have b1:B.length+1≤140737488355328:=by omega
    have fin:B++[j%128+128]++B8 m (j/128)=fA k:=by rw [←hB,B8,if_pos hlt,eE];rfl
    have fin2:j/128<2*128^m:=by rw [Cj] at hj;omega
    have e2:bl B++[U8 (j%128+128)]=bl (B++[j%128+128]):=by simp only [bl,gQ,cN,eQ]
    rcases hsx with ⟨rfl,rfl⟩ | rfl
    ·simp only [go_sem,aL,ge_iff_le,t1,w1,↓o1,↓q1,show 1≤maxLen by decide];exact ⟨m,by omega,[j%128+128],j/128,fin,fin2,by simp at hl ⊢;omega,by omega,.inr rfl⟩
    ·simp only [go_sem,aL,ge_iff_le,t1,w1,↓o1,↓q1,b1,b2,b3];exact ⟨m,by omega,B++[j%128+128],j/128,fin,fin2,by simp;omega,by omega,.inr (by rw [←e2])⟩
  ·have t1:decide ((128:Int)≤(j:Int))=false:=decide_eq_false (by omega);have fin:B++[j]=fA k:=by
    rw [←hB]
    cases m with
    | zero=>rfl
    | succ m=>rw [B8,if_neg hlt]
   rcases hsx with ⟨rfl,rfl⟩ | rfl
   ·simp only [go_sem,ge_iff_le,t1];exact ⟨[],j,fin,by omega,by simp,.inl ⟨rfl,rfl⟩⟩
   ·simp only [go_sem,ge_iff_le,t1];exact ⟨B,j,fin,by omega,by omega,.inr rfl⟩
 rintro s ⟨B,j,hB,hj,hl,hsx⟩;have w1:IntKind.u8.wrap (j:Int)=(j:Int):=EQ _ (by omega);have b2:B.length+1≤maxLen:=by unfold maxLen;omega
 have b3:(B.length+1)*1≤140737488355328:=by omega
 have b1:B.length+1≤140737488355328:=by omega
 have e2:bl B++[U8 j]=bl (B++[j]):=by simp only [bl,gQ,cN,eQ]
 rcases hsx with ⟨rfl,rfl⟩ | rfl
 ·rw [←hB];simp only [go_sem,aL,w1,show 1≤maxLen by decide]
 ·simp only [go_sem,aL,w1,b1,b2,b3];rw [←hB];simp only [bl,gQ,cN,eQ]
def aEV (n:Int) (h1:-9223372036854775808≤n) (h2:n≤9223372036854775807):aC PQ G bR [.ptr 0 0,.v (.int .i64 n)] [some (.box [.v (.slice none 0 0)])] λr T'=>T'=[some (.box [.own 1]),some (.arr 1 (bl (bJ n)))]:=by
 refine aF zW (by decide) ?_;simp only [go_sem];refine aB (aA _) rfl (aAj n h1 h2) rfl ?_;simp only [go_sem];refine aI [0] (aA _) (by decide) (by simp) rfl rfl (aEU (UF n) (ME h1 h2)) ?_;rintro r T' rfl;simp only [go_sem];rfl
def Pr (A:List Nat) (hA:A.length≤1000000):aC PQ G lO [.ptr 0 0] [some (.box [.own 1]),some (.arr 1 (bl A))] λr T'=>r=.own 2∧T'=[some (.box [.own 1]),some (.arr 1 (bl A)),some (.arr 1 (bl A))]:=by
 refine aF Er (by decide) ?_;have b1:A.length≤140737488355328:=by omega
 have b2:A.length≤maxLen:=by unfold maxLen;omega
 have b3:A.length*1≤140737488355328:=by omega
 simp only [go_sem,aL,b1,b2,b3]
end
end
section
def cM (l:List Int):List Nat:=(l.map bJ).flatten
def kL (l:List Nat):List Nat:=(l.map fA).flatten
def MI (l:List Int) (x:Int):cM (l++[x])=cM l++bJ x:=by simp [cM]
def UG (l:List Nat) (x:Nat):kL (l++[x])=kL l++fA x:=by simp [kL]
def jX:∀ l:List Int,(cM l).length≤10*l.length
 | []=>by simp [cM]
 | x::l=>by
  have:=jX l;have h:=bP x;simp only [cM,cN,qP,dU,kS] at *
  omega
def wZ:∀ l:List Nat,(kL l).length≤10*l.length
 | []=>by simp [kL]
 | x::l=>by
  have:=wZ l;have h:=fF x;simp only [kL,cN,qP,dU,kS] at *
  omega
section
variable {G:Nat→Option (List AV)}
set_option maxHeartbeats 4000000
def Ps (l:List Int) (hl:l.length≤1000000) (hn:∀ n∈l,tK n):aC PQ G tX [AM l] [] λr T'=>r=.own 0∧T'=[some (.arr 1 (bl (cM l)))]:=by
 refine aF M5 (by decide) ?_;simp only [go_sem,aL];refine aO l.length (λi=>⟨0,[(0,AM l),(3,.own 0),(4,.v (.int .i64 (i:Int)))],[some (.arr 1 (bl (cM (l.take i))))]⟩) (λ_=>True) ?_ trivial ?_ ?_
 ·simp only [go_sem];rfl
 ·intro i hi _;have g0:(l.map λn=>[iv n])[i]?=some [iv l[i]]:=aP _ l i hi;have hx:=hn l[i] (jY hi);have hs:cM (l.take (i+1))=cM (l.take i)++bJ l[i]:=by rw [oT hi,MI]
  have k1:=jX (l.take i);have k2:=bP l[i];rw [hs];rw [hZ] at k1;generalize cM (l.take i)=X at *
  generalize l[i]=x at *
  have b2:X.length+(bJ x).length≤maxLen:=by unfold maxLen;omega
  have b3:(X.length+(bJ x).length)*1≤140737488355328:=by omega
  have b1:X.length+(bJ x).length≤140737488355328:=by omega
  simp only [go_sem,aL,aT hi,g0];refine aS (aA _) rfl (sX x hx.1 hx.2) ?_;simp only [go_sem,aL,b1,b2,b3,aG (show i<9223372036854775807 by omega),gQ]
 ·intro _;rw [kH];simp only [go_sem,aL,aX (cZ _)]
def aAl (l:List Nat) (hl:l.length≤1000000) (hn:∀ n∈l,n<18446744073709551616):aC PQ G Bp [.ls 1 (ul l)] [] λr T'=>r=.own 0∧T'=[some (.arr 1 (bl (kL l)))]:=by
 refine aF M6 (by decide) ?_;simp only [go_sem,aL];refine aO l.length (λi=>⟨0,[(0,.ls 1 (ul l)),(3,.own 0),(4,.v (.int .i64 (i:Int)))],[some (.arr 1 (bl (kL (l.take i))))]⟩) (λ_=>True) ?_ trivial ?_ ?_
 ·simp only [go_sem];rfl
 ·intro i hi _;have g0:(ul l)[i]?=some [.v (.int .u64 ((l[i]:Nat):Int))]:=aP _ l i hi;have hx:=hn l[i] (jY hi);have hs:kL (l.take (i+1))=kL (l.take i)++fA l[i]:=by rw [oT hi,UG]
  have k1:=wZ (l.take i);have k2:=fF l[i];rw [hs];rw [hZ] at k1;generalize kL (l.take i)=X at *
  generalize l[i]=x at *
  have b2:X.length+(fA x).length≤maxLen:=by unfold maxLen;omega
  have b3:(X.length+(fA x).length)*1≤140737488355328:=by omega
  have b1:X.length+(fA x).length≤140737488355328:=by omega
  simp only [go_sem,aL,aT hi,g0];refine aS (aA _) rfl (OF x hx) ?_;simp only [go_sem,aL,b1,b2,b3,aG (show i<9223372036854775807 by omega),gQ]
 ·intro _;rw [kH];simp only [go_sem,aL,aX (cZ _)]
def BoxM.B (b:BoxM):List Nat:=kL [b.To,b.Eph,b.Body,b.Tag]
def sY (l:List BoxM):List Nat:=bJ (l.length:Int)++(l.map BoxM.B).flatten
def G7:∀ l:List BoxM,((l.map BoxM.B).flatten).length≤40*l.length
 | []=>by simp
 | x::l=>by
  have:=G7 l;have h:x.B.length≤10*4:=wZ [x.To,x.Eph,x.Body,x.Tag];simp only [cN,qP,dU,kS] at *
  omega
def V9 (l:List BoxM) (hl:l.length≤1000000) (hn:∀ b∈l,b.ok):aC PQ G zD [C0 l] [] λr T'=>r=.own 0∧T'=[some (.arr 1 (bl (sY l)))]:=by
 refine aF LP (by decide) ?_;have h0:=bP (l.length:Int);simp only [go_sem,aL];refine aS (aA _) rfl (sX (l.length:Int) (by omega) (by omega)) ?_;simp only [go_sem];refine aO l.length (λi=>⟨0,[(0,C0 l),(3,.own 0),(4,.v (.int .i64 (i:Int)))],[some (.arr 1 (bl (bJ (l.length:Int)++((l.take i).map BoxM.B).flatten)))]⟩) (λ_=>True) ?_ trivial ?_ ?_
 ·simp only [go_sem,mL,yM,kT]
 ·intro i hi _;have g0:(l.map BoxM.A)[i]?=some l[i].A:=aP _ l i hi;have hx:=hn l[i] (jY hi);have hs:bJ (l.length:Int)++((l.take (i+1)).map BoxM.B).flatten=(bJ (l.length:Int)++((l.take i).map BoxM.B).flatten)++l[i].B:=by
   rw [oT hi,gQ,NX,eE];simp only [cN,eQ,qP,yM,kT]
  have k1:=G7 (l.take i);rw [hZ] at k1;have k2:l[i].B.length≤10*4:=wZ [l[i].To,l[i].Eph,l[i].Body,l[i].Tag];have k3:(bJ (l.length:Int)++((l.take i).map BoxM.B).flatten).length≤40000010:=by rw [dU];omega
  rw [hs];generalize bJ (l.length:Int)++((l.take i).map BoxM.B).flatten=X at *
  generalize l[i]=x at *
  have b2:X.length+x.B.length≤maxLen:=by unfold maxLen;omega
  have b3:(X.length+x.B.length)*1≤140737488355328:=by omega
  have b1:X.length+x.B.length≤140737488355328:=by omega
  have g1:(l.map BoxM.A)[i]?=some [uv x.To,uv x.Eph,uv x.Body,uv x.Tag]:=g0;simp only [go_sem,aL,aT hi,hi,g1];refine bS (aA _) rfl rfl (aAl [x.To,x.Eph,x.Body,x.Tag] (by simp) (λn hm=>?_)) ?_
  ·simp only [gK,pQ,or_false] at hm;obtain ⟨h1,h2,h3,h4⟩:=hx;rcases hm with rfl | rfl | rfl | rfl<;>assumption
  rintro r T' ⟨rfl,rfl⟩;refine ⟨by simp only [eY],by simp only [gZ,tQ,forall_eq,bl,dE];rintro e ⟨n,_,rfl⟩ c hc;exact ⟨_,gZ.1 hc⟩,?_⟩;have hB:kL [x.To,x.Eph,x.Body,x.Tag]=x.B:=rfl;rw [hB];simp only [go_sem,aL,b1,b2,b3,aG (show i<9223372036854775807 by omega),gQ]
 ·intro _;rw [kH];simp only [go_sem,aL,aX (cZ _),sY]
def oQ (b:List Nat):List Nat:=bJ (b.length:Int)++b
def aAm (S:ByteArray) (b:List Nat) (hS:jH S=bl b) (hs:S.size=b.length) (hl:b.length≤1000000):aC PQ G Bo [.v (.string S)] [] λr T'=>r=.own 0∧T'=[some (.arr 1 (bl (oQ b)))]:=by
 refine aF NP (by decide) ?_;have l1:=bP (b.length:Int);have b1:(bJ (b.length:Int)).length+b.length≤140737488355328:=by omega
 have b2:(bJ (b.length:Int)).length+b.length≤maxLen:=by unfold maxLen;omega
 simp only [go_sem,hs];refine aS (aA _) rfl (sX (b.length:Int) (by omega) (by omega)) ?_;simp only [go_sem,aL,hs,hS,b1,b2,oQ,gQ]
end
end
section
def Id.B (x:Id):List Nat:=idB x.a x.b x.c.toNat
def lI {α:Type} (f:α→List Nat) (l:List α):List Nat:=bJ (l.length:Int)++(l.map f).flatten
def MJ {α:Type} {f:α→List Nat} {l:List α} {k:Nat} (h:∀ x∈l,(f x).length≤k):((l.map f).flatten).length≤k*l.length:=by
 induction l with
 | nil=>simp
 | cons x l ih =>
  have h1:=h x FO;have h2:=ih λy hy=>h y (FL _ hy);simp only [cN,qP,dU,kS,Nat.mul_succ];omega
def lX {α:Type} {f:α→List Nat} {l:List α} {k:Nat} (h:∀ x∈l,(f x).length≤k):(lI f l).length≤10+k*l.length:=by
 have h1:=bP (l.length:Int);have h2:=MJ h;unfold lI;rw [dU];omega
def CA {α:Type} (f:α→List Nat) (l:List α) (i:Nat) (h:i<l.length):((l.take (i+1)).map f).flatten=((l.take i).map f).flatten++f l[i]:=by
 rw [oT h,gQ,NX];simp only [cN,eQ,qP,yM,kT]
def wO {α:Type} {f:α→List Nat} {l:List α} {k:Nat} (h:∀ x∈l,(f x).length≤k) (i:Nat) (hi:i≤l.length):(((l.take i).map f).flatten).length≤k*l.length:=by
 refine nX (MJ (l:=l.take i) λx hx=>h x (CS hx)) (U4 k ?_);rw [hZ];omega
def Id.B_len (x:Id):x.B.length≤30:=by
 have h1:=bP x.a;have h2:=bP x.b;have h3:=fF x.c.toNat;simp only [Id.B,idB,dU];omega
def bsN (b:List Nat):ByteArray:=⟨(b.map UInt8.ofNat).toArray⟩
def bT:∀ b:List Nat,Ia (bl b)=some (b.map UInt8.ofNat)
 | []=>rfl
 | x::b=>by
  have h:=bT b;simp only [bl] at h;simp only [bl,cN,Ia,h,KK]
def CB {b:List Nat} (h:wC b):jH (bsN b)=bl b:=by
 simp only [jH,bsN,Ee,bl];refine Mt λx hx=>?_;have:=h x hx;have e:(UInt8.ofNat x).toNat=x:=by rw [UInt8.toNat_ofNat'];omega
 simp only [Function.comp,e]
def G8 (b:List Nat):(bsN b).size=b.length:=by simp [bsN,ByteArray.size]
section
variable {G:Nat→Option (List AV)}
set_option maxHeartbeats 4000000
def aAn (A:List Nat) (l:List Int) (hA:A.length≤500000) (hl:l.length≤1000) (hn:∀ x∈l,tK x):aC PQ G Bn [.ptr 0 0,AM l,.bm bR 1 [.ptr 0 0]] [some (.box [.own 1]),some (.arr 1 (bl A))] λr T'=>T'=[some (.box [.own 2]),none,some (.arr 1 (bl (A++lI bJ l)))]:=by
 refine aF JH (by decide) ?_;have hw:∀ x∈l,(bJ x).length≤10:=λx _=>bP x;have l1:=bP (l.length:Int);simp only [go_sem,aL];refine aI [0,1] (aA _) (by decide) (by simp) rfl rfl (vZ A (l.length:Int) (by omega) (by omega) (by omega)) ?_;rintro r T' rfl;simp only [go_sem];refine aO l.length (λi=>⟨2,[(2,.bm bR 1 [.ptr 0 0]),(12,AM l),(13,.v (.int .i64 (l.length:Int))),(14,.v (.int .i64 (i:Int)))],[some (.box [.own 2]),none,some (.arr 1 (bl (A++(bJ (l.length:Int)++((l.take i).map bJ).flatten))))]⟩) (λ_=>True) ?_ trivial ?_ ?_
 ·simp only [go_sem,mL,yM,kT]
 ·intro i hi _;have g0:(l.map λn=>[iv n])[i]?=some [iv l[i]]:=aP _ l i hi;have hx:=hn l[i] (jY hi);have hk:=hw l[i] (jY hi);have k1:=wO hw i (by omega);have es:A++(bJ (l.length:Int)++((l.take (i+1)).map bJ).flatten)=(A++(bJ (l.length:Int)++((l.take i).map bJ).flatten))++bJ l[i]:=by rw [CA _ l i hi];simp only [eE]
  rw [es];have k3:(A++(bJ (l.length:Int)++((l.take i).map bJ).flatten)).length≤600000:=by rw [dU,dU];omega
  clear es;generalize A++(bJ (l.length:Int)++((l.take i).map bJ).flatten)=X at *
  generalize l[i]=x at *
  simp only [go_sem,aL,aT hi,hi,g0];refine aI [0,2] (aA _) (by decide) (by simp) rfl rfl (vZ X x (by omega) hx.1 hx.2) ?_;rintro r T' rfl;simp only [go_sem,aG (show i<9223372036854775807 by omega),gQ]
 ·intro _;rw [kH];simp only [go_sem,aL,aX (cZ _),lI]
def aAo (A:List Nat) (l:List Nat) (hA:A.length≤500000) (hl:l.length≤1000) (hn:∀ x∈l,x<18446744073709551616):aC PQ G vM [.ptr 0 0,.ls 1 (ul l),.bm cS 1 [.ptr 0 0]] [some (.box [.own 1]),some (.arr 1 (bl A))] λr T'=>T'=[some (.box [.own 2]),none,some (.arr 1 (bl (A++lI fA l)))]:=by
 refine aF Fl (by decide) ?_;have hw:∀ x∈l,(fA x).length≤10:=λx _=>fF x;have l1:=bP (l.length:Int);simp only [go_sem,aL];refine aI [0,1] (aA _) (by decide) (by simp) rfl rfl (vZ A (l.length:Int) (by omega) (by omega) (by omega)) ?_;rintro r T' rfl;simp only [go_sem];refine aO l.length (λi=>⟨2,[(2,.bm cS 1 [.ptr 0 0]),(12,.ls 1 (ul l)),(13,.v (.int .i64 (l.length:Int))),(14,.v (.int .i64 (i:Int)))],[some (.box [.own 2]),none,some (.arr 1 (bl (A++(bJ (l.length:Int)++((l.take i).map fA).flatten))))]⟩) (λ_=>True) ?_ trivial ?_ ?_
 ·simp only [go_sem,mL,yM,kT]
 ·intro i hi _;have g0:(ul l)[i]?=some [.v (.int .u64 ((l[i]:Nat):Int))]:=aP _ l i hi;have hx:=hn l[i] (jY hi);have hk:=hw l[i] (jY hi);have k1:=wO hw i (by omega);have es:A++(bJ (l.length:Int)++((l.take (i+1)).map fA).flatten)=(A++(bJ (l.length:Int)++((l.take i).map fA).flatten))++fA l[i]:=by rw [CA _ l i hi];simp only [eE]
  rw [es];have k3:(A++(bJ (l.length:Int)++((l.take i).map fA).flatten)).length≤600000:=by rw [dU,dU];omega
  clear es;generalize A++(bJ (l.length:Int)++((l.take i).map fA).flatten)=X at *
  generalize l[i]=x at *
  simp only [go_sem,aL,aT hi,hi,g0];refine aI [0,2] (aA _) (by decide) (by simp) rfl rfl (Dt X x (by omega) hx) ?_;rintro r T' rfl;simp only [go_sem,aG (show i<9223372036854775807 by omega),gQ]
 ·intro _;rw [kH];simp only [go_sem,aL,aX (cZ _),lI]
def aCC (A:List Nat) (x:Id) (hA:A.length≤900000) (hx:x.ok):aC PQ G eG [.ptr 0 0,.ag [.v (.int .i64 x.a),.v (.int .i64 x.b),.v (.int .u64 x.c)]] [some (.box [.own 1]),some (.arr 1 (bl A))] λr T'=>T'=[some (.box [.own 2]),none,some (.arr 1 (bl (A++x.B)))]:=by
 have:=aCB (G:=G) A x.a x.b x.c.toNat hA hx.1.1 hx.1.2 hx.2.1.1 hx.2.1.2 (by have:=hx.2.2;omega);rwa [U5 hx.2.2.1] at this
def aCD (A:List Nat) (l:List Id) (hA:A.length≤500000) (hl:l.length≤1000) (hn:∀ x∈l,x.ok):aC PQ G qU [.ptr 0 0,ids l,.bm eG 1 [.ptr 0 0]] [some (.box [.own 1]),some (.arr 1 (bl A))] λr T'=>T'=[some (.box [.own 2]),none,some (.arr 1 (bl (A++lI Id.B l)))]:=by
 refine aF CY (by decide) ?_;have hw:∀ x∈l,(Id.B x).length≤30:=λx _=>Id.B_len x;have l1:=bP (l.length:Int);simp only [go_sem,aL];refine aI [0,1] (aA _) (by decide) (by simp) rfl rfl (vZ A (l.length:Int) (by omega) (by omega) (by omega)) ?_;rintro r T' rfl;simp only [go_sem];refine aO l.length (λi=>⟨2,[(2,.bm eG 1 [.ptr 0 0]),(12,ids l),(13,.v (.int .i64 (l.length:Int))),(14,.v (.int .i64 (i:Int)))],[some (.box [.own 2]),none,some (.arr 1 (bl (A++(bJ (l.length:Int)++((l.take i).map Id.B).flatten))))]⟩) (λ_=>True) ?_ trivial ?_ ?_
 ·simp only [go_sem,mL,yM,kT]
 ·intro i hi _;have g0:(l.map Id.A)[i]?=some [.v (.int .i64 l[i].a),.v (.int .i64 l[i].b),.v (.int .u64 l[i].c)]:=aP _ l i hi;have hx:=hn l[i] (jY hi);have hk:=hw l[i] (jY hi);have k1:=wO hw i (by omega);have es:A++(bJ (l.length:Int)++((l.take (i+1)).map Id.B).flatten)=(A++(bJ (l.length:Int)++((l.take i).map Id.B).flatten))++Id.B l[i]:=by rw [CA _ l i hi];simp only [eE]
  rw [es];have k3:(A++(bJ (l.length:Int)++((l.take i).map Id.B).flatten)).length≤600000:=by rw [dU,dU];omega
  clear es;generalize A++(bJ (l.length:Int)++((l.take i).map Id.B).flatten)=X at *
  generalize l[i]=x at *
  simp only [go_sem,aL,aT hi,hi,g0];refine aI [0,2] (aA _) (by decide) (by simp) rfl rfl (aCC X x (by omega) hx) ?_;rintro r T' rfl;simp only [go_sem,aG (show i<9223372036854775807 by omega),gQ]
 ·intro _;rw [kH];simp only [go_sem,aL,aX (cZ _),lI]
def aGD (A:List Nat) (b:BoxM) (hA:A.length≤600000) (hb:b.ok):aC PQ G jP [.ag b.A,.ptr 0 0] [some (.box [.ptr 1 0]),some (.box [.own 2]),some (.arr 1 (bl A))] λr T'=>T'=[some (.box [.ptr 1 0]),some (.box [.own 3]),none,some (.arr 1 (bl (A++b.B)))]:=by
 refine aF LW (by decide) ?_;obtain ⟨h1,h2,h3,h4⟩:=hb;have l1:=fF b.To;have l2:=fF b.Eph;have l3:=fF b.Body;have l4:=fF b.Tag;simp only [go_sem,BoxM.A]
 refine aO 4 (λi=>match i with
  | 0=>⟨3,[(1,.ptr 0 0),(13,.own 3),(14,.v (.int .i64 4)),(15,.v (.int .i64 0))],[some (.box [.ptr 1 0]),some (.box [.own 2]),some (.arr 1 (bl A)),some (.arr 1 [[uv b.To],[uv b.Eph],[uv b.Body],[uv b.Tag]])]⟩
  | i+1=>⟨3,[(1,.ptr 0 0),(13,.own 3),(14,.v (.int .i64 4)),(15,.v (.int .i64 ((i+1:Nat):Int)))],[some (.box [.ptr 1 0]),some (.box [.own 4]),none,some (.arr 1 [[uv b.To],[uv b.Eph],[uv b.Body],[uv b.Tag]]),some (.arr 1 (bl (A++kL ([b.To,b.Eph,b.Body,b.Tag].take (i+1)))))]⟩) (λ_=>True) ?_ trivial ?_ ?_
 ·simp only [go_sem]
 ·intro i hi _;rcases i with _ | _ | _ | _ | i
  ·simp only [go_sem];refine aI [1,2] (aA _) (by decide) (by simp) rfl rfl (Dt A b.To (by omega) h1) ?_;rintro r T' rfl;simp only [go_sem,kL,qP,yM]
  ·simp only [go_sem,kL,qP,yM];rw [←gQ];refine aI [1,4] (aA _) (by decide) (by simp) rfl rfl (Dt (A++fA b.To) b.Eph (by simp only [dU];omega) h2) ?_;rintro r T' rfl;simp only [go_sem,eE,kL,qP,yM,gQ]
  ·simp only [go_sem,kL,qP,yM];rw [←gQ,←gQ];refine aI [1,4] (aA _) (by decide) (by simp) rfl rfl (Dt (A++(fA b.To++fA b.Eph)) b.Body (by simp only [dU];omega) h3) ?_;rintro r T' rfl;simp only [go_sem,eE,kL,qP,yM,gQ]
  ·simp only [go_sem,kL,qP,yM];rw [←gQ,←gQ,←gQ];refine aI [1,4] (aA _) (by decide) (by simp) rfl rfl (Dt (A++(fA b.To++(fA b.Eph++fA b.Body))) b.Tag (by simp only [dU];omega) h4) ?_;rintro r T' rfl;simp only [go_sem,eE,kL,qP,yM,gQ]
  ·omega
 ·intro _;simp only [go_sem,BoxM.B]
def J3 (b:BoxM):b.B.length≤40:=wZ [b.To,b.Eph,b.Body,b.Tag]
def R9 (A:List Nat) (l:List BoxM) (hA:A.length≤500000) (hl:l.length≤1000) (hn:∀ x∈l,x.ok):aC PQ G pD [.ptr 0 0,C0 l,.cl jP [.ptr 2 0]] [some (.box [.own 1]),some (.arr 1 (bl A)),some (.box [.ptr 0 0])] λr T'=>T'=[some (.box [.own 3]),none,some (.box [.ptr 0 0]),some (.arr 1 (bl (A++lI BoxM.B l)))]:=by
 refine aF Ej (by decide) ?_;have hw:∀ x∈l,(BoxM.B x).length≤40:=λx _=>J3 x;have l1:=bP (l.length:Int);simp only [go_sem,aL];refine aI [0,1] (aA _) (by decide) (by simp) rfl rfl (vZ A (l.length:Int) (by omega) (by omega) (by omega)) ?_;rintro r T' rfl;simp only [go_sem];refine aO l.length (λi=>⟨3,[(2,.cl jP [.ptr 2 0]),(12,C0 l),(13,.v (.int .i64 (l.length:Int))),(14,.v (.int .i64 (i:Int)))],[some (.box [.own 3]),none,some (.box [.ptr 0 0]),some (.arr 1 (bl (A++(bJ (l.length:Int)++((l.take i).map BoxM.B).flatten))))]⟩) (λ_=>True) ?_ trivial ?_ ?_
 ·simp only [go_sem,mL,yM,kT]
 ·intro i hi _;have g0:(l.map BoxM.A)[i]?=some [uv l[i].To,uv l[i].Eph,uv l[i].Body,uv l[i].Tag]:=aP _ l i hi;have hx:=hn l[i] (jY hi);have hk:=hw l[i] (jY hi);have k1:=wO hw i (by omega);have es:A++(bJ (l.length:Int)++((l.take (i+1)).map BoxM.B).flatten)=(A++(bJ (l.length:Int)++((l.take i).map BoxM.B).flatten))++BoxM.B l[i]:=by rw [CA _ l i hi];simp only [eE]
  rw [es];have k3:(A++(bJ (l.length:Int)++((l.take i).map BoxM.B).flatten)).length≤600000:=by rw [dU,dU];omega
  clear es;generalize A++(bJ (l.length:Int)++((l.take i).map BoxM.B).flatten)=X at *
  generalize l[i]=x at *
  simp only [go_sem,aL,aT hi,hi,g0];refine aI [2,0,3] (aA _) (by decide) (by simp) rfl rfl (aGD X x (by omega) hx) ?_;rintro r T' rfl;simp only [go_sem,aG (show i<9223372036854775807 by omega),gQ]
 ·intro _;rw [kH];simp only [go_sem,aL,aX (cZ _),lI]
def NodeM.B (n:NodeM):List Nat:=fA n.Pub++lI BoxM.B n.Boxes
def G9 {n:NodeM} (h:n.ok):n.B.length≤4020:=by
 have h1:=fF n.Pub;have h2:=lX (f:=BoxM.B) (l:=n.Boxes) (k:=40) λx _=>J3 x;have h3:=h.2.1;simp only [NodeM.B,dU];omega
def aEW (A:List Nat) (n:NodeM) (hA:A.length≤450000) (hn:n.ok):aC PQ G uW [.ag n.A,.ptr 0 0,.ptr 1 0] [some (.box [.ptr 2 0]),some (.box [.cl jP [.ptr 0 0]]),some (.box [.own 3]),some (.arr 1 (bl A))] λr T'=>T'=[some (.box [.ptr 2 0]),some (.box [.cl jP [.ptr 0 0]]),some (.box [.own 4]),none,some (.arr 1 (bl (A++n.B)))]:=by
 refine aF LX (by decide) ?_;have l1:=fF n.Pub;simp only [go_sem,NodeM.A];refine aI [2,3] (aA _) (by decide) (by simp) rfl rfl (Dt A n.Pub (by omega) hn.1) ?_;rintro r T' rfl;simp only [go_sem];rw [←gQ];refine aI [2,5,0] (aA _) (by decide) (by simp) rfl rfl (R9 (A++fA n.Pub) n.Boxes (by simp only [dU];omega) (by have:=hn.2.1;omega) hn.2.2) ?_;rintro r T' rfl;simp only [go_sem,NodeM.B,eE]
def SealM.B (x:SealM):List Nat:=x.Of.B++oQ x.Body
def HA {x:SealM} (h:x.ok):x.B.length≤1040:=by
 have h1:=Id.B_len x.Of;have h2:=bP (x.Body.length:Int);have h3:=h.2.1;simp only [SealM.B,oQ,dU];omega
def aEX (A:List Nat) (x:SealM) (hA:A.length≤600000) (hx:x.ok):aC PQ G uX [.ag x.A,.ptr 0 0] [some (.box [.ptr 1 0]),some (.box [.own 2]),some (.arr 1 (bl A))] λr T'=>T'=[some (.box [.ptr 1 0]),some (.box [.own 3]),none,some (.arr 1 (bl (A++x.B)))]:=by
 refine aF LY (by decide) ?_;have l1:=Id.B_len x.Of;have l2:=hx.2.1;simp only [go_sem,SealM.A];refine aI [1,2] (aA _) (by decide) (by simp) rfl rfl (aCC A x.Of (by omega) hx.1) ?_;rintro r T' rfl;simp only [go_sem,↓bT];rw [←gQ];refine aI [1,4] (aA _) (by decide) (by simp) rfl rfl (aAk (A++x.Of.B) (bsN x.Body) x.Body (CB hx.2.2) (G8 _) (by simp only [dU];omega) (by omega)) ?_;rintro r T' rfl;simp only [go_sem,SealM.B,oQ,eE]
def Xu (A:List Nat) (l:List NodeM) (hA:A.length≤400000) (hl:l.length≤10) (hn:∀ x∈l,x.ok):aC PQ G sI [.ptr 0 0,.ls 2 (l.map NodeM.A),.cl uW [.ptr 2 0,.ptr 3 0]] [some (.box [.own 1]),some (.arr 1 (bl A)),some (.box [.ptr 0 0]),some (.box [.cl jP [.ptr 2 0]])] λr T'=>T'=[some (.box [.own 4]),none,some (.box [.ptr 0 0]),some (.box [.cl jP [.ptr 2 0]]),some (.arr 1 (bl (A++lI NodeM.B l)))]:=by
 refine aF DF (by decide) ?_;have hw:∀ x∈l,(NodeM.B x).length≤4020:=λx hm=>G9 (hn x hm);have l1:=bP (l.length:Int);simp only [go_sem,aL];refine aI [0,1] (aA _) (by decide) (by simp) rfl rfl (vZ A (l.length:Int) (by omega) (by omega) (by omega)) ?_;rintro r T' rfl;simp only [go_sem];refine aO l.length (λi=>⟨4,[(2,.cl uW [.ptr 2 0,.ptr 3 0]),(12,.ls 2 (l.map NodeM.A)),(13,.v (.int .i64 (l.length:Int))),(14,.v (.int .i64 (i:Int)))],[some (.box [.own 4]),none,some (.box [.ptr 0 0]),some (.box [.cl jP [.ptr 2 0]]),some (.arr 1 (bl (A++(bJ (l.length:Int)++((l.take i).map NodeM.B).flatten))))]⟩) (λ_=>True) ?_ trivial ?_ ?_
 ·simp only [go_sem,mL,yM,kT]
 ·intro i hi _;have g0:(l.map NodeM.A)[i]?=some [uv l[i].Pub,C0 l[i].Boxes]:=aP _ l i hi;have hx:=hn l[i] (jY hi);have hk:=hw l[i] (jY hi);have k1:=wO hw i (by omega);have es:A++(bJ (l.length:Int)++((l.take (i+1)).map NodeM.B).flatten)=(A++(bJ (l.length:Int)++((l.take i).map NodeM.B).flatten))++NodeM.B l[i]:=by rw [CA _ l i hi];simp only [eE]
  rw [es];have k3:(A++(bJ (l.length:Int)++((l.take i).map NodeM.B).flatten)).length≤450000:=by rw [dU,dU];omega
  clear es;generalize A++(bJ (l.length:Int)++((l.take i).map NodeM.B).flatten)=X at *
  generalize l[i]=x at *
  simp only [go_sem,aL,aT hi,hi,g0];refine aI [2,3,0,4] (aA _) (by decide) (by simp) rfl rfl (aEW X x (by omega) hx) ?_;rintro r T' rfl;simp only [go_sem,aG (show i<9223372036854775807 by omega),gQ]
 ·intro _;rw [kH];simp only [go_sem,aL,aX (cZ _),lI]
def Xv (A:List Nat) (l:List SealM) (hA:A.length≤450000) (hl:l.length≤100) (hn:∀ x∈l,x.ok):aC PQ G pR [.ptr 0 0,.ls 4 (l.map SealM.A),.cl uX [.ptr 2 0]] [some (.box [.own 1]),some (.arr 1 (bl A)),some (.box [.ptr 0 0])] λr T'=>T'=[some (.box [.own 3]),none,some (.box [.ptr 0 0]),some (.arr 1 (bl (A++lI SealM.B l)))]:=by
 refine aF Bx (by decide) ?_;have hw:∀ x∈l,(SealM.B x).length≤1040:=λx hm=>HA (hn x hm);have l1:=bP (l.length:Int);simp only [go_sem,aL];refine aI [0,1] (aA _) (by decide) (by simp) rfl rfl (vZ A (l.length:Int) (by omega) (by omega) (by omega)) ?_;rintro r T' rfl;simp only [go_sem];refine aO l.length (λi=>⟨3,[(2,.cl uX [.ptr 2 0]),(12,.ls 4 (l.map SealM.A)),(13,.v (.int .i64 (l.length:Int))),(14,.v (.int .i64 (i:Int)))],[some (.box [.own 3]),none,some (.box [.ptr 0 0]),some (.arr 1 (bl (A++(bJ (l.length:Int)++((l.take i).map SealM.B).flatten))))]⟩) (λ_=>True) ?_ trivial ?_ ?_
 ·simp only [go_sem,mL,yM,kT]
 ·intro i hi _;have g0:(l.map SealM.A)[i]?=some [.v (.int .i64 l[i].Of.a),.v (.int .i64 l[i].Of.b),.v (.int .u64 l[i].Of.c),.ls 1 (bl l[i].Body)]:=aP _ l i hi;have hx:=hn l[i] (jY hi);have hk:=hw l[i] (jY hi);have k1:=wO hw i (by omega);have es:A++(bJ (l.length:Int)++((l.take (i+1)).map SealM.B).flatten)=(A++(bJ (l.length:Int)++((l.take i).map SealM.B).flatten))++SealM.B l[i]:=by rw [CA _ l i hi];simp only [eE]
  rw [es];have k3:(A++(bJ (l.length:Int)++((l.take i).map SealM.B).flatten)).length≤600000:=by rw [dU,dU];omega
  clear es;generalize A++(bJ (l.length:Int)++((l.take i).map SealM.B).flatten)=X at *
  generalize l[i]=x at *
  simp only [go_sem,aL,aT hi,hi,g0];refine aI [2,0,3] (aA _) (by decide) (by simp) rfl rfl (aEX X x (by omega) hx) ?_;rintro r T' rfl;simp only [go_sem,aG (show i<9223372036854775807 by omega),gQ]
 ·intro _;rw [kH];simp only [go_sem,aL,aX (cZ _),lI]
end
end
section
def SA:∀ (l:List Nat) (x:Nat),uN (l++[x])=uN l+256^l.length*x
 | [],x=>by simp [uN]
 | y::l,x=>by
  simp only [Ag,uN,SA l x,kS,Cj];rw [Nat.mul_add,←Ng,GG 256 (256^l.length)];omega
def SB {b:List Nat} {j:Nat} (h:j<b.length):uN (b.take (j+1))=uN (b.take j)+256^j*b[j]:=by
 rw [oT h,SA,hZ,KN (by omega)]
def aAp (w x j:Nat) (h:w<256^j):w ||| (x*2^(8*j))=w+256^j*x:=by
 have e:(256:Nat)^j=2^(8*j):=by rw [IY]
 rw [e] at h ⊢;have:=Nat.shiftLeft_add_eq_or_of_lt h x;rw [Nat.shiftLeft_eq] at this;rw [Nat.or_comm,←this,GG x];omega
def OI (x j:Nat) (hj:j≤7) (hx:x<256):aZ .shl (.int .u64 (x:Int)) (.int .i64 ((8*j:Nat):Int))=some (.int .u64 ((x*2^(8*j):Nat):Int)):=by
 have h1:¬((8*j:Nat):Int)<0:=by omega
 have h2:min (((8*j:Nat):Int)).toNat IntKind.u64.bits=8*j:=by
  simp only [KK,IntKind.bits];omega
 have h3:x*2^(8*j)<18446744073709551616:=by
  have:x*2^(8*j)<256*2^(8*j):=Nat.mul_lt_mul_of_pos_right hx (Nat.pow_pos (by decide));have h4:2^(8*j)≤2^56:=Ms (by decide) (by omega);omega
 simp only [aZ,h1,if_false,h2];have:(x:Int)*2^(8*j)=((x*2^(8*j):Nat):Int):=by simp
 rw [this,bG _ h3]
def SC (a b:Nat) (ha:a<18446744073709551616) (hb:b<18446744073709551616) (hc:a ||| b<18446744073709551616):aZ .or (.int .u64 (a:Int)) (.int .u64 (b:Int))=some (.int .u64 ((a ||| b:Nat):Int)):=by
 have h1:(BitVec.ofInt IntKind.u64.bits (a:Int) ||| BitVec.ofInt IntKind.u64.bits (b:Int)).toNat=a ||| b:=by
  have ea:(BitVec.ofInt 64 (a:Int)).toNat=a:=by simp [Cf];omega
  have eb:(BitVec.ofInt 64 (b:Int)).toNat=b:=by simp [Cf];omega
  show (BitVec.ofInt 64 (a:Int) ||| BitVec.ofInt 64 (b:Int)).toNat=a ||| b;rw [VG,ea,eb]
 simp only [aZ,if_true,h1];rw [bG _ hc]
section
variable {G:Nat→Option (List AV)}
set_option maxHeartbeats 4000000
def J4 (s w:Fq) (k:Nat) (hk:k<1000000000):aC PQ G gF [.ptr 0 0,.own 1] [some (.box [.v (fu s),.v (.int .u64 (k:Int))]),some (.arr 1 [[.v (fu w)]])] λr T' =>
  T'=[some (.box [.v (fu (rT s w (k+1))),.v (.int .u64 ((k+1:Nat):Int))]),some (.arr 1 [[.v (fu w)]])]:=by
 refine aF vD (by decide) ?_;have hw:=vY w;have a1:=cW k 1 (by omega);have a2:=cW w.val (k+1) (by omega);have e:=V7 w (k+1) (by show _<2305843009213693951;omega);simp only [Zs] at a1;have a3:IntKind.u64.wrap (((w.val:Nat):Int)+((k+1:Nat):Int))=((w.val+(k+1):Nat):Int):=by rw [←Y9,bG _ (by omega)]
 simp only [go_sem];refine aO 1 (λi=>⟨2,[(0,.ptr 0 0),(6,.own 1),(7,.v (.int .i64 1)),(8,.v (.int .i64 i))],[some (.box [.v (fu (if i=0 then s else rT s w (k+1))),.v (.int .u64 ((k+i:Nat):Int))]),some (.arr 1 [[.v (fu w)]])]⟩) (λ_=>True) ?_ trivial ?_ ?_
 ·simp only [go_sem]
 ·intro i hi _;obtain rfl:i=0:=by omega
  simp only [go_sem,↓a1,↓a2,a3];refine aB (aA _) rfl (CP 37 s) rfl ?_;simp only [go_sem,a3];refine aB (aA _) rfl (yA G (w.val+(k+1)) (by omega)) rfl ?_;simp only [go_sem,e];refine aB (aA _) rfl (aAa (37*s) (w+Fin.ofNat PP (k+1))) rfl ?_;simp only [go_sem];refine aB (aA _) rfl (OC _ 17 (by decide)) rfl ?_;simp only [go_sem,rT]
 ·intro _;simp only [go_sem]
def aDS (S:ByteArray) (lab ns:List Nat) (hS:jH S=bl lab) (hs:S.size=lab.length) (hb:wC lab) (hl1:1≤lab.length) (hl:lab.length≤7) (hn:∀ n∈ns,n<18446744073709551616) (hnl:ns.length≤10000000):aC PQ G wW [.v (.string S),.ls 1 (ul ns)] [] λr T'=>r=.v (fu (Ds lab ns))∧T'=[]:=by
 refine aF Gy (by decide) ?_;have hm:lab.length≤maxLen:=by unfold maxLen;omega
 have z1:IntKind.u64.wrap (ns.length:Int)=(ns.length:Int):=bG _ (by omega);have z2:IntKind.u64.wrap (lab.length:Int)=(lab.length:Int):=bG _ (by omega);have s0:(Value.int .u64 ((lab.length:Nat):Int))=fu (Fin.ofNat PP lab.length):=BN (by show _<2305843009213693951;omega);have sn:(Value.int .u64 ((ns.length:Nat):Int))=fu (Fin.ofNat PP ns.length):=BN (by show _<2305843009213693951;omega);have hlen:(bl lab).length=lab.length:=by simp
 have tk:∀ n,lab.length≤n→(bl lab).take n=bl lab:=λn h=>pY (by simpa using h);have hW:uN lab<72057594037927936:=OE hb hl;have sw:(Value.int .u64 ((uN lab:Nat):Int))=fu (Fin.ofNat PP (uN lab)):=BN (IX hW (by decide));have hmm:(if (lab.length:Int)<7 then (lab.length:Int) else (7:Int))=(lab.length:Int):=by split<;>omega
 have w0:IntKind.i64.wrap (0+(lab.length:Int))=(lab.length:Int):=by rw [aJ (by omega) (by omega)];omega
 have hne:¬lab.length=0:=by omega
 have t7:decide ((7:Int)<(lab.length:Int))=false:=decide_eq_false (by omega);have t0:decide ((0:Int)<(lab.length:Int))=true:=decide_eq_true (by omega);have hlab:R4 lab ns=Fin.ofNat PP (uN lab)::Fin.ofNat PP ns.length::(ns.map (Fin.ofNat PP)++[0]):=by
  unfold R4;rw [UC (λh=>by rw [h] at hl1;simp at hl1) hl];simp
 simp only [go_sem,hS,hs,hm,z2,s0];refine aS (aA _) rfl (Pg _) ?_;simp only [go_sem];refine Im rfl (rF iW) λr k1 k2 hy hyR=>?_;simp only [go_sem];refine yU [0,1,2] (aA _) (by decide) (λi hi=>by simp at hi ⊢;omega) rfl rfl (aF iW (by decide) ?_);simp only [go_sem];refine aS (aA _) rfl (Ph _) ?_;simp only [go_sem];refine Im rfl (rF bZ) λr2 q1 q2 hz hzR=>?_;simp only [go_sem];refine yU [0,1,2,3,4,5,6] (aA _) (by decide) (λi hi=>by simp at hi ⊢;omega) rfl rfl (aF bZ (by decide) ?_);simp only [go_sem];generalize hA0:Fin.ofNat PP lab.length=A0 at *
 refine bU (λn s=>(n=1∧s=⟨7,[(0,.yl 6),(1,.ptr 4 0),(2,.ptr 5 0),(4,.v (.int .i64 0))],[some (.box [.v (fu A0),.v (.int .u64 0)]),some (.box [.ls 1 (bl lab)]),some (.lp r [(5,.ptr 0 0)]),some (.box [.yl 2]),some (.box [.ls 1 (bl lab)]),some (.box [.v (.int .i64 7)]),some (.lp r2 [(2,.ptr 3 0)])]⟩) ∨
  (n=0∧s=⟨7,[(0,.yl 6),(1,.ptr 4 0),(2,.ptr 5 0),(4,.v (.int .i64 7))],[some (.box [.v (fu (rT A0 (Fin.ofNat PP (uN lab)) 1)),.v (.int .u64 ((1:Nat):Int))]),some (.box [.ls 1 (bl lab)]),some (.lp r [(5,.ptr 0 0)]),some (.box [.yl 2]),some (.box [.ls 1 (bl lab)]),some (.box [.v (.int .i64 7)]),some (.lp r2 [(2,.ptr 3 0)])]⟩)) 1 (.inl ⟨rfl,?_⟩) ?_
 ·simp only [go_sem]
 rintro n s (⟨rfl,rfl⟩ | ⟨rfl,rfl⟩)
 ·simp only [go_sem,aL,t0,hmm,w0,hne,hlen,tk lab.length (fW _)];refine hz _ _ _ _ _ rfl rfl ?_;simp only [go_sem,aL];refine bU (λn s=>∃ j:Nat,j≤lab.length∧n=lab.length-j∧s=⟨7,[(2,.ptr 3 0),(4,.v (.int .u64 ((uN (lab.take j):Nat):Int))),(10,.ls 1 (bl lab)),(11,.v (.int .i64 (lab.length:Int))),(12,.v (.int .i64 (j:Int)))],[some (.box [.v (fu A0),.v (.int .u64 0)]),some (.box [.ls 1 (bl lab)]),some (.lp r [(5,.ptr 0 0)]),some (.box [.yl 2]),some (.box [.ls 1 (bl lab)]),some (.box [.v (.int .i64 7)]),none]⟩) lab.length ⟨0,xC _,rfl,?_⟩ ?_
  ·simp only [go_sem,mL,uN]
  rintro n s ⟨j,hj,rfl,rfl⟩;by_cases hjl:j<lab.length
  ·have g0:(bl lab)[j]?=some [.v (.int .u8 ((lab[j]:Nat):Int))]:=aP U8 lab j hjl;have hx:=hb lab[j] (jY hjl);have hWj:=L8 (sC hb j);rw [hZ,KN (by omega)] at hWj;have hW7:uN (lab.take j)<72057594037927936:=OE (sC hb j) (by rw [hZ];omega);have hW8:uN (lab.take (j+1))<72057594037927936:=OE (sC hb _) (by rw [hZ];omega);have hst2:=SB hjl;rw [hst2] at hW8;generalize lab[j]=x at g0 hx hst2 hW8;have v1:IntKind.u64.wrap (x:Int)=(x:Int):=bG x (by omega);have v2:IntKind.i64.wrap (8*(j:Int))=((8*j:Nat):Int):=by rw [aJ (by omega) (by omega)];omega
   have sh:=OI x j (by omega) hx;have ho:=aAp (uN (lab.take j)) x j hWj;have hsl:x*2^(8*j)<18446744073709551616:=by
    have:256^j*x=x*2^(8*j):=by rw [GG,show (256:Nat)^j=2^(8*j) by rw [IY]]
    omega
   have or1:=SC (uN (lab.take j)) (x*2^(8*j)) (by omega) hsl (by omega);rw [ho,←hst2] at or1;simp only [go_sem,aL,aT hjl,hjl,g0,v1,v2,↓sh,↓or1,aG (show j<9223372036854775807 by omega)];exact ⟨lab.length-(j+1),by omega,j+1,by omega,rfl,rfl⟩
  ·obtain rfl:j=lab.length:=by omega
   rw [kH];simp only [go_sem,aX (cZ _),sw];refine hy _ _ _ _ _ rfl rfl ?_;simp only [go_sem];refine aI [0,7] (aA _) (by decide) (by simp) rfl rfl (J4 A0 (Fin.ofNat PP (uN lab)) 0 (by decide)) ?_;rintro r' T' hT;subst hT;simp only [go_sem];exact ⟨0,by decide,.inr rfl⟩
 ·simp only [go_sem,aL,t7,q1,q2,k1,k2,z1,sn];refine aI [0,3] (aA _) (by decide) (by simp) rfl rfl (J4 (rT A0 (Fin.ofNat PP (uN lab)) 1) (Fin.ofNat PP ns.length) 1 (by decide)) ?_;rintro r' T' hT;subst hT;have hfin:Ds lab ns=rT (BJ (rT (rT A0 (Fin.ofNat PP (uN lab)) 1) (Fin.ofNat PP ns.length) 2) 2 (ns.map (Fin.ofNat PP))) 0 (ns.length+3):=by
   unfold Ds;rw [hlab,hA0];simp only [BJ,EO,aL];congr 1;omega
  rw [hfin];generalize rT (rT A0 (Fin.ofNat PP (uN lab)) 1) (Fin.ofNat PP ns.length) 2=B at *
  simp only [go_sem,aL];refine aO ns.length (λi=>⟨0,[(4,.v (.int .u64 0)),(5,.ptr 0 0),(15,.cl kC [.ptr 1 0]),(25,.ls 1 (ul ns)),(26,.v (.int .i64 (ns.length:Int))),(27,.v (.int .i64 (i:Int)))],[some (.box [.v (fu (BJ B 2 ((ns.take i).map (Fin.ofNat PP)))),.v (.int .u64 ((2+i:Nat):Int))]),some (.box [.ls 1 (bl lab)])]⟩) (λ_=>True) ?_ trivial ?_ ?_
  ·simp only [go_sem];rfl
  ·intro i hi _;have g0:(ul ns)[i]?=some [.v (.int .u64 ((ns[i]:Nat):Int))]:=by rw [aP _ ns i hi]
   have hni:=hn ns[i] (jY hi);have key:rT (BJ B 2 ((ns.take i).map (Fin.ofNat PP))) (Fin.ofNat PP ns[i]) (2+i+1)=BJ B 2 ((ns.take (i+1)).map (Fin.ofNat PP)):=by
    rw [oT hi,gQ,cN,eQ,EO];congr 1;simp;omega
   have sN:(Value.int .u64 ((ns[i]%FP:Nat):Int))=fu (Fin.ofNat PP ns[i]):=rfl;generalize BJ B 2 ((ns.take i).map (Fin.ofNat PP))=X at *
   generalize BJ B 2 ((ns.take (i+1)).map (Fin.ofNat PP))=Y at *
   simp only [go_sem,aL,aT hi,g0];refine aB (aA _) rfl (yA G ns[i] hni) rfl ?_;simp only [go_sem,sN];refine aI [0,2] (aA _) (by decide) (by simp) rfl rfl (J4 X (Fin.ofNat PP ns[i]) (2+i) (by omega)) ?_;rintro r' T' hT;subst hT;simp only [go_sem,key,aG (show i<9223372036854775807 by omega)];rfl
  ·intro _;rw [kH];simp only [go_sem,aX (cZ _)];refine aI [0,2] (aA _) (by decide) (by simp) rfl rfl (J4 (BJ B 2 (ns.map (Fin.ofNat PP))) 0 (2+ns.length) (by omega)) ?_;rintro r' T' hT;subst hT;have e3:2+ns.length+1=ns.length+3:=by omega
   simp only [go_sem,e3]
end
end
end Hud
