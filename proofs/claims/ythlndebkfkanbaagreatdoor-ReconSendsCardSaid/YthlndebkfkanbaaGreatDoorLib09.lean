import Derived.Test.YthlndebkfkanbaaGreatDoorLib08
import Derived.Test.YthlndebkfkanbaaGreatDoorProg
set_option linter.all false
namespace Hud
open Go
section
structure BoxM where
 To:Nat
 Eph:Nat
 Body:Nat
 Tag:Nat
 deriving DecidableEq,Inhabited
structure NodeM where
 Pub:Nat
 Boxes:List BoxM
 deriving DecidableEq,Inhabited
structure SealM where
 Of:Id
 Body:List Nat
 deriving DecidableEq,Inhabited
structure OpM where
 By:Int
 Seq:Int
 Kind:Int
 At:Int
 Past:List Id
 Device:Int
 Old:Int
 Member:Int
 Role:Int
 Path:List NodeM
 Epoch:Id
 N:Int
 Body:List Nat
 Refs:List Nat
 Of:Id
 Guards:List Int
 Need:Int
 Wait:Int
 Boxes:List BoxM
 Pub:Nat
 Hist:List SealM
 SR:Nat
 SS:Nat
 deriving DecidableEq,Inhabited
abbrev iv (n:Int):AV:=.v (.int .i64 n)
abbrev uv (n:Nat):AV:=.v (.int .u64 (n:Int))
def BoxM.A (b:BoxM):List AV:=[uv b.To,uv b.Eph,uv b.Body,uv b.Tag]
abbrev C0 (l:List BoxM):AV:=.ls 4 (l.map BoxM.A)
def NodeM.A (n:NodeM):List AV:=[uv n.Pub,C0 n.Boxes]
def SealM.A (x:SealM):List AV:=[.v (.int .i64 x.Of.a),.v (.int .i64 x.Of.b),.v (.int .u64 x.Of.c),.ls 1 (bl x.Body)]
abbrev AM (l:List Int):AV:=.ls 1 (l.map λn=>[iv n])
def OpM.A (o:OpM):List AV:=[iv o.By,iv o.Seq,iv o.Kind,iv o.At,ids o.Past,iv o.Device,iv o.Old,iv o.Member,iv o.Role,.ls 2 (o.Path.map NodeM.A),
 .v (.int .i64 o.Epoch.a),.v (.int .i64 o.Epoch.b),.v (.int .u64 o.Epoch.c),iv o.N,.ls 1 (bl o.Body),.ls 1 (ul o.Refs),.v (.int .i64 o.Of.a),.v (.int .i64 o.Of.b),.v (.int .u64 o.Of.c),AM o.Guards,
 iv o.Need,iv o.Wait,C0 o.Boxes,uv o.Pub,.ls 4 (o.Hist.map SealM.A),uv o.SR,uv o.SS]
def OpM.A_def (o:OpM):o.A=[iv o.By,iv o.Seq,iv o.Kind,iv o.At,ids o.Past,iv o.Device,iv o.Old,iv o.Member,iv o.Role,.ls 2 (o.Path.map NodeM.A),
 .v (.int .i64 o.Epoch.a),.v (.int .i64 o.Epoch.b),.v (.int .u64 o.Epoch.c),iv o.N,.ls 1 (bl o.Body),.ls 1 (ul o.Refs),.v (.int .i64 o.Of.a),.v (.int .i64 o.Of.b),.v (.int .u64 o.Of.c),AM o.Guards,
 iv o.Need,iv o.Wait,C0 o.Boxes,uv o.Pub,.ls 4 (o.Hist.map SealM.A),uv o.SR,uv o.SS]:=cH rfl rfl
def oG (n lo hi:Int):Bool:=decide (lo≤n)&&decide (n≤hi)
def Fd (n:Nat):Bool:=decide ((1:Int)≤(n:Int))&&decide ((n:Int)<2305843009213693951)
def okM (n:Int):Bool:=decide (n<2305843009213693951)
def iJ (x:Id):Bool:=oG x.a 1 12&&(oG x.b 1 2147483647&&okM x.c)
def sD (b:BoxM):Bool:=Fd b.To&&(Fd b.Eph&&(okM (b.Body:Int)&&okM (b.Tag:Int)))
def tK (n:Int):Prop:=-9223372036854775808≤n∧n≤9223372036854775807
def BoxM.ok (b:BoxM):Prop:=b.To<18446744073709551616∧b.Eph<18446744073709551616∧b.Body<18446744073709551616∧b.Tag<18446744073709551616
def gE (o:OpM):List (Int×Bool):=[(1,o.Device !=0),(2,o.Old !=0),(4,o.Member !=0),(8,o.Role !=0),(16,decide ((o.Path.length:Int)>0)),(32,!(o.Epoch.a==0&&(o.Epoch.b==0&&o.Epoch.c==0))),(64,o.N !=0),(128,decide ((o.Body.length:Int)>0)),(256,decide ((o.Refs.length:Int)>0)),(512,!(o.Of.a==0&&(o.Of.b==0&&o.Of.c==0))),
 (1024,decide ((o.Guards.length:Int)>0)),(2048,o.Need !=0),(4096,o.Wait !=0),(8192,decide ((o.Boxes.length:Int)>0)),(16384,((o.Pub:Int)!=0)),(32768,decide ((o.Hist.length:Int)>0))]
def Id.ok (x:Id):Prop:=tK x.a∧tK x.b∧0≤x.c∧x.c<18446744073709551616
def NodeM.ok (n:NodeM):Prop:=n.Pub<18446744073709551616∧n.Boxes.length≤100∧∀ b∈n.Boxes,b.ok
def SealM.ok (x:SealM):Prop:=x.Of.ok∧x.Body.length≤1000∧wC x.Body
structure OpM.ok (o:OpM):Prop where
 ints:∀ n∈[o.By,o.Seq,o.Kind,o.At,o.Device,o.Old,o.Member,o.Role,o.N,o.Need,o.Wait],tK n
 nums:∀ n∈[o.Pub,o.SR,o.SS],n<18446744073709551616
 epoch:o.Epoch.ok
 of:o.Of.ok
 past:o.Past.length≤1000∧∀ x∈o.Past,x.ok
 path:o.Path.length≤10∧∀ x∈o.Path,x.ok
 body:o.Body.length≤1000∧wC o.Body
 refs:o.Refs.length≤1000∧∀ x∈o.Refs,x<18446744073709551616
 guards:o.Guards.length≤1000∧∀ x∈o.Guards,tK x
 boxes:o.Boxes.length≤1000∧∀ x∈o.Boxes,x.ok
 hist:o.Hist.length≤100∧∀ x∈o.Hist,x.ok
@[go_sem] def OpM.g0 (o:OpM):o.A[0]?=some (iv o.By):=cH rfl rfl
@[go_sem] def OpM.g1 (o:OpM):o.A[1]?=some (iv o.Seq):=cH rfl rfl
@[go_sem] def OpM.g2 (o:OpM):o.A[2]?=some (iv o.Kind):=cH rfl rfl
@[go_sem] def OpM.g3 (o:OpM):o.A[3]?=some (iv o.At):=cH rfl rfl
@[go_sem] def OpM.g4 (o:OpM):o.A[4]?=some (ids o.Past):=cH rfl rfl
@[go_sem] def OpM.g5 (o:OpM):o.A[5]?=some (iv o.Device):=cH rfl rfl
@[go_sem] def OpM.g6 (o:OpM):o.A[6]?=some (iv o.Old):=cH rfl rfl
@[go_sem] def OpM.g7 (o:OpM):o.A[7]?=some (iv o.Member):=cH rfl rfl
@[go_sem] def OpM.g8 (o:OpM):o.A[8]?=some (iv o.Role):=cH rfl rfl
@[go_sem] def OpM.g9 (o:OpM):o.A[9]?=some (.ls 2 (o.Path.map NodeM.A)):=cH rfl rfl
@[go_sem] def OpM.g13 (o:OpM):o.A[13]?=some (iv o.N):=cH rfl rfl
@[go_sem] def OpM.g14 (o:OpM):o.A[14]?=some (.ls 1 (bl o.Body)):=cH rfl rfl
@[go_sem] def OpM.g15 (o:OpM):o.A[15]?=some (.ls 1 (ul o.Refs)):=cH rfl rfl
@[go_sem] def OpM.g19 (o:OpM):o.A[19]?=some (AM o.Guards):=cH rfl rfl
@[go_sem] def OpM.g20 (o:OpM):o.A[20]?=some (iv o.Need):=cH rfl rfl
@[go_sem] def OpM.g21 (o:OpM):o.A[21]?=some (iv o.Wait):=cH rfl rfl
@[go_sem] def OpM.g22 (o:OpM):o.A[22]?=some (C0 o.Boxes):=cH rfl rfl
@[go_sem] def OpM.g23 (o:OpM):o.A[23]?=some (uv o.Pub):=cH rfl rfl
@[go_sem] def OpM.g24 (o:OpM):o.A[24]?=some (.ls 4 (o.Hist.map SealM.A)):=cH rfl rfl
@[go_sem] def OpM.g25 (o:OpM):o.A[25]?=some (uv o.SR):=cH rfl rfl
@[go_sem] def OpM.g26 (o:OpM):o.A[26]?=some (uv o.SS):=cH rfl rfl
@[go_sem] def OpM.len (o:OpM):o.A.length=27:=cH rfl rfl
@[go_sem] def OpM.dEpoch (o:OpM):(o.A.drop 10).take 3=o.Epoch.A:=cH rfl rfl
@[go_sem] def OpM.dOf (o:OpM):(o.A.drop 16).take 3=o.Of.A:=cH rfl rfl
@[go_sem] def OpM.dSig (o:OpM):(o.A.drop 25).take 2=[uv o.SR,uv o.SS]:=cH rfl rfl
@[go_sem] def OpM.t27 (o:OpM):o.A.take 27=o.A:=cH rfl rfl
@[go_sem] def OpM.ids0 (o:OpM):iI o.A=[]:=cH rfl rfl
def OpM.one0 (o:OpM):o.A.all jU=true:=by simp [OpM.A,jU]
@[go_sem] def OpM.one (o:OpM):o.A.all jU=true:=OpM.one0 o
def OpM.closed0 (o:OpM):o.A.all bB=true:=by simp [OpM.A,bB]
@[go_sem] def OpM.closed (o:OpM):o.A.all bB=true:=OpM.closed0 o
@[go_sem] def OpM.rn (L:List Nat) (o:OpM):Al L o.A=o.A:=cH rfl rfl
@[go_sem] def OpM.bk (L:List Nat) (n:Nat) (o:OpM):D3 L n o.A=o.A:=cH rfl rfl
@[go_sem] def OpM.sl (i k:Nat) (es:List (List AV)) (o:OpM):Ib i k es o.A=o.A:=cH rfl rfl
@[go_sem] def Id.ids0 (x:Id):iI x.A=[]:=cH rfl rfl
@[go_sem] def Id.rn (L:List Nat) (x:Id):Al L x.A=x.A:=cH rfl rfl
@[go_sem] def Id.bk (L:List Nat) (n:Nat) (x:Id):D3 L n x.A=x.A:=cH rfl rfl
@[go_sem] def Id.sl (i k:Nat) (es:List (List AV)) (x:Id):Ib i k es x.A=x.A:=cH rfl rfl
@[go_sem] def Id.len (x:Id):x.A.length=3:=cH rfl rfl
def Id.one0 (x:Id):x.A.all jU=true:=by simp [Id.A,jU]
@[go_sem] def Id.one (x:Id):x.A.all jU=true:=Id.one0 x
def Id.closed0 (x:Id):x.A.all bB=true:=by simp [Id.A,bB]
@[go_sem] def Id.closed (x:Id):x.A.all bB=true:=Id.closed0 x
@[go_sem] def Id.t3 (x:Id):x.A.take 3=x.A:=cH rfl rfl
@[go_sem] def Id.eqC (x y:Id):Hud.eqC [.int .i64,.int .i64,.int .u64] x.A y.A=some (decide (x=y)):=by
 simp only [Hud.eqC,Id.A_def,and_self,if_true,uO,Id.beq]
@[go_sem] def Id.eq0 (x:Id):Hud.eqC [.int .i64,.int .i64,.int .u64] x.A [.v (.int .i64 0),.v (.int .i64 0),.v (.int .u64 0)]=some (x.a==0&&(x.b==0&&x.c==0)):=by
 simp only [Hud.eqC,Id.A_def,and_self,if_true,uO]
structure CardM where
 Device:Int
 Member:Int
 Lead:Nat
 Keep:Nat
 Sign:Nat
 deriving DecidableEq,Inhabited
def CardM.A (c:CardM):List AV:=[iv c.Device,iv c.Member,uv c.Lead,uv c.Keep,uv c.Sign]
def CardM.A_def (c:CardM):c.A=[iv c.Device,iv c.Member,uv c.Lead,uv c.Keep,uv c.Sign]:=cH rfl rfl
def CardM.ok (c:CardM):Prop:=tK c.Device∧tK c.Member∧c.Lead<18446744073709551616∧c.Keep<18446744073709551616∧c.Sign<18446744073709551616
end
section
noncomputable abbrev PQ:=Go.Proofs.Tryz.prog
noncomputable abbrev cF:=sA PQ
namespace W
def zm (d t:Nat):HOper:=⟨some d,.mov (.tmp t),none⟩
def zo (d:Nat) (o:HOp):HOper:=⟨some d,o,none⟩
def zl (d a:Nat):HOper:=⟨some d,.ld none (.tmp a),none⟩
def zv (d k a:Nat):HOper:=⟨some d,.ld (some k) (.tmp a),none⟩
def zf (d a k:Nat):HOper:=⟨some d,.fad (.tmp a) k,none⟩
def zi (d a b k:Nat):HOper:=⟨some d,.iad (.tmp a) (.tmp b) k,none⟩
def zw (n:Int):Operand:=.const (.int .i64 n)
def zu (n:Int):Operand:=.const (.int .u64 n)
def zt (n:Nat):Operand:=.tmp n
def zq (a:HOper) (b:HD):HD:=.q a b
def zA (a:HOper) (c:List HOper) (b d:HD):HD:=.alt a c b d
def zS:Value:=.slice none 0 0
def z0:Value:=.int .i64 0
def zU:Value:=.int .u64 0
def zI:List Value:=[z0,z0,zU]
def zO:List Value:=[z0,z0,z0,z0,zS,z0,z0,z0,z0,zS,z0,z0,zU,z0,zS,zS,z0,z0,zU,zS,z0,z0,zS,zU,zS,zU,zU]
def zUU:List Value:=[zU,zU]
def zS5:List Value:=[zS,zS,zS,zS,zS]
def zU4:List Value:=[zU,zU,zU,zU]
def zC:List Value:=[z0,z0,zU,zU,zU]
def zB:List Value:=[zU,zS]
def zN:List Value:=[z0,z0,z0,z0,zS,z0,z0,z0,z0,zS,z0,z0,zU,z0,zS,zS,z0,z0,zU,zS,z0,z0,zS,zU,zS,zU,zU,z0,z0,zU,zU,zU,zU,zU,z0]
def zU3:List Value:=[zU,zU,zU]
abbrev TE (α:Type):=HOper→α→α
abbrev TH (α:Type):=List HOper→HOper→α→α
abbrev TG (_:Type):=Option (Nat×Bool)
abbrev TK (α:Type):=Operand→Nat→α
abbrev EE (α:Type):=TE α→TH α→TG α→TK α→Nat→α
section
variable {α:Type}
def cc (c:Operand) (_:TE α) (_:TH α) (_:TG α) (kk:TK α) (dd:Nat):α:=kk c dd
def u0 (c:HOp) (em:TE α) (_:TH α) (gd:TG α) (kk:TK α) (dd:Nat):α:=em ⟨some dd,c,gd⟩ (kk (.tmp dd) (dd+1))
def h0 (c:HOp) (_:TE α) (hv:TH α) (gd:TG α) (kk:TK α) (dd:Nat):α:=hv [] ⟨some dd,c,gd⟩ (kk (.tmp dd) (dd+1))
def u1 (c:Operand→HOp) (x:EE α) (em:TE α) (hv:TH α) (gd:TG α) (kk:TK α) (dd:Nat):α:=x em hv gd (λo d=>em ⟨some d,c o,gd⟩ (kk (.tmp d) (d+1))) dd
def u2 (c:Operand→Operand→HOp) (x y:EE α) (em:TE α) (hv:TH α) (gd:TG α) (kk:TK α) (dd:Nat):α:=x em hv gd (λo d=>y em hv gd (λp d=>em ⟨some d,c o p,gd⟩ (kk (.tmp d) (d+1))) d) dd
def u3 (c:Operand→Operand→Operand→HOp) (x y z:EE α) (em:TE α) (hv:TH α) (gd:TG α) (kk:TK α) (dd:Nat):α:=x em hv gd (λo d=>y em hv gd (λp d=>z em hv gd (λq d=>em ⟨some d,c o p q,gd⟩ (kk (.tmp d) (d+1))) d) d) dd
def h1 (c:Operand→HOp) (x:EE α) (em:TE α) (hv:TH α) (gd:TG α) (kk:TK α) (dd:Nat):α:=x em hv gd (λo d=>hv [] ⟨some d,c o,gd⟩ (kk (.tmp d) (d+1))) dd
def h2 (c:Operand→Operand→HOp) (x y:EE α) (em:TE α) (hv:TH α) (gd:TG α) (kk:TK α) (dd:Nat):α:=x em hv gd (λo d=>y em hv gd (λp d=>hv [] ⟨some d,c o p,gd⟩ (kk (.tmp d) (d+1))) d) dd
def h3 (c:Operand→Operand→Operand→HOp) (x y z:EE α) (em:TE α) (hv:TH α) (gd:TG α) (kk:TK α) (dd:Nat):α:=x em hv gd (λo d=>y em hv gd (λp d=>z em hv gd (λq d=>hv [] ⟨some d,c o p q,gd⟩ (kk (.tmp d) (d+1))) d) d) dd
def h4 (c:Operand→Operand→Operand→Operand→HOp) (x y z a:EE α) (em:TE α) (hv:TH α) (gd:TG α) (kk:TK α) (dd:Nat):α:=x em hv gd (λo d=>y em hv gd (λp d=>z em hv gd (λq d=>a em hv gd (λr d=>hv [] ⟨some d,c o p q r,gd⟩ (kk (.tmp d) (d+1))) d) d) d) dd
def h5 (c:Operand→Operand→Operand→Operand→Operand→HOp) (x y z a b:EE α) (em:TE α) (hv:TH α) (gd:TG α) (kk:TK α) (dd:Nat):α:=x em hv gd (λo d=>y em hv gd (λp d=>z em hv gd (λq d=>a em hv gd (λr d=>b em hv gd (λs d=>hv [] ⟨some d,c o p q r s,gd⟩ (kk (.tmp d) (d+1))) d) d) d) d) dd
def h6 (c:Operand→Operand→Operand→Operand→Operand→Operand→HOp) (x y z a b m:EE α) (em:TE α) (hv:TH α) (gd:TG α) (kk:TK α) (dd:Nat):α:=x em hv gd (λo d=>y em hv gd (λp d=>z em hv gd (λq d=>a em hv gd (λr d=>b em hv gd (λs d=>m em hv gd (λt d=>hv [] ⟨some d,c o p q r s t,gd⟩ (kk (.tmp d) (d+1))) d) d) d) d) d) dd
def s (n:Nat) (x y:EE α) (em:TE α) (hv:TH α) (gd:TG α) (kk:TK α) (dd:Nat):α:=x em hv gd (λo d=>y em hv gd (λp d=>hv [] ⟨none,.st n o p,gd⟩ (kk o d)) d) dd
def A (j:Nat) (x:EE α) (em:TE α) (hv:TH α) (gd:TG α) (kk:TK α) (dd:Nat):α:=x em hv gd (λo d=>em ⟨some j,.mov o,gd⟩ (kk o d)) dd
def Ah (j:Nat) (x:EE α) (em:TE α) (hv:TH α) (gd:TG α) (kk:TK α) (dd:Nat):α:=x em hv gd (λo d=>hv [] ⟨some j,.mov o,gd⟩ (kk o d)) dd
def Y (c:HOp) (em:TE α) (_:TH α) (gd:TG α) (kk:TK α) (dd:Nat):α:=em ⟨none,c,gd⟩ (kk (.tmp 0) dd)
def Yh (c:HOp) (_:TE α) (hv:TH α) (gd:TG α) (kk:TK α) (dd:Nat):α:=hv [] ⟨none,c,gd⟩ (kk (.tmp 0) dd)
def G (j:Nat) (b:Bool) (x:EE α) (em:TE α) (hv:TH α) (_:TG α) (kk:TK α) (dd:Nat):α:=x em hv (some (j,b)) kk dd
def J (n:Nat) (x:EE α) (em:TE α) (hv:TH α) (gd:TG α) (kk:TK α) (_:Nat):α:=x em hv gd kk n
def K (c:List HOper) (x:EE α) (em:TE α) (hv:TH α) (gd:TG α) (kk:TK α) (dd:Nat):α:=x em (λ_=>hv c) gd kk dd
def N (x y:EE α) (em:TE α) (hv:TH α) (gd:TG α) (kk:TK α) (dd:Nat):α:=x em hv gd (λo d=>em ⟨some d,.mov o,gd⟩ (y em hv (some (d,true)) (λp e=>em ⟨some e,.pick (.tmp d) p (.const (.bool false)),gd⟩ (kk (.tmp e) (e+1))) (d+1))) dd
def O (x y:EE α) (em:TE α) (hv:TH α) (gd:TG α) (kk:TK α) (dd:Nat):α:=x em hv gd (λo d=>em ⟨some d,.mov o,gd⟩ (y em hv (some (d,false)) (λp e=>em ⟨some e,.pick (.tmp d) (.const (.bool true)) p,gd⟩ (kk (.tmp e) (e+1))) (d+1))) dd
end
section
variable {α:Type}
def t (n:Nat):EE α:=cc (.tmp n) 
def v (n:Nat):EE α:=u0 (.mov (.tmp n)) 
def w (n:Int):EE α:=cc (.const (.int .i64 n)) 
def u (n:Int):EE α:=cc (.const (.int .u64 n)) 
def T:EE α:=cc (.const (.bool true)) 
def F:EE α:=cc (.const (.bool false)) 
def z:EE α:=cc (.const (.slice none 0 0)) 
def kc (c:Operand):EE α:=cc c 
def x (c:HOp):EE α:=u0 c 
def xh (c:HOp):EE α:=h0 c 
def M (x0:EE α):EE α:=u1 .mov x0
def l (x0:EE α):EE α:=u1 (.ld none) x0
def L (k:Nat) (x0:EE α):EE α:=u1 (.ld (some k)) x0
def f (k:Nat) (x0:EE α):EE α:=u1 (λa=>.fad a k) x0
def i (k:Nat) (x0 x1:EE α):EE α:=u2 (λa b=>.iad a b k) x0 x1
def n (x0:EE α):EE α:=u1 .lenL x0
def e (k:Nat) (x0:EE α):EE α:=u1 (λa=>.ext a k) x0
def B (o:BinOp) (x0 x1:EE α):EE α:=u2 (.bin o) x0 x1
def o (x0:EE α):EE α:=u1 (.un .not) x0
def b (x0:EE α):EE α:=u1 .box x0
def y (x0:EE α):EE α:=u1 .nilc x0
def cw (k:IntKind) (x0:EE α):EE α:=u1 (.conv k) x0
def ea (g:Bool) (k:List LK) (x0 x1:EE α):EE α:=u2 (.eqa g k) x0 x1
def mm (g:Bool) (x0 x1:EE α):EE α:=u2 (.mm g) x0 x1
def a (k m:Nat) (x0 x1:EE α):EE α:=h2 (λa b=>.app a b k m) x0 x1
def al (c:List Value):EE α:=h0 (.alloc c) 
def ba (k:Nat) (c:List Value) (x0:EE α):EE α:=h1 (λa=>.bsl k c [(0,(k,a))] 1) x0
def c0 (i:Nat):EE α:=h0 (.call (.func i) []) 
def c1 (i:Nat) (x0:EE α):EE α:=h1 (λa=>.call (.func i) [a]) x0
def c2 (i:Nat) (x0 x1:EE α):EE α:=h2 (λa b=>.call (.func i) [a,b]) x0 x1
def c3 (i:Nat) (x0 x1 x2:EE α):EE α:=h3 (λa b c=>.call (.func i) [a,b,c]) x0 x1 x2
def c4 (i:Nat) (x0 x1 x2 x3:EE α):EE α:=h4 (λa b c d=>.call (.func i) [a,b,c,d]) x0 x1 x2 x3
def c5 (i:Nat) (x0 x1 x2 x3 x4:EE α):EE α:=h5 (λa b c d e=>.call (.func i) [a,b,c,d,e]) x0 x1 x2 x3 x4
def c6 (i:Nat) (x0 x1 x2 x3 x4 x5:EE α):EE α:=h6 (λa b c d e f=>.call (.func i) [a,b,c,d,e,f]) x0 x1 x2 x3 x4 x5
def d1 (x0 x1:EE α):EE α:=h2 (λa b=>.call a [b]) x0 x1
def d2 (x0 x1 x2:EE α):EE α:=h3 (λa b c=>.call a [b,c]) x0 x1 x2
def d3 (x0 x1 x2 x3:EE α):EE α:=h4 (λa b c d=>.call a [b,c,d]) x0 x1 x2 x3
def q1 (z:List Value) (x0:EE α):EE α:=u1 (λa=>.bld z [(0,(1,a))]) x0
def q2 (z:List Value) (x0 x1:EE α):EE α:=u2 (λa b=>.bld z [(0,(1,a)),(1,(1,b))]) x0 x1
def q3 (z:List Value) (x0 x1 x2:EE α):EE α:=u3 (λa b c=>.bld z [(0,(1,a)),(1,(1,b)),(2,(1,c))]) x0 x1 x2
def j2 (z:List Value) (x0 x1:EE α):EE α:=h2 (λa b=>.bsl 1 z [(0,(1,a)),(1,(1,b))] 2) x0 x1
def j3 (z:List Value) (x0 x1 x2:EE α):EE α:=h3 (λa b c=>.bsl 1 z [(0,(1,a)),(1,(1,b)),(2,(1,c))] 3) x0 x1 x2
def j4 (z:List Value) (x0 x1 x2 x3:EE α):EE α:=h4 (λa b c d=>.bsl 1 z [(0,(1,a)),(1,(1,b)),(2,(1,c)),(3,(1,d))] 4) x0 x1 x2 x3
def ad (x0 x1:EE α):EE α:=B .add x0 x1
def sb (x0 x1:EE α):EE α:=B .sub x0 x1
def mu (x0 x1:EE α):EE α:=B .mul x0 x1
def qu (x0 x1:EE α):EE α:=B .quo x0 x1
def rm (x0 x1:EE α):EE α:=B .rem x0 x1
def ls (x0 x1:EE α):EE α:=B .lss x0 x1
def le (x0 x1:EE α):EE α:=B .leq x0 x1
def gt (x0 x1:EE α):EE α:=B .gtr x0 x1
def ge (x0 x1:EE α):EE α:=B .geq x0 x1
def eq (x0 x1:EE α):EE α:=B .eql x0 x1
def ne (x0 x1:EE α):EE α:=B .neq x0 x1
def t0:EE α:=t 0
def t1:EE α:=t 1
def t2:EE α:=t 2
def t3:EE α:=t 3
def t4:EE α:=t 4
def t5:EE α:=t 5
def t6:EE α:=t 6
def t7:EE α:=t 7
def t8:EE α:=t 8
def t9:EE α:=t 9
def v0:EE α:=v 0
def v1:EE α:=v 1
def v2:EE α:=v 2
def v3:EE α:=v 3
def v4:EE α:=v 4
def v5:EE α:=v 5
def v6:EE α:=v 6
def v7:EE α:=v 7
def v8:EE α:=v 8
def v9:EE α:=v 9
def v10:EE α:=v 10
def v11:EE α:=v 11
def v12:EE α:=v 12
def v13:EE α:=v 13
def v14:EE α:=v 14
def v15:EE α:=v 15
def v16:EE α:=v 16
def v17:EE α:=v 17
def v18:EE α:=v 18
def v19:EE α:=v 19
def v20:EE α:=v 20
def v21:EE α:=v 21
def v22:EE α:=v 22
def v24:EE α:=v 24
def v27:EE α:=v 27
def v28:EE α:=v 28
def v29:EE α:=v 29
def v31:EE α:=v 31
def v33:EE α:=v 33
def v36:EE α:=v 36
def v37:EE α:=v 37
def v38:EE α:=v 38
def v40:EE α:=v 40
def w0:EE α:=w 0
def w1:EE α:=w 1
def w2:EE α:=w 2
def w3:EE α:=w 3
end
def lis {α:Type} (em:HOper→α→α) (hv:List HOper→HOper→α→α) (z:α):List (EE α)→Nat→α
 | [],_=>z
 | x::l,d=>x em hv none (λ_ d=>lis em hv z l d) d
def ds (d:Nat):Nat→List Nat
 | 0=>[]
 | n+1=>(d+n)::ds d n
def kl:List Nat→Nat→Nat→List Nat
 | x::l,d,n=>x::kl l d n
 | [],d,n=>ds d n
def ap:List Nat→Nat→List Nat
 | x::l,d=>x::ap l d
 | [],d=>[d]
def S:List HC→HC
 | []=>.skip
 | a::[]=>a
 | a::b::l=>.seq a (S (b::l))
def E (d:Nat) (l:List (EE (List HOper))):HC:=.reg (lis (λo a=>o::a) (λ_ o a=>o::a) [] l d)
def E0 (l:List (EE (List HOper))):HC:=E 0 l
def i0 (j:Nat):HC:=.reg [⟨some j,.mov (.const (.int .i64 0)),none⟩]
def iz (j:Nat):HC:=.reg [⟨some j,.mov (.const (.slice none 0 0)),none⟩]
def R (d n:Nat) (xs:List Nat) (l:List (EE (List HOper))):HC:=.seq (E d l) (.kill (kl xs d n))
def R0 (d n:Nat) (l:List (EE (List HOper))):HC:=R d n [] l
def P (d:Nat) (l:List (EE HD)) (g:Bool):HC:=.regd (lis .q (λc o a=>.alt o c a .no) (.done g) l d)
def D (d n:Nat) (xs:List Nat) (l:List (EE HD)):HC:=.seq (P d l false) (.kill (kl xs d n))
def Z (xs:List Nat) (c:HC):HC:=.seq (.kill xs) c
def Ie (n:Nat) (xs:List Nat) (a:HC) (ys:List Nat) (b:HC):HC:=.cond (.tmp n) (.seq (.kill (ap xs n)) a) (.seq (.kill (ap ys n)) b)
def Iz (n:Nat) (xs:List Nat) (a:HC) (ys:List Nat):HC:=Ie n xs a ys .skip
def If (n:Nat) (xs:List Nat) (a:HC):HC:=Ie n xs a [] .skip
def C (n:Nat) (a b:HC):HC:=.cond (.tmp n) a b
def bw (n:Nat) (a:HC):HC:=.block n a
def lo (n:Nat) (a:HC):HC:=.block n (.loop [] a)
def ex (n:Nat):HC:=.exit n
def ow (j k:Nat):HC:=.own j none k
def oc (j c k:Nat):HC:=.own j (some c) k
def fo (i d n:Nat) (c:EE (List HOper)) (xs:List Nat) (j:Nat) (b:HC):HC :=
 lo i (.seq (.seq (R d n [] [c]) (Ie (d+n) [] .skip xs (.exit i))) (.seq (.block (i+1) b) (R (d+n+1) 2 [] [A j (ad (v j) w1)])))
def ra (i j:Nat) (m:EE (List HOper)) (n:Nat) (xs:List Nat) (e:Nat) (b:HC):HC :=
 lo i (.seq (E n [ls (t j) m]) (.seq (Ie n [] .skip xs (.exit i)) (.seq (.block (i+1) b) (R e 1 [] [A j (ad (t j) w1)]))))
end W
attribute [go_sem] W.A W.Ah W.B W.C W.D W.E W.E0 W.F W.G W.Ie W.If W.Iz W.J W.K W.L W.M W.N W.O W.P W.R W.R0 W.S W.T W.Y W.Yh W.Z W.a W.ad W.al W.ap W.b W.ba W.bw W.c0 W.c1 W.c2 W.c3 W.c4 W.c5 W.c6 W.cc W.cw W.d1 W.d2 W.d3 W.ds W.e W.ea W.eq W.ex W.f W.fo W.ge W.gt W.h0 W.h1 W.h2 W.h3 W.h4 W.h5 W.h6 W.i W.i0 W.iz W.j2 W.j3 W.j4 W.kc W.kl W.l W.le W.lis W.lo W.ls W.mm W.mu W.n W.ne W.o W.oc W.ow W.q1 W.q2 W.q3 W.qu W.ra W.rm W.s W.sb W.t W.t0 W.t1 W.t2 W.t3 W.t4 W.t5 W.t6 W.t7 W.t8 W.t9 W.u W.u0 W.u1 W.u2 W.u3 W.v W.v0 W.v1 W.v10 W.v11 W.v12 W.v13 W.v14 W.v15 W.v16 W.v17 W.v18 W.v19 W.v2 W.v20 W.v21 W.v22 W.v24 W.v27 W.v28 W.v29 W.v3 W.v31 W.v33 W.v36 W.v37 W.v38 W.v4 W.v40 W.v5 W.v6 W.v7 W.v8 W.v9 W.w W.w0 W.w1 W.w2 W.w3 W.x W.xh W.y W.z W.z0 W.zA W.zB W.zC W.zI W.zN W.zO W.zS W.zS5 W.zU W.zU3 W.zU4 W.zUU W.zf W.zi W.zl W.zm W.zo W.zq W.zt W.zu W.zv W.zw
abbrev Ax:Nat:=6
abbrev sE:Nat:=10
abbrev Fe:Nat:=27
abbrev Gn:Nat:=28
abbrev oY:Nat:=29
abbrev wD:Nat:=30
abbrev C1:Nat:=31
abbrev EF:Nat:=32
abbrev Hn:Nat:=33
abbrev jO:Nat:=34
abbrev rG:Nat:=35
abbrev yV:Nat:=36
abbrev oZ:Nat:=39
abbrev AN:Nat:=42
abbrev EG:Nat:=50
abbrev bQ:Nat:=52
abbrev oH:Nat:=53
abbrev rH:Nat:=54
abbrev Bj:Nat:=55
abbrev tU:Nat:=56
abbrev uU:Nat:=57
abbrev Ff:Nat:=61
abbrev cK:Nat:=63
abbrev mI:Nat:=64
abbrev Ho:Nat:=66
abbrev C2:Nat:=67
abbrev Fg:Nat:=68
abbrev pA:Nat:=69
abbrev EH:Nat:=70
abbrev yW:Nat:=71
abbrev sF:Nat:=72
abbrev EI:Nat:=73
abbrev Fh:Nat:=74
abbrev wE:Nat:=75
abbrev tV:Nat:=76
abbrev Bk:Nat:=77
abbrev C3:Nat:=78
abbrev C4:Nat:=79
abbrev wF:Nat:=80
abbrev Ay:Nat:=81
abbrev lO:Nat:=82
abbrev AO:Nat:=83
abbrev Gp:Nat:=84
abbrev pB:Nat:=85
abbrev xJ:Nat:=87
abbrev pC:Nat:=98
abbrev EJ:Nat:=99
abbrev wW:Nat:=106
abbrev oI:Nat:=108
abbrev sG:Nat:=111
abbrev kV:Nat:=112
abbrev dD:Nat:=113
abbrev Bl:Nat:=114
abbrev iK:Nat:=115
abbrev wG:Nat:=116
abbrev tW:Nat:=118
abbrev C5:Nat:=119
abbrev wX:Nat:=121
abbrev sH:Nat:=122
abbrev yX:Nat:=123
abbrev Hp:Nat:=124
abbrev Fi:Nat:=125
abbrev Fj:Nat:=126
abbrev uV:Nat:=127
abbrev yY:Nat:=128
abbrev Bm:Nat:=129
abbrev Gq:Nat:=130
abbrev fP:Nat:=131
abbrev jC:Nat:=132
abbrev qD:Nat:=133
abbrev Fk:Nat:=134
abbrev nE:Nat:=135
abbrev qT:Nat:=136
abbrev C6:Nat:=137
abbrev lJ:Nat:=138
abbrev vK:Nat:=139
abbrev lP:Nat:=140
abbrev vL:Nat:=141
abbrev xK:Nat:=142
abbrev aV:Nat:=143
abbrev bF:Nat:=144
abbrev mM:Nat:=145
abbrev lQ:Nat:=146
abbrev wH:Nat:=147
abbrev rI:Nat:=148
abbrev bR:Nat:=149
abbrev jP:Nat:=150
abbrev cS:Nat:=151
abbrev qU:Nat:=152
abbrev eG:Nat:=153
abbrev sI:Nat:=154
abbrev uW:Nat:=155
abbrev pD:Nat:=156
abbrev qM:Nat:=157
abbrev vM:Nat:=158
abbrev Bn:Nat:=159
abbrev pR:Nat:=160
abbrev uX:Nat:=161
abbrev cA:Nat:=162
abbrev bL:Nat:=163
abbrev AP:Nat:=164
abbrev jQ:Nat:=165
abbrev gR:Nat:=166
abbrev aW:Nat:=167
abbrev rJ:Nat:=169
abbrev gF:Nat:=178
abbrev vN:Nat:=179
abbrev qE:Nat:=182
abbrev wY:Nat:=183
abbrev yZ:Nat:=184
abbrev wI:Nat:=185
abbrev Ju:Nat:=186
abbrev C7:Nat:=187
abbrev Jv:Nat:=188
abbrev jR:Nat:=189
abbrev tX:Nat:=190
abbrev oJ:Nat:=191
abbrev rK:Nat:=192
abbrev zD:Nat:=193
abbrev gG:Nat:=194
abbrev Bo:Nat:=195
abbrev Bp:Nat:=196
abbrev C8:Nat:=197
abbrev C9:Nat:=198
abbrev DA:Nat:=199
abbrev zF:Nat:=200
abbrev kR:Nat:=202
abbrev Bq:Nat:=203
abbrev DB:Nat:=204
abbrev Hq:Nat:=205
abbrev eN:Nat:=206
abbrev aK:Nat:=207
abbrev iS:Nat:=208
abbrev cQ:Nat:=209
abbrev fQ:Nat:=210
abbrev eH:Nat:=211
abbrev Br:Nat:=212
abbrev bN:Nat:=213
abbrev dL:Nat:=214
abbrev aY:Nat:=215
abbrev wJ:Nat:=216
abbrev iT:Nat:=217
abbrev lK:Nat:=218
abbrev fR:Nat:=219
abbrev kC:Nat:=220
abbrev kO:Nat:=221
abbrev DC:Nat:=222
abbrev xL:Nat:=223
abbrev sJ:Nat:=224
abbrev dV:Nat:=225
abbrev qF:Nat:=226
abbrev fJ:Nat:=227
abbrev gW:Nat:=228
abbrev vO:Nat:=229
abbrev sK:Nat:=230
abbrev xM:Nat:=231
abbrev xN:Nat:=232
abbrev fX:Nat:=233
abbrev nQ:Nat:=234
abbrev Bs:Nat:=235
abbrev sL:Nat:=236
abbrev oK:Nat:=237
abbrev sM:Nat:=243
abbrev Bt:Nat:=244
abbrev uJ:Nat:=245
abbrev zG:Nat:=246
abbrev Bu:Nat:=247
abbrev sO:Nat:=256
abbrev nR:Nat:=257
abbrev bI:Nat:=258
abbrev dW:Nat:=259
abbrev iL:Nat:=260
abbrev uK:Nat:=261
abbrev lR:Nat:=262
abbrev tY:Nat:=263
abbrev uL:Nat:=264
abbrev uM:Nat:=265
abbrev wK:Nat:=266
abbrev qN:Nat:=267
abbrev Bv:Nat:=268
abbrev mN:Nat:=269
abbrev iU:Nat:=270
abbrev gN:Nat:=271
abbrev zH:Nat:=272
abbrev zJ:Nat:=273
abbrev xO:Nat:=274
abbrev DD:Nat:=275
abbrev bA:Nat:=276
abbrev cD:Nat:=277
abbrev fL:Nat:=278
abbrev dP:Nat:=279
abbrev eI:Nat:=280
abbrev dX:Nat:=281
abbrev cO:Nat:=282
abbrev cC:Nat:=283
abbrev cY:Nat:=284
abbrev mW:Nat:=285
abbrev jJ:Nat:=286
abbrev tZ:Nat:=287
abbrev fC:Nat:=288
abbrev cT:Nat:=289
abbrev uA:Nat:=290
abbrev wL:Nat:=291
abbrev Bw:Nat:=292
abbrev bV:Nat:=293
abbrev pS:Nat:=294
abbrev fM:Nat:=295
abbrev dC:Nat:=309
abbrev iM:Nat:=310
abbrev jK:Nat:=311
abbrev uY:Nat:=312
abbrev uZ:Nat:=313
abbrev lS:Nat:=315
abbrev mO:Nat:=316
abbrev dY:Nat:=319
abbrev iC:Nat:=320
abbrev iD:Nat:=321
abbrev lT:Nat:=322
abbrev iV:Nat:=323
abbrev dF:Nat:=324
abbrev fN:Nat:=325
abbrev dM:Nat:=326
abbrev gO:Nat:=327
abbrev cU:Nat:=328
abbrev fB:Nat:=329
abbrev dG:Nat:=330
abbrev bO:Nat:=331
abbrev dO:Nat:=332
abbrev eR:Nat:=333
abbrev tL:Nat:=334
abbrev pT:Nat:=335
abbrev qV:Nat:=336
abbrev qG:Nat:=337
abbrev mD:Nat:=338
abbrev nS:Nat:=339
abbrev pE:Nat:=340
abbrev sP:Nat:=341
abbrev xP:Nat:=342
abbrev sQ:Nat:=343
abbrev xQ:Nat:=344
abbrev dK:Nat:=345
abbrev fD:Nat:=359
abbrev jL:Nat:=360
abbrev eJ:Nat:=361
abbrev dJ:Nat:=362
abbrev cL:Nat:=363
end
section
open W
def JB:cF oY [(5,none,3)]=some ⟨46,[(4,none)],S [R 4 1 [0] [J 2 (b t0),J 4 (M z)],S [R0 7 8 [O (eq (n v1) w0) (eq (n (l (f 1 t2))) w0)],If 15 [1] (S [R 16 2 [2] [A 4 (c1 EI (L 5 t2))],.ret])],S [iz 5,ow 5 3],S [i0 6,fo 0 18 7 (N (ls v6 (n v1)) (ls v6 (w 4))) [1,6] 6 (S [D 28 15 [] [v5,L 3 (i 3 (l (f 2 t2)) (K [zl 30 29,zf 29 2 2,zm 28 5] (c2 sE (l (i 1 v1 v6)) (n (l (f 2 t2)))))),Ah 5 (a 3 24 (t 28) (K [zm 28 5] (ba 3 zI (t 40))))],ow 5 3])],R 43 3 [2,5] [A 4 (c2 Fh (L 5 t2) v5)],.ret]⟩:=by kernel_rfl
def LG:cF C1 [(4,none,3),(6,none,1),(10,none,1),(11,none,3)]=some ⟨77,[(4,none)],S [R 4 1 [0] [J 2 (b t0),J 4 (M z)],R0 13 2 [A 5 (c1 Bk (L 5 t2))],S [iz 6,ow 6 1],S [i0 7,fo 0 15 3 (ls v7 (n v1)) [1,7,5] 7 (S [D 21 6 [] [A 8 (c2 C3 (L 5 t2) (L 3 (i 3 v1 v7)))],S [R0 27 1 [ls v8 w0],If 28 [8] (ex 1)],i0 9,lo 2 (S [S [D 29 13 [] [N (ls v9 (n v6)) (c4 C4 (L 5 t2) v5 (l (i 1 v6 v9)) v8)],Ie 42 [] .skip [] (ex 2)],bw 3 (R0 43 2 [A 9 (ad v9 w1)])]),S [iz 10,ow 10 1],S [R0 45 5 [v10,v6,v9,A 10 (a 1 8 (t 45) (x (.slc (zt 46) none (some (zt 47)) 1)))],ow 10 1],S [R 50 4 [8] [A 10 (a 1 8 v10 (ba 1 [z0] v8))],ow 10 1],R 54 5 [10,9] [v10,v6,v9,A 6 (a 1 8 (t 54) (x (.slc (zt 55) (some (zt 56)) none 1)))],ow 6 1])],S [iz 11,ow 11 3],S [i0 12,fo 4 59 3 (ls v12 (n v6)) [2,6,12] 12 (S [D 65 11 [] [Ah 11 (a 3 24 v11 (K [zm 65 11] (ba 3 zI (L 3 (i 3 (l (f 2 t2)) (l (i 1 v6 v12)))))))],ow 11 3])],S [R 76 1 [11] [A 4 v11],ow 4 3],.ret]⟩:=by kernel_rfl
def LH:cF jO []=some ⟨21,[(4,none)],S [R 4 1 [0,1] [J 2 (b t0),b t1,M w0],S [i0 5,fo 0 6 4 (ls v5 (n (l (f 2 t2)))) [2,5,3] 5 (S [D 13 6 [] [ea false [.int .i64,.int .i64,.int .u64] (L 3 (i 3 (l (f 2 t2)) v5)) (L 3 t3)],If 19 [3,2] (S [R 20 1 [5] [A 4 v5],.ret])])],E0 [A 4 (w (-1))],.ret]⟩:=by kernel_rfl
def M0:cF Ff []=some ⟨28,[(4,some (some 5)),(5,none)],S [R 5 1 [0] [J 2 (b t0),J 4 (al zC),M F],S [i0 6,fo 0 7 4 (ls v6 (n (l (f 0 t2)))) [2,6,1] 6 (S [R0 14 7 [eq (l (f 0 (i 5 (l (f 0 t2)) v6))) v1],If 21 [1] (S [R 22 5 [2,6] [s 5 t4 (L 5 (i 5 (l (f 0 t2)) v6)),A 5 T],.ret])])],R0 27 1 [s 5 t4 (x (.bld zC [])),A 5 F],.ret]⟩:=by kernel_rfl
def O8:cF Ho []=some ⟨5,[(2,some (some 5))],S [E 2 [al zS5],R 3 2 [0] [s 5 t2 (q1 zS5 v0)],.ret]⟩:=by kernel_rfl
def LI:cF C2 [(2,none,5),(3,none,5)]=some ⟨33,[(2,none)],S [R0 2 1 [M z],S [iz 3,ow 3 5],S [i0 4,fo 0 6 3 (ls v4 (n v0)) [4,0] 4 (S [R0 12 2 [A 5 (ad v4 w1)],D 14 18 [5] [v3,v5,l (i 1 v0 v4),v5,J 23 v5,J 26 v5,J 21 (K [zm 26 5,zm 23 5,zl 19 18,zi 18 16 17 1,zm 17 4,zm 16 0,zm 15 5,zm 14 3] (c2 pC (kc (.const (.string (Hud.bs [108,101,97,100])))) (t 20))),K [zm 26 5,zm 23 5,zl 19 18,zi 18 16 17 1,zm 17 4,zm 16 0,zm 15 5,zm 14 3] (c1 wX (t 21)),J 24 (K [zm 26 5,zl 19 18,zi 18 16 17 1,zm 17 4,zm 16 0,zm 15 5,zm 14 3] (c2 pC (kc (.const (.string (Hud.bs [107,101,101,112])))) (t 23))),K [zm 26 5,zl 19 18,zi 18 16 17 1,zm 17 4,zm 16 0,zm 15 5,zm 14 3] (c1 wX (t 24)),J 27 (K [zl 19 18,zi 18 16 17 1,zm 17 4,zm 16 0,zm 15 5,zm 14 3] (c2 pC (kc (.const (.string (Hud.bs [115,105,103,110])))) (t 26))),K [zl 19 18,zi 18 16 17 1,zm 17 4,zm 16 0,zm 15 5,zm 14 3] (c1 wX (t 27)),Ah 3 (a 5 40 (t 14) (K [zm 14 3] (ba 5 zC (x (.bld zC [(0,(1,zt 15)),(1,(1,zt 19)),(2,(1,zt 22)),(3,(1,zt 25)),(4,(1,zt 28))])))))],ow 3 5])],S [R 32 1 [3] [A 2 v3],ow 2 5],.ret]⟩:=by kernel_rfl
def JC:cF pA []=some ⟨11,[(2,some (some 27))],S [R 1 0 [0] [b t0,al zO],D 3 7 [] [l (f 0 t1),J 6 (L 27 t1),J 5 (K [zv 6 27 1] (c2 pC (kc (.const (.string (Hud.bs [115,105,103,110])))) t4)),J 7 (c2 Fj t5 (c1 uV t6)),s 2 (f 25 t1) t8],R 10 1 [1] [s 27 t2 (L 27 t1)],.ret]⟩:=by kernel_rfl
def O9:cF EH [(11,none,1),(75,none,1001),(83,none,1001),(9,some 4,1)]=some ⟨87,[(4,some (some 5)),(5,none)],S [R 5 1 [0,1] [J 2 (b t0),b t1,al zS5,M w0],R 13 3 [17,16,12] [c2 yY (L 5 t2) (L 27 t3),J 12 v15,J 16 (e 0 (t 12)),e 1 (t 12),A 6 (t 16),A 7 (t 17)],S [R0 18 1 [ne v6 w0],Iz 19 [7,3] (S [R 20 2 [2,6] [L 5 t2,v6,s 5 t4 (t 20),A 5 (t 21)],.ret]) [6]],R0 22 3 [A 8 (c2 Bm (L 5 t2) v7)],S [E 9 [al zS5],oc 9 4 1],R0 25 3 [l (f 0 t2),s 1 (f 0 t9) (t 26)],S [.regd (zq (zf 28 9 1) (zq (zl 29 28) (zq (zf 30 2 1) (zq (zl 31 30) (zq (zv 33 27 3) (zA (zo 32 (.app (zt 29) (zt 31) 27 328)) [zv 33 27 3] (zA (zo 34 (.bsl 27 zO [(0,(27,zt 33))] 1)) [] (zA (zo 35 (.app (zt 32) (zt 34) 27 328)) [] (zq (zf 36 9 1) (zA (⟨none,.st 1 (zt 36) (zt 35),none⟩) [] (.done true) .no)) .no) .no) (zA (zo 34 (.bsl 27 zO [(0,(27,zt 33))] 1)) [zl 31 30,zf 30 2 1,zl 29 28,zf 28 9 1] (zA (zo 32 (.app (zt 29) (zt 31) 27 328)) [] (zA (zo 35 (.app (zt 32) (zt 34) 27 328)) [] (zq (zf 36 9 1) (zA (⟨none,.st 1 (zt 36) (zt 35),none⟩) [] (.done true) .no)) .no) .no) .no))))))),.kill [36,35,34,33,32,31,30,29,28]],D 37 10 [3] [l (f 2 t9),l (f 2 t2),J 42 (L 27 t3),J 41 (K [zv 42 27 3] (a 3 24 (t 38) (t 40))),J 43 (a 3 24 (t 41) (ba 3 zI (c1 Gq (t 42)))),s 1 (f 2 t9) (t 45)],R 47 9 [7] [a 1 24 (a 1 24 (l (f 3 t9)) (l (f 3 t2))) (ba 1 [zS] v7),s 1 (f 3 t9) (t 54)],S [i0 10,fo 0 56 4 (ls v10 (n (l (f 4 t2)))) [10,2] 10 (S [S [iz 11,ow 11 1],S [R0 63 7 [A 11 (a 1 1 v11 (l (i 1 (l (f 4 t2)) v10)))],ow 11 1],D 70 8 [11] [l (f 4 t9),v11,K [zm 72 11,zl 71 70,zf 70 9 4] (ba 1 [.bool false] F),K [zl 71 70,zf 70 9 4] (a 1 1 (t 72) (t 73)),a 1 24 (t 71) (K [zl 71 70,zf 70 9 4] (xh (.bslS 1 [zS] [(0,(1,zt 74))] 1))),s 1 (f 4 t9) (t 76)]])],D 78 8 [8] [l (f 4 t9),v8,K [zm 80 8,zl 79 78,zf 78 9 4] (ba 1 [.bool false] F),K [zl 79 78,zf 78 9 4] (a 1 1 (t 80) (t 81)),a 1 24 (t 79) (K [zl 79 78,zf 78 9 4] (xh (.bslS 1 [zS] [(0,(1,zt 82))] 1))),s 1 (f 4 t9) (t 84)],R 86 1 [9] [s 5 t4 (L 5 t9),A 5 w0],.ret]⟩:=by kernel_rfl
def PA:cF EI []=some ⟨6,[(2,none)],S [R 2 1 [0] [J 1 (b t0),M z],R 3 3 [1] [c1 oZ (l (f 2 t1)),J 2 v5],.ret]⟩:=by kernel_rfl
def M1:cF Fh []=some ⟨41,[(4,none)],S [R 4 1 [0] [J 2 (b t0),J 4 (M z)],R0 7 3 [A 5 (c2 xK (L 5 t2) v1)],S [i0 6,fo 0 10 3 (ls v6 (n v1)) [2,1,6] 6 (S [D 16 15 [] [N (ge (c2 jO (L 5 t2) (L 3 (i 3 v1 v6))) w0) (o (c2 rG v5 (L 3 (i 3 v1 v6))))],If 31 [] (R0 32 7 [A 5 (a 3 24 v5 (ba 3 zI (L 3 (i 3 v1 v6))))])])],R 39 2 [5] [A 4 (c1 oZ v5)],.ret]⟩:=by kernel_rfl
def JD:cF Bk [(2,none,1),(3,none,1)]=some ⟨43,[(2,none)],S [R 2 1 [0] [J 1 (b t0),M z],S [iz 3,ow 3 1],S [i0 4,fo 0 7 4 (ls v4 (n (l (f 1 t1)))) [1,4] 4 (S [E0 [A 5 w1],S [i0 6,fo 2 14 7 (ls v6 (n (l (i 1 (l (f 3 t1)) v4)))) [6] 6 (R0 24 14 [A 5 (mm true v5 (ad w1 (l (i 1 v3 (l (i 1 (l (i 1 (l (f 3 t1)) v4)) v6))))))])],R 38 4 [5] [A 3 (a 1 8 v3 (ba 1 [z0] v5))],ow 3 1])],S [R 42 1 [3] [A 2 v3],ow 2 1],.ret]⟩:=by kernel_rfl
def LJ:cF C3 []=some ⟨8,[(4,none)],S [R 4 1 [0,1] [J 2 (b t0),b t1,M w0],R 5 3 [2,3] [c2 jO (L 5 t2) (L 3 t3),J 4 v7],.ret]⟩:=by kernel_rfl
def LL:cF C4 []=some ⟨38,[(8,none)],S [R 8 1 [0] [J 4 (b t0),J 8 (M F)],S [D 9 8 [] [ne (l (i 1 v1 v2)) (l (i 1 v1 v3))],Iz 17 [4] (S [D 18 9 [1,2,3] [A 8 (ls (l (i 1 v1 v2)) (l (i 1 v1 v3)))],.ret]) [1]],D 27 11 [4,2,3] [A 8 (c2 xJ (L 3 (i 3 (l (f 2 t4)) v2)) (L 3 (i 3 (l (f 2 t4)) v3)))],.ret]⟩:=by kernel_rfl
def JE:cF pC []=some ⟨10,[(4,none)],S [R0 4 1 [M (u 0)],R 5 5 [0,1] [c2 wG v0 (ba 1 [zU] (cw .u64 v1)),J 4 v9],.ret]⟩:=by kernel_rfl
def LM:cF yX [(6,none,3)]=some ⟨51,[(4,none)],S [R 4 1 [0] [J 2 (b t0),J 4 (M z)],R0 8 3 [A 5 (c2 xK (L 5 t2) v1)],S [iz 6,ow 6 3],S [i0 7,fo 0 11 3 (ls v7 (n v1)) [2,1,7,5] 7 (S [D 17 24 [] [N (N (ge (c2 jO (L 5 t2) (L 3 (i 3 v1 v7))) w0) (o (c2 rG v5 (L 3 (i 3 v1 v7))))) (o (c2 rG v6 (L 3 (i 3 v1 v7))))],If 41 [] (S [R0 42 7 [A 6 (a 3 24 v6 (ba 3 zI (L 3 (i 3 v1 v7))))],ow 6 3])])],R 49 2 [6] [A 4 (c1 oZ v6)],.ret]⟩:=by kernel_rfl
def PB:cF Hp []=some ⟨31,[(6,none)],S [R 3 1 [0,6] [b t0,A 6 w0],i0 7,S [i0 8,fo 0 9 3 (ls v8 (n v1)) [1,8,2] 8 (S [R0 15 6 [eq (l (f 0 (i 3 v1 v8))) v2],If 21 [] (R0 22 7 [A 7 (mm true v7 (l (f 1 (i 3 v1 v8))))])])],R 29 2 [7] [A 6 (ad v7 w1)],.ret]⟩:=by kernel_rfl
def M2:cF Fi []=some ⟨31,[(4,none)],S [R 4 1 [0] [J 2 (b t0),J 4 (M w0)],i0 5,S [i0 6,fo 0 8 3 (ls v6 (n v1)) [2,1,6] 6 (S [D 14 6 [] [A 7 (c2 jO (L 5 t2) (L 3 (i 3 v1 v6)))],R0 20 1 [ge v7 w0],Iz 21 [] (R 22 8 [7] [A 5 (mm true v5 (l (f 3 (i 27 (l (f 1 t2)) v7))))]) [7]])],R 30 1 [5] [A 4 v5],.ret]⟩:=by kernel_rfl
def LN:cF uV [(2,none,1)]=some ⟨169,[(2,none)],S [R 2 1 [0] [J 1 (b t0),M z],R0 7 13 [l (f 0 t1),l (f 1 t1),l (f 2 t1),l (f 3 t1),n (l (f 4 t1)),A 3 (c1 tX (x (.bsl 1 [z0,z0,z0,z0,z0] [(0,(1,zt 8)),(1,(1,zt 10)),(2,(1,zt 12)),(3,(1,zt 14)),(4,(1,zt 17))] 5)))],S [i0 4,fo 0 20 4 (ls v4 (n (l (f 4 t1)))) [4] 4 (R0 27 8 [A 3 (a 1 1 v3 (c1 oJ (L 3 (i 3 (l (f 4 t1)) v4))))])],R0 35 15 [v3,l (f 5 t1),l (f 6 t1),l (f 7 t1),l (f 8 t1),n (l (f 9 t1)),A 3 (a 1 1 (t 35) (c1 tX (x (.bsl 1 [z0,z0,z0,z0,z0] [(0,(1,zt 37)),(1,(1,zt 39)),(2,(1,zt 41)),(3,(1,zt 43)),(4,(1,zt 46))] 5))))],S [i0 5,fo 2 50 4 (ls v5 (n (l (f 9 t1)))) [5] 5 (S [R0 57 9 [A 3 (a 1 1 v3 (c1 rK (l (f 0 (i 2 (l (f 9 t1)) v5)))))],R0 66 9 [A 3 (a 1 1 v3 (c1 zD (l (f 1 (i 2 (l (f 9 t1)) v5)))))]])],R0 75 5 [A 3 (a 1 1 v3 (c1 oJ (L 3 (f 10 t1))))],R0 80 5 [A 3 (a 1 1 v3 (c1 gG (l (f 13 t1))))],R0 85 6 [v3,l (f 14 t1),A 3 (a 1 1 (t 85) (c1 Bo (x (.b2s (zt 87)))))],R0 91 6 [A 3 (a 1 1 v3 (c1 gG (n (l (f 15 t1)))))],R0 97 5 [A 3 (a 1 1 v3 (c1 Bp (l (f 15 t1))))],R0 102 5 [A 3 (a 1 1 v3 (c1 oJ (L 3 (f 16 t1))))],R0 107 6 [A 3 (a 1 1 v3 (c1 gG (n (l (f 19 t1)))))],R0 113 5 [A 3 (a 1 1 v3 (c1 tX (l (f 19 t1))))],R0 118 8 [A 3 (a 1 1 v3 (c1 tX (j2 [z0,z0] (l (f 20 t1)) (l (f 21 t1)))))],R0 126 5 [A 3 (a 1 1 v3 (c1 zD (l (f 22 t1))))],R0 131 5 [A 3 (a 1 1 v3 (c1 rK (l (f 23 t1))))],R0 136 6 [A 3 (a 1 1 v3 (c1 gG (n (l (f 24 t1)))))],S [i0 6,fo 4 142 4 (ls v6 (n (l (f 24 t1)))) [1,6] 6 (S [R0 149 9 [A 3 (a 1 1 v3 (c1 oJ (L 3 (f 0 (i 4 (l (f 24 t1)) v6)))))],R0 158 10 [v3,l (f 3 (i 4 (l (f 24 t1)) v6)),A 3 (a 1 1 (t 158) (c1 Bo (x (.b2s (zt 164)))))]])],S [R 168 1 [3] [A 2 v3],ow 2 1],.ret]⟩:=by kernel_rfl
def LO:cF yY [(5,none,1),(10,none,1)]=some ⟨122,[(4,none),(5,none)],S [R 4 2 [0,1] [J 2 (b t0),b t1,M w0,M z],R0 15 2 [A 6 (c1 C8 (L 27 t3))],S [R0 17 1 [ne v6 w0],Iz 18 [2,3] (S [S [R 19 1 [6] [A 4 v6,A 5 z],ow 5 1],.ret]) [6]],S [D 20 4 [] [ge (c2 jO (L 5 t2) (K [zv 20 5 2] (c1 Gq (L 27 t3)))) w0],If 24 [2,3] (S [S [E0 [A 4 (w 5),A 5 z],ow 5 1],.ret])],S [R0 25 3 [ge (n (l (f 1 t2))) (w 200)],If 28 [2,3] (S [S [E0 [A 4 w3,A 5 z],ow 5 1],.ret])],R 30 4 [35,34,29] [c2 Ff (L 5 t2) (l (f 0 t3)),J 29 v33,J 34 (e 0 (t 29)),e 1 (t 29),J 7 (s 5 (al zC) (t 34)),A 8 (t 35)],S [R 36 1 [8] [o v8],If 37 [7,3,2] (S [S [E0 [A 4 (w 17),A 5 z],ow 5 1],.ret])],D 38 7 [7] [l (f 4 t7),L 27 t3,J 42 (L 2 (f 25 t3)),J 41 (K [zv 43 2 42,zf 42 3 25,zl 39 38,zf 38 7 4] (c1 uV (t 40))),J 44 (A 9 (c3 C9 (t 39) (t 41) (t 43)))],S [R 45 1 [9] [o v9],If 46 [3,2] (S [S [E0 [A 4 (w 12),A 5 z],ow 5 1],.ret])],S [R0 47 8 [N (eq (l (f 2 t3)) w1) (gt (n (l (f 1 t2))) w0)],If 55 [3,2] (S [S [E0 [A 4 w1,A 5 z],ow 5 1],.ret])],S [iz 10,ow 10 1],S [i0 11,fo 0 56 4 (ls v11 (n (l (f 4 t3)))) [11] 11 (S [D 63 7 [] [A 12 (c2 jO (L 5 t2) (L 3 (i 3 (l (f 4 t3)) v11)))],S [R0 70 1 [ls v12 w0],If 71 [10,12,3,2,11] (S [S [E0 [A 4 (w 10),A 5 z],ow 5 1],.ret])],R 72 4 [12] [A 10 (a 1 8 v10 (ba 1 [z0] v12))],ow 10 1])],S [i0 13,fo 2 76 3 (ls v13 (n v10)) [13] 13 (S [S [i0 14,fo 4 82 3 (ls v14 (n v10)) [14] 14 (S [D 88 13 [] [l (i 1 (l (i 1 (l (f 4 t2)) (l (i 1 v10 v13)))) (l (i 1 v10 v14)))],If 101 [14,13,2,3,10] (S [S [E0 [A 4 (w 6),A 5 z],ow 5 1],.ret])])],D 102 11 [] [ls (l (f 3 t3)) (l (f 3 (i 27 (l (f 1 t2)) (l (i 1 v10 v13)))))],If 113 [13,3,2,10] (S [S [E0 [A 4 (w 6),A 5 z],ow 5 1],.ret])])],S [D 114 6 [2,3] [o (c3 DA (L 5 t2) (L 27 t3) (K [zv 115 27 3,zv 114 5 2] (c2 Bm (L 5 t2) v10)))],If 120 [10] (S [S [E0 [A 4 (w 11),A 5 z],ow 5 1],.ret])],S [R 121 1 [10] [v10,A 4 w0,A 5 (t 121)],ow 5 1],.ret]⟩:=by kernel_rfl
def M3:cF Bm [(4,none,1)]=some ⟨51,[(4,none)],S [R 4 1 [0] [J 2 (b t0),J 4 (M z)],R0 8 4 [n (l (f 1 t2)),A 5 (x (.mks 1 [.bool false] 1 (zt 10) (zt 10)))],S [R0 12 4 [A 6 (sb (n (l (f 1 t2))) w1)],lo 0 (S [S [R0 16 1 [ge v6 w0],Ie 17 [] .skip [1,6,2] (ex 0)],bw 1 (S [S [R0 20 2 [c2 EG v1 v6],If 22 [] (R0 23 3 [s 1 (i 1 v5 v6) T])],R0 26 3 [l (i 1 v5 v6)],If 29 [] (S [i0 7,fo 2 30 7 (ls v7 (n (l (i 1 (l (f 3 t2)) v6)))) [7] 7 (R0 40 10 [s 1 (i 1 v5 (l (i 1 (l (i 1 (l (f 3 t2)) v6)) v7))) T])])]),R0 18 2 [A 6 (sb v6 w1)]])],S [R 50 1 [5] [A 4 v5],ow 4 1],.ret]⟩:=by kernel_rfl
def RW:cF Gq []=some ⟨11,[(2,some (some 3))],S [R 1 0 [0] [b t0,al zI],D 3 8 [1] [l (f 0 t1),l (f 1 t1),K [zl 6 5,zf 5 1 1,zl 4 3,zf 3 1 0] (c1 uV (L 27 t1)),s 3 t2 (q3 zI t4 t6 (K [zl 6 5,zf 5 1 1,zl 4 3,zf 3 1 0] (c2 zF (kc (.const (.string (Hud.bs [111,112])))) t8)))],.ret]⟩:=by kernel_rfl
def M4:cF xK [(5,none,3)]=some ⟨56,[(4,none)],S [R 4 1 [0] [J 2 (b t0),J 4 (M z)],S [iz 5,ow 5 3],S [i0 6,fo 0 10 4 (ls v6 (n (l (f 1 t2)))) [1,2,6] 6 (S [E0 [A 7 F],S [i0 8,fo 2 17 3 (ls v8 (n v1)) [8] 8 (S [D 23 6 [] [A 9 (c2 jO (L 5 t2) (L 3 (i 3 v1 v8)))],R 29 16 [9] [A 7 (O v7 (N (ge v9 w0) (l (i 1 (l (i 1 (l (f 4 t2)) (mm true v9 w0))) v6))))]])],R 0 0 [7] [A 45 t7],If 45 [] (S [R0 46 8 [A 5 (a 3 24 v5 (ba 3 zI (L 3 (i 3 (l (f 2 t2)) v6))))],ow 5 3])])],R 54 2 [5] [A 4 (c1 oZ v5)],.ret]⟩:=by kernel_rfl
def JF:cF wI []=some ⟨21,[(2,none)],S [R0 2 1 [M F],R 3 18 [0] [O (O (O (O (eq v0 w1) (eq v0 w2)) (eq v0 w3)) (eq v0 (w 4))) (eq v0 (w 13)),J 2 v20],.ret]⟩:=by kernel_rfl
def M5:cF tX [(2,none,1),(3,none,1)]=some ⟨19,[(2,none)],S [R0 2 1 [M z],S [iz 3,ow 3 1],S [i0 4,fo 0 5 3 (ls v4 (n v0)) [0,4] 4 (S [R0 11 7 [A 3 (a 1 1 v3 (c1 gG (l (i 1 v0 v4))))],ow 3 1])],S [R 18 1 [3] [A 2 v3],ow 2 1],.ret]⟩:=by kernel_rfl
def LP:cF zD [(2,none,1)]=some ⟨39,[(2,none)],S [R0 2 1 [M z],R0 5 3 [A 3 (c1 gG (n v0))],S [i0 4,fo 0 8 3 (ls v4 (n v0)) [0,4] 4 (D 14 24 [] [v3,K [zm 14 3] (j4 zU4 (l (f 0 (i 4 v0 v4))) (l (f 1 (i 4 v0 v4))) (l (f 2 (i 4 v0 v4))) (l (f 3 (i 4 v0 v4)))),Ah 3 (a 1 1 (t 14) (K [zm 14 3] (c1 Bp (t 35))))])],S [R 38 1 [3] [A 2 v3],ow 2 1],.ret]⟩:=by kernel_rfl
def M6:cF Bp [(2,none,1),(3,none,1)]=some ⟨19,[(2,none)],S [R0 2 1 [M z],S [iz 3,ow 3 1],S [i0 4,fo 0 5 3 (ls v4 (n v0)) [0,4] 4 (S [R0 11 7 [A 3 (a 1 1 v3 (c1 rK (l (i 1 v0 v4))))],ow 3 1])],S [R 18 1 [3] [A 2 v3],ow 2 1],.ret]⟩:=by kernel_rfl
def LQ:cF C8 []=some ⟨73,[(2,none)],S [R 2 1 [0] [J 1 (b t0),M w0],S [R0 5 7 [O (ls (l (f 2 t1)) w1) (gt (l (f 2 t1)) (w 13))],If 12 [1] (S [E0 [A 2 w1],.ret])],S [R0 13 2 [o (c1 Bt (L 27 t1))],If 15 [1] (S [E0 [A 2 w1],.ret])],S [R0 16 7 [O (o (c1 uJ (L 27 t1))) (o (c1 zG (L 27 t1)))],If 23 [1] (S [E0 [A 2 (w 8)],.ret])],S [R0 24 1 [c1 Bu (L 27 t1)],If 25 [1] (S [E0 [A 2 w2],.ret])],S [E0 [A 3 w1],fo 0 26 4 (ls v3 (n (l (f 4 t1)))) [3] 3 (S [D 33 12 [] [o (c2 xJ (L 3 (i 3 (l (f 4 t1)) (sb v3 w1))) (L 3 (i 3 (l (f 4 t1)) v3)))],If 45 [3,1] (S [E0 [A 2 (w 6)],.ret])])],S [E0 [A 4 w1],fo 2 46 4 (ls v4 (n (l (f 19 t1)))) [4] 4 (S [D 53 11 [] [ge (l (i 1 (l (f 19 t1)) (sb v4 w1))) (l (i 1 (l (f 19 t1)) v4))],If 64 [4,1] (S [E0 [A 2 (w 6)],.ret])])],S [R 65 7 [1] [eq (n (l (f 4 t1))) w0,eq (l (f 2 t1)) w1,x (.eqb true (zt 68) (zt 71))],If 72 [] (S [E0 [A 2 (w 10)],.ret])],i0 2,.ret]⟩:=by kernel_rfl
def LR:cF DA []=some ⟨60,[(6,none)],S [R 6 1 [0,1] [J 3 (b t0),b t1,J 6 (M F)],E0 [A 7 F],S [i0 8,fo 0 9 4 (ls v8 (n (l (f 1 t3)))) [2,8,3] 8 (S [S [D 16 15 [] [O (o (l (i 1 v2 v8))) (ne (l (f 0 (i 27 (l (f 1 t3)) v8))) (l (f 0 t4)))],If 31 [] (ex 1)],S [D 32 8 [] [ge (l (f 1 (i 27 (l (f 1 t3)) v8))) (l (f 1 t4))],If 40 [7,3,8,4,2] (S [E0 [A 6 F],.ret])],D 41 13 [] [Ah 7 (O v7 (eq (l (f 1 (i 27 (l (f 1 t3)) v8))) (sb (l (f 1 t4)) w1)))]])],R 54 6 [4,7] [A 6 (O (eq (l (f 1 t4)) w1) v7)],.ret]⟩:=by kernel_rfl
def M7:cF Bt []=some ⟨190,[(2,none)],S [R 2 1 [0] [J 1 (b t0),M F],R0 5 2 [A 3 (l (f 2 t1))],R0 7 22 [A 4 (O (O (O (O (O (eq v3 (w 7)) (eq v3 (w 8))) (eq v3 (w 12))) (eq v3 (w 10))) (eq v3 (w 11))) (eq v3 (w 13)))],S [R0 29 18 [N (N (N (N (ne (l (f 5 t1)) w0) (ne v3 w2)) (ne v3 w3)) (ne v3 (w 11))) (ne v3 (w 13))],If 47 [1,3,4] (S [E0 [A 2 F],.ret])],S [R0 48 32 [O (O (N (ne (l (f 6 t1)) w0) (ne v3 (w 13))) (N (N (ne (l (f 7 t1)) w0) (ne v3 w3)) (ne v3 (w 5)))) (N (N (ne (l (f 8 t1)) w0) (ne v3 w2)) (ne v3 (w 5)))],If 80 [1,3,4] (S [E0 [A 2 F],.ret])],S [R0 81 8 [N (gt (n (l (f 9 t1))) w0) (o (c1 wI v3))],If 89 [3,1,4] (S [E0 [A 2 F],.ret])],S [R0 90 18 [N (ne v3 (w 6)) (O (O (ea true [.int .i64,.int .i64,.int .u64] (L 3 (f 10 t1)) (x (.bld zI []))) (ne (l (f 13 t1)) w0)) (gt (n (l (f 15 t1))) w0))],If 108 [1,3,4] (S [E0 [A 2 F],.ret])],S [R 109 21 [4] [O (N (N (gt (n (l (f 14 t1))) w0) (ne v3 (w 6))) (ne v3 (w 7))) (N (ea true [.int .i64,.int .i64,.int .u64] (L 3 (f 16 t1)) (x (.bld zI []))) (o v4))],If 130 [3,1] (S [E0 [A 2 F],.ret])],S [R0 131 17 [N (ne v3 (w 9)) (O (O (gt (n (l (f 19 t1))) w0) (ne (l (f 21 t1)) w0)) (ne (l (f 23 t1)) (u 0)))],If 148 [1,3] (S [E0 [A 2 F],.ret])],S [R0 149 28 [O (N (N (ne (l (f 20 t1)) w0) (ne v3 (w 9))) (ne v3 w1)) (N (N (N (gt (n (l (f 22 t1))) w0) (ne v3 (w 9))) (ne v3 (w 10))) (ne v3 (w 11)))],If 177 [1,3] (S [E0 [A 2 F],.ret])],R 178 12 [1,3] [A 2 (O (O (eq (n (l (f 24 t1))) w0) (eq v3 w2)) (eq v3 (w 13)))],.ret]⟩:=by kernel_rfl
def Hr:cF uJ []=some ⟨124,[(2,none)],S [R 2 1 [0] [J 1 (b t0),M F],S [R0 3 15 [O (O (o (c3 dC (l (f 0 t1)) w1 (w 12))) (o (c3 dC (l (f 1 t1)) w1 (w 2147483647)))) (o (c3 dC (l (f 3 t1)) w0 (w 2147483647)))],If 18 [1] (S [E0 [A 2 F],.ret])],S [R0 19 1 [l (f 2 t1)],bw 0 (S [R0 22 1 [eq (t 20) w1,J 21 v22],Ie 21 [20] (S [R 23 3 [1] [A 2 (c3 dC (l (f 20 t1)) w0 (w 20))],.ret]) [] (S [R0 27 1 [eq (t 20) w2,J 26 v27],Ie 26 [20] (S [R 28 8 [1] [A 2 (N (c3 dC (l (f 5 t1)) w1 (w 12)) (c3 dC (l (f 8 t1)) w1 w3))],.ret]) [] (S [R0 37 1 [eq (t 20) w3,J 36 v37],Ie 36 [20] (S [R 38 18 [1] [A 2 (O (N (c3 dC (l (f 5 t1)) w1 (w 12)) (eq (l (f 7 t1)) w0)) (N (eq (l (f 5 t1)) w0) (c3 dC (l (f 7 t1)) w1 (w 8))))],.ret]) [] (S [R0 57 1 [eq (t 20) (w 5),J 56 (v 57)],Ie 56 [20] (S [R 58 8 [1] [A 2 (N (c3 dC (l (f 7 t1)) w1 (w 8)) (c3 dC (l (f 8 t1)) w1 w3))],.ret]) [] (S [R0 67 1 [eq (t 20) (w 6),J 66 (v 67)],Ie 66 [20] (S [R 68 8 [1] [A 2 (N (c1 iM (L 3 (f 10 t1))) (c3 dC (l (f 13 t1)) w0 (w 2147483647)))],.ret]) [] (S [R0 77 1 [eq (t 20) (w 9),J 76 (v 77)],Ie 76 [20] (S [R 78 16 [1] [A 2 (N (N (c3 dC (l (f 20 t1)) w1 (n (l (f 19 t1)))) (c3 dC (l (f 21 t1)) w0 (w 2147483647))) (c1 jK (l (f 23 t1))))],.ret]) [] (S [R0 95 1 [eq (t 20) (w 11),J 94 (v 95)],Ie 94 [20] (S [R 96 8 [1] [A 2 (N (c1 iM (L 3 (f 16 t1))) (c3 dC (l (f 5 t1)) w1 (w 12)))],.ret]) [] (S [R0 105 1 [eq (t 20) (w 13),J 104 (v 105)],Ie 104 [20] (S [R 106 13 [1] [A 2 (N (N (c1 iM (L 3 (f 16 t1))) (c3 dC (l (f 5 t1)) w1 (w 12))) (c3 dC (l (f 6 t1)) w1 (w 12)))],.ret]) [] (S [R 120 1 [20] [eq (t 20) (w 4),J 119 (v 120)],If 119 [1] (S [E0 [A 2 T],.ret])])])])])])])])])])],R 121 3 [1] [A 2 (c1 iM (L 3 (f 16 t1)))],.ret]⟩:=by kernel_rfl
def LS:cF zG []=some ⟨93,[(2,none)],S [R 2 1 [0] [J 1 (b t0),M F],S [i0 3,fo 0 8 4 (ls v3 (n (l (f 19 t1)))) [3] 3 (S [R0 15 6 [o (c3 dC (l (i 1 (l (f 19 t1)) v3)) w1 (w 12))],If 21 [3,1] (S [E0 [A 2 F],.ret])])],S [i0 4,fo 2 22 4 (ls v4 (n (l (f 15 t1)))) [4] 4 (S [R0 29 6 [o (c1 uY (l (i 1 (l (f 15 t1)) v4)))],If 35 [4,1] (S [E0 [A 2 F],.ret])])],S [i0 5,fo 4 36 4 (ls v5 (n (l (f 4 t1)))) [5] 5 (S [R0 43 6 [o (c1 iM (L 3 (i 3 (l (f 4 t1)) v5)))],If 49 [5,1] (S [E0 [A 2 F],.ret])])],S [i0 6,fo 6 50 4 (ls v6 (n (l (f 9 t1)))) [6] 6 (S [R0 57 17 [O (o (c1 jK (l (f 0 (i 2 (l (f 9 t1)) v6))))) (o (c1 uZ (l (f 1 (i 2 (l (f 9 t1)) v6)))))],If 74 [6,1] (S [E0 [A 2 F],.ret])])],S [i0 7,fo 8 75 4 (ls v7 (n (l (f 24 t1)))) [7] 7 (S [R0 82 7 [o (c1 iM (L 3 (f 0 (i 4 (l (f 24 t1)) v7))))],If 89 [7,1] (S [E0 [A 2 F],.ret])])],R 90 3 [1] [A 2 (c1 uZ (l (f 22 t1)))],.ret]⟩:=by kernel_rfl
def M8:cF Bu []=some ⟨104,[(2,none)],S [R 2 1 [0] [J 1 (b t0),M F],S [i0 3,fo 0 5 4 (ls v3 (n (l (f 9 t1)))) [3] 3 (S [R0 12 7 [gt (n (l (f 1 (i 2 (l (f 9 t1)) v3)))) (w 12)],If 19 [3,1] (S [E0 [A 2 T],.ret])])],S [i0 4,fo 2 20 4 (ls v4 (n (l (f 24 t1)))) [4] 4 (S [R0 27 7 [gt (n (l (f 3 (i 4 (l (f 24 t1)) v4)))) (w 208)],If 34 [4,1] (S [E0 [A 2 T],.ret])])],S [R0 35 33 [O (O (O (O (O (gt (n (l (f 4 t1))) (w 12)) (gt (n (l (f 9 t1))) (w 5))) (gt (n (l (f 14 t1))) (w 208))) (gt (n (l (f 15 t1))) (w 8))) (gt (n (l (f 24 t1))) (w 20))) (gt (n (l (f 19 t1))) (w 6))],If 68 [1] (S [E0 [A 2 T],.ret])],S [R0 69 2 [eq (l (f 2 t1)) (w 7)],If 71 [] (S [R 72 5 [1] [A 2 (o (c3 dC (n (l (f 14 t1))) w1 (w 20)))],.ret])],S [R0 77 2 [eq (l (f 2 t1)) (w 9)],If 79 [] (S [R 80 7 [1] [A 2 (ne (n (l (f 22 t1))) (n (l (f 19 t1))))],.ret])],S [R0 87 2 [eq (l (f 2 t1)) (w 10)],If 89 [] (S [R 90 5 [1] [A 2 (o (c3 dC (n (l (f 22 t1))) w1 (w 6)))],.ret])],R 95 9 [1] [A 2 (N (eq (l (f 2 t1)) (w 11)) (ne (n (l (f 22 t1))) w1))],.ret]⟩:=by kernel_rfl
def RX:cF dC []=some ⟨15,[(6,none)],S [R0 6 1 [M F],R 7 8 [0,1,2] [N (ge v0 v1) (le v0 v2),J 6 v14],.ret]⟩:=by kernel_rfl
def LT:cF iM []=some ⟨16,[(2,none)],S [R 2 1 [0] [J 1 (b t0),M F],R 3 13 [1] [N (N (c3 dC (l (f 0 t1)) w1 (w 12)) (c3 dC (l (f 1 t1)) w1 (w 2147483647))) (c1 uY (l (f 2 t1))),J 2 v15],.ret]⟩:=by kernel_rfl
def JG:cF jK []=some ⟨9,[(2,none)],S [R0 2 1 [M F],R 3 6 [0] [N (ge v0 (u 1)) (ls v0 (u 2305843009213693951)),J 2 v8],.ret]⟩:=by kernel_rfl
def RY:cF uY []=some ⟨5,[(2,none)],S [R0 2 1 [M F],R 3 2 [0] [ls v0 (u 2305843009213693951),J 2 v4],.ret]⟩:=by kernel_rfl
def LU:cF uZ []=some ⟨44,[(2,none)],S [R0 2 1 [M F],S [i0 3,fo 0 4 3 (ls v3 (n v0)) [0,3] 3 (S [R0 10 33 [O (O (O (o (c1 jK (l (f 0 (i 4 v0 v3))))) (o (c1 jK (l (f 1 (i 4 v0 v3)))))) (o (c1 uY (l (f 2 (i 4 v0 v3)))))) (o (c1 uY (l (f 3 (i 4 v0 v3)))))],If 43 [3,0] (S [E0 [A 2 F],.ret])])],E0 [A 2 T],.ret]⟩:=by kernel_rfl
end
section
open W
def TZ:cF EF []=some ⟨12,[(2,some (some 3))],S [R 1 0 [0] [b t0,al zI],D 3 9 [1] [l (f 0 t1),l (f 1 t1),K [zl 6 5,zf 5 1 1,zl 4 3,zf 3 1 0] (c1 Ay (L 27 t1)),K [zl 6 5,zf 5 1 1,zl 4 3,zf 3 1 0] (c1 lO t8),s 3 t2 (q3 zI t4 t6 (K [zl 6 5,zf 5 1 1,zl 4 3,zf 3 1 0] (c2 wF (kc (.const (.string (Hud.bs [111,112])))) t9)))],.ret]⟩:=by kernel_rfl
def PD:cF Hn []=some ⟨10,[(4,none)],S [R 4 1 [0,1] [J 2 (b t0),b t1,M F],D 5 5 [2,3] [L 27 t2,J 7 (L 27 t3),J 6 (K [zv 7 27 3] (c1 Gp t5)),J 8 (c2 AO t6 (c1 Gp t7)),J 4 v9],.ret]⟩:=by kernel_rfl
def PE:cF Ay []=some ⟨94,[(2,none)],S [R 2 1 [0] [J 1 (b t0),M (kc (.const (.pointer none)))],R0 6 2 [b (x (.bld [zS] [])),J 3 (s 1 (al [.pointer none]) t7)],R0 8 1 [A 4 (x (.clo rI [zt 3]))],R0 9 1 [x (.clo jP [zt 3]),J 5 (s 1 (al [.nilFunc]) t9)],R0 10 11 [d1 v4 (j4 [z0,z0,z0,z0] (l (f 0 t1)) (l (f 1 t1)) (l (f 2 t1)) (l (f 3 t1)))],R0 21 6 [l t3,l (f 4 t1),l t3,c3 qU (t 21) (t 23) (x (.bmo eG 1 [zt 24]))],R0 27 11 [d1 v4 (j4 [z0,z0,z0,z0] (l (f 5 t1)) (l (f 6 t1)) (l (f 7 t1)) (l (f 8 t1)))],R0 38 5 [c3 sI (l t3) (l (f 9 t1)) (x (.clo uW [zt 3,zt 5]))],R0 43 4 [c2 eG (l t3) (L 3 (f 10 t1))],R0 47 4 [c2 bR (l t3) (l (f 13 t1))],R0 51 5 [l t3,l (f 14 t1),c2 qM (t 51) (x (.b2s (zt 53)))],R0 56 6 [l t3,l (f 15 t1),l t3,c3 vM (t 56) (t 58) (x (.bmo cS 1 [zt 59]))],R0 62 4 [c2 eG (l t3) (L 3 (f 16 t1))],R0 66 6 [l t3,l (f 19 t1),l t3,c3 Bn (t 66) (t 68) (x (.bmo bR 1 [zt 69]))],R 72 7 [4] [d1 v4 (j2 [z0,z0] (l (f 20 t1)) (l (f 21 t1)))],R 79 5 [5] [c3 pD (l t3) (l (f 22 t1)) (l t5)],R0 84 4 [c2 cS (l t3) (l (f 23 t1))],R 88 5 [1] [c3 pR (l t3) (l (f 24 t1)) (x (.clo uX [zt 3]))],R 93 1 [3] [A 2 (l t3)],.ret]⟩:=by kernel_rfl
def Hs:cF AO []=some ⟨10,[(4,none)],S [R0 4 1 [M F],R 5 5 [0,1] [v0,x (.b2s (zt 5)),v1,eq t6 (x (.b2s (zt 7))),J 4 v9],.ret]⟩:=by kernel_rfl
def RZ:cF Gp []=some ⟨18,[(2,none)],S [R 2 1 [0] [J 1 (b t0),M z],R0 4 2 [c1 Ay (L 27 t1),J 3 v5],R0 6 5 [c2 cS v3 (l (f 0 (f 25 t1)))],R 11 5 [1] [c2 cS v3 (l (f 1 (f 25 t1)))],R 16 2 [3] [A 2 (c1 lO v3)],.ret]⟩:=by kernel_rfl
def M9:cF Fk []=some ⟨93,[(2,none)],S [R 2 1 [0] [J 1 (b t0),M w0],S [D 6 17 [] [M (O (ls (l (f 2 t1)) w1) (gt (l (f 2 t1)) (w 13))),G 14 false (L 27 t1),J 17 (G 14 false (l (f 2 t1))),G 14 false (l (x (.iadA (.global 0) (zt 18) 14 1))),J 16 (G 14 false (K [⟨some 20,.ld none (zt 19),some (14,false)⟩,⟨some 19,.iadA (.global 0) (zt 18) 14 1,some (14,false)⟩,⟨some 18,.ld none (zt 17),some (14,false)⟩,⟨some 17,.fad (zt 1) 2,some (14,false)⟩] (c1 Bq (t 15)))),J 21 (G 14 false (ne (B .andNot (t 16) (t 20)) w0)),x (.pick (zt 14) (.const (.bool true)) (zt 22))],If 23 [1] (S [E0 [A 2 w1],.ret])],E0 [A 3 T],S [R0 24 3 [sb (n (l (f 4 t1))) w1,M w0],ra 0 28 (t 27) 29 [28,27] 46 (S [R0 30 1 [A 4 v28],D 31 15 [4] [Ah 3 (N v3 (c2 rJ (L 3 (i 3 (l (f 4 t1)) v4)) (L 3 (i 3 (l (f 4 t1)) (ad v4 w1)))))]])],S [R0 47 3 [sb (n (l (f 19 t1))) w1,M w0],ra 2 51 (t 50) 52 [51,50] 69 (S [R0 53 1 [A 5 (v 51)],D 54 15 [5] [Ah 3 (N v3 (ls (l (i 1 (l (f 19 t1)) v5)) (l (i 1 (l (f 19 t1)) (ad v5 w1)))))]])],bw 4 (S [D 71 7 [] [L 27 t1,l (f 2 t1),o (c2 DB (t 71) (l (x (.iadA (.global 0) (zt 73) 14 1)))),J 70 (v 77)],Ie 70 [1,3] (S [E0 [A 2 (w 8)],.ret]) [] (S [R0 79 2 [c1 Hq (L 27 t1),J 78 (v 80)],Ie 78 [3,1] (S [E0 [A 2 w2],.ret]) [] (S [R 82 2 [3] [o v3,J 81 (v 83)],Ie 81 [1] (S [E0 [A 2 (w 6)],.ret]) [] (S [R 85 8 [1] [eq (n (l (f 4 t1))) w0,eq (l (f 2 t1)) w1,x (.eqb true (zt 88) (zt 91)),J 84 (v 92)],If 84 [] (S [E0 [A 2 (w 10)],.ret])])])])]),i0 2,.ret]⟩:=by kernel_rfl
def LV:cF C6 []=some ⟨20,[(4,none)],S [R 4 1 [0,1] [J 2 (b t0),b t1,M F],D 5 15 [3,2] [M (eq (l (f 0 t3)) (l (f 0 t2))),G 10 true (l (f 4 t2)),G 10 true (L 27 t3),J 16 (G 10 true (L 2 (f 25 t3))),J 14 (G 10 true (K [⟨some 17,.ld (some 2) (zt 16),some (10,true)⟩,⟨some 16,.fad (zt 3) 25,some (10,true)⟩,⟨some 12,.ld none (zt 11),some (10,true)⟩,⟨some 11,.fad (zt 2) 4,some (10,true)⟩] (c1 Ay (t 13)))),G 10 true (K [⟨some 17,.ld (some 2) (zt 16),some (10,true)⟩,⟨some 16,.fad (zt 3) 25,some (10,true)⟩,⟨some 12,.ld none (zt 11),some (10,true)⟩,⟨some 11,.fad (zt 2) 4,some (10,true)⟩] (c1 lO (t 14))),J 18 (G 10 true (c3 Br (t 12) (t 15) (t 17))),x (.pick (zt 10) (zt 18) (.const (.bool false))),J 4 v19],.ret]⟩:=by kernel_rfl
def DE:cF rI []=some ⟨15,[],S [R 6 0 [0] [A 5 t0,n t5,A 7 w0],ra 0 7 t6 8 [5,7,6,1] 14 (S [R0 9 2 [A 4 (l (i 1 t5 t7))],R 11 3 [4] [c2 bR (l t1) v4]])]⟩:=by kernel_rfl
def LW:cF jP []=some ⟨23,[],S [R 2 0 [0] [b t0],R 5 8 [2] [n (j4 zU4 (l (f 0 t2)) (l (f 1 t2)) (l (f 2 t2)) (l (f 3 t2))),M w0],ra 0 15 (t 14) 16 [13,15,14,1] 22 (S [R0 17 2 [A 4 (l (i 1 (t 13) (t 15)))],R 19 3 [4] [c2 cS (l t1) v4]])]⟩:=by kernel_rfl
def CY:cF qU []=some ⟨22,[],S [R 8 4 [0] [c2 bR v0 (n v1)],R 13 0 [1] [A 12 t1,n (t 12),A 14 w0],ra 0 14 (t 13) 15 [12,14,13,2] 21 (S [R0 16 2 [L 3 (i 3 (t 12) (t 14)),J 7 (s 3 (al zI) (t 17))],R 18 3 [7] [d1 v2 (L 3 t7)]])]⟩:=by kernel_rfl
def DF:cF sI []=some ⟨22,[],S [R 8 4 [0] [c2 bR v0 (n v1)],R 13 0 [1] [A 12 t1,n (t 12),A 14 w0],ra 0 14 (t 13) 15 [12,14,13,2] 21 (S [R0 16 2 [L 2 (i 2 (t 12) (t 14)),J 7 (s 2 (al zB) (t 17))],R 18 3 [7] [d1 v2 (L 2 t7)]])]⟩:=by kernel_rfl
def LX:cF uW []=some ⟨13,[],S [R 3 0 [0] [b t0],R0 4 4 [c2 cS (l t1) (l (f 0 t3))],R 8 5 [1,3,2] [c3 pD (l t1) (l (f 1 t3)) (l t2)]]⟩:=by kernel_rfl
def Ej:cF pD []=some ⟨22,[],S [R 8 4 [0] [c2 bR v0 (n v1)],R 13 0 [1] [A 12 t1,n (t 12),A 14 w0],ra 0 14 (t 13) 15 [12,14,13,2] 21 (S [R0 16 2 [L 4 (i 4 (t 12) (t 14)),J 7 (s 4 (al zU4) (t 17))],R 18 3 [7] [d1 v2 (L 4 t7)]])]⟩:=by kernel_rfl
def Fl:cF vM []=some ⟨22,[],S [R 8 4 [0] [c2 bR v0 (n v1)],R 13 0 [1] [A 12 t1,n (t 12),A 14 w0],ra 0 14 (t 13) 15 [12,14,13,2] 21 (S [R0 16 2 [A 7 (l (i 1 (t 12) (t 14)))],R 18 3 [7] [d1 v2 v7]])]⟩:=by kernel_rfl
def JH:cF Bn []=some ⟨22,[],S [R 8 4 [0] [c2 bR v0 (n v1)],R 13 0 [1] [A 12 t1,n (t 12),A 14 w0],ra 0 14 (t 13) 15 [12,14,13,2] 21 (S [R0 16 2 [A 7 (l (i 1 (t 12) (t 14)))],R 18 3 [7] [d1 v2 v7]])]⟩:=by kernel_rfl
def Bx:cF pR []=some ⟨22,[],S [R 8 4 [0] [c2 bR v0 (n v1)],R 13 0 [1] [A 12 t1,n (t 12),A 14 w0],ra 0 14 (t 13) 15 [12,14,13,2] 21 (S [R0 16 2 [L 4 (i 4 (t 12) (t 14)),J 7 (s 4 (al [z0,z0,zU,zS]) (t 17))],R 18 3 [7] [d1 v2 (L 4 t7)]])]⟩:=by kernel_rfl
def LY:cF uX []=some ⟨12,[],S [R 2 0 [0] [b t0],R0 3 4 [c2 eG (l t1) (L 3 (f 0 t2))],R 7 5 [1,2] [l t1,l (f 3 t2),c2 qM t7 (x (.b2s (zt 9)))]]⟩:=by kernel_rfl
def Ta:cF bI []=some ⟨15,[(6,none)],S [R0 6 1 [M F],R 7 8 [0,1,2] [N (ge v0 v1) (le v0 v2),J 6 v14],.ret]⟩:=by kernel_rfl
def NA:cF dW []=some ⟨16,[(2,none)],S [R 2 1 [0] [J 1 (b t0),M F],R 3 13 [1] [N (N (c3 bI (l (f 0 t1)) w1 (w 12)) (c3 bI (l (f 1 t1)) w1 (w 2147483647))) (c1 Bv (l (f 2 t1))),J 2 v15],.ret]⟩:=by kernel_rfl
def LZ:cF iL []=some ⟨9,[(2,none)],S [R0 2 1 [M F],R 3 6 [0] [N (ge v0 (u 1)) (ls v0 (u 2305843009213693951)),J 2 v8],.ret]⟩:=by kernel_rfl
def Ht:cF uK []=some ⟨11,[(2,none)],S [R 2 1 [0] [J 1 (b t0),M F],R 3 8 [1] [N (c1 iL (l (f 0 t1))) (c2 lR (l (f 1 t1)) (kc (.func tY))),J 2 v10],.ret]⟩:=by kernel_rfl
def Ek:cF lR []=some ⟨9,[(4,none)],S [R 4 1 [1] [J 3 (b t1),M F],R 5 4 [0,3] [o (c2 dY v0 (x (.clo iC [zt 3]))),J 4 v8],.ret]⟩:=by kernel_rfl
def NB:cF tY []=some ⟨21,[(2,none)],S [R 2 1 [0] [J 1 (b t0),M F],R 3 18 [1] [N (N (N (c1 iL (l (f 0 t1))) (c1 iL (l (f 1 t1)))) (c1 Bv (l (f 2 t1)))) (c1 Bv (l (f 3 t1))),J 2 v20],.ret]⟩:=by kernel_rfl
def Hu:cF uL []=some ⟨6,[(2,none)],S [R 2 1 [0] [J 1 (b t0),M F],R 3 3 [1] [c1 dW (L 3 (f 0 t1)),J 2 v5],.ret]⟩:=by kernel_rfl
def Hv:cF uM []=some ⟨5,[(2,none)],S [R0 2 1 [M F],R 3 2 [0] [c3 bI v0 w1 (w 12),J 2 v4],.ret]⟩:=by kernel_rfl
def JI:cF wK []=some ⟨9,[(4,none)],S [R 4 1 [1] [J 3 (b t1),M F],R 5 4 [0,3] [o (c2 iD v0 (x (.clo lT [zt 3]))),J 4 v8],.ret]⟩:=by kernel_rfl
def Fm:cF qN []=some ⟨9,[(4,none)],S [R 4 1 [1] [J 3 (b t1),M F],R 5 4 [0,3] [o (c2 bV v0 (x (.clo iV [zt 3]))),J 4 v8],.ret]⟩:=by kernel_rfl
def Tb:cF Bv []=some ⟨5,[(2,none)],S [R0 2 1 [M F],R 3 2 [0] [ls v0 (u 2305843009213693951),J 2 v4],.ret]⟩:=by kernel_rfl
def CZ:cF mN []=some ⟨9,[(4,none)],S [R 4 1 [1] [J 3 (b t1),M F],R 5 4 [0,3] [o (c2 dF v0 (x (.clo fN [zt 3]))),J 4 v8],.ret]⟩:=by kernel_rfl
def DG:cF iU []=some ⟨9,[(4,none)],S [R 4 1 [1] [J 3 (b t1),M F],R 5 4 [0,3] [o (c2 dM v0 (x (.clo gO [zt 3]))),J 4 v8],.ret]⟩:=by kernel_rfl
def Bz:cF gN []=some ⟨9,[(4,none)],S [R 4 1 [1] [J 3 (b t1),M F],R 5 4 [0,3] [o (c2 cU v0 (x (.clo fB [zt 3]))),J 4 v8],.ret]⟩:=by kernel_rfl
def La:cF zH []=some ⟨7,[(2,none)],S [R 2 1 [0] [J 1 (b t0),M F],R 3 4 [1] [le (n (l (f 1 t1))) (w 12),J 2 v6],.ret]⟩:=by kernel_rfl
def Lb:cF zJ []=some ⟨7,[(2,none)],S [R 2 1 [0] [J 1 (b t0),M F],R 3 4 [1] [le (n (l (f 3 t1))) (w 208),J 2 v6],.ret]⟩:=by kernel_rfl
def Ca:cF iC []=some ⟨8,[(3,none)],S [R 3 1 [0] [J 2 (b t0),M F],R 4 4 [1,2] [o (d1 (l t1) (L 4 t2)),J 3 v7],.ret]⟩:=by kernel_rfl
def Gr:cF lT []=some ⟨8,[(3,none)],S [R0 3 1 [M F],R 4 4 [1,0] [o (d1 (l t1) v0),J 3 v7],.ret]⟩:=by kernel_rfl
def DH:cF iV []=some ⟨8,[(3,none)],S [R0 3 1 [M F],R 4 4 [1,0] [o (d1 (l t1) v0),J 3 v7],.ret]⟩:=by kernel_rfl
def Az:cF fN []=some ⟨8,[(3,none)],S [R 3 1 [0] [J 2 (b t0),M F],R 4 4 [1,2] [o (d1 (l t1) (L 3 t2)),J 3 v7],.ret]⟩:=by kernel_rfl
def B0:cF gO []=some ⟨8,[(3,none)],S [R 3 1 [0] [J 2 (b t0),M F],R 4 4 [1,2] [o (d1 (l t1) (L 2 t2)),J 3 v7],.ret]⟩:=by kernel_rfl
def AQ:cF fB []=some ⟨8,[(3,none)],S [R 3 1 [0] [J 2 (b t0),M F],R 4 4 [1,2] [o (d1 (l t1) (L 4 t2)),J 3 v7],.ret]⟩:=by kernel_rfl
def PF:cF Hq []=some ⟨84,[(2,none)],S [R 2 1 [0] [J 1 (b t0),M F],E0 [A 3 (kc (.func zH))],E0 [A 4 (kc (.func zJ))],S [R 5 47 [3,4] [O (O (O (O (O (O (O (gt (n (l (f 4 t1))) (w 12)) (gt (n (l (f 9 t1))) (w 5))) (o (c2 iU (l (f 9 t1)) v3))) (gt (n (l (f 14 t1))) (w 208))) (gt (n (l (f 15 t1))) (w 8))) (gt (n (l (f 24 t1))) (w 20))) (o (c2 gN (l (f 24 t1)) v4))) (gt (n (l (f 19 t1))) (w 6))],If 52 [1] (S [E0 [A 2 T],.ret])],S [R0 53 1 [l (f 2 t1)],bw 0 (S [R0 56 1 [eq (t 54) (w 7),J 55 (v 56)],Ie 55 [54] (S [R 57 5 [1] [A 2 (o (c3 bI (n (l (f 14 t1))) w1 (w 20)))],.ret]) [] (S [R0 63 1 [eq (t 54) (w 9),J 62 (v 63)],Ie 62 [54] (S [R 64 7 [1] [A 2 (ne (n (l (f 22 t1))) (n (l (f 19 t1))))],.ret]) [] (S [R0 72 1 [eq (t 54) (w 10),J 71 (v 72)],Ie 71 [54] (S [R 73 5 [1] [A 2 (o (c3 bI (n (l (f 22 t1))) w1 (w 6)))],.ret]) [] (S [R 79 1 [54] [eq (t 54) (w 11),J 78 (v 79)],Iz 78 [] (S [R 80 4 [1] [A 2 (ne (n (l (f 22 t1))) w1)],.ret]) [1]])])])])],E0 [A 2 F],.ret]⟩:=by kernel_rfl
def JJ:cF Bq []=some ⟨75,[(2,none)],S [R 2 1 [0] [J 1 (b t0),M w0],i0 3,S [S [.regd (zq (zf 7 1 5) (zq (zl 8 7) (zq (zo 9 (.bin .neq (zt 8) (zw 0))) (zq (zf 10 1 6) (zq (zl 11 10) (zq (zo 12 (.bin .neq (zt 11) (zw 0))) (zq (zf 13 1 7) (zq (zl 14 13) (zq (zo 15 (.bin .neq (zt 14) (zw 0))) (zq (zf 16 1 8) (zq (zl 17 16) (zq (zo 18 (.bin .neq (zt 17) (zw 0))) (zq (zf 19 1 9) (zq (zl 20 19) (zq (zo 21 (.lenL (zt 20))) (zq (zo 22 (.bin .gtr (zt 21) (zw 0))) (zq (zf 23 1 10) (zq (zv 24 3 23) (zq (zo 25 (.bld zI [])) (zq (zo 26 (.eqa true [.int .i64,.int .i64,.int .u64] (zt 24) (zt 25))) (zq (zf 27 1 13) (zq (zl 28 27) (zq (zo 29 (.bin .neq (zt 28) (zw 0))) (zq (zf 30 1 14) (zq (zl 31 30) (zq (zo 32 (.lenL (zt 31))) (zq (zo 33 (.bin .gtr (zt 32) (zw 0))) (zq (zf 34 1 15) (zq (zl 35 34) (zq (zo 36 (.lenL (zt 35))) (zq (zo 37 (.bin .gtr (zt 36) (zw 0))) (zq (zf 38 1 16) (zq (zv 39 3 38) (zq (zo 40 (.bld zI [])) (zq (zo 41 (.eqa true [.int .i64,.int .i64,.int .u64] (zt 39) (zt 40))) (zq (zf 42 1 19) (zq (zl 43 42) (zq (zo 44 (.lenL (zt 43))) (zq (zo 45 (.bin .gtr (zt 44) (zw 0))) (zq (zf 46 1 20) (zq (zl 47 46) (zq (zo 48 (.bin .neq (zt 47) (zw 0))) (zq (zf 49 1 21) (zq (zl 50 49) (zq (zo 51 (.bin .neq (zt 50) (zw 0))) (zq (zf 52 1 22) (zq (zl 53 52) (zq (zo 54 (.lenL (zt 53))) (zq (zo 55 (.bin .gtr (zt 54) (zw 0))) (zq (zf 56 1 23) (zq (zl 57 56) (zq (zo 58 (.bin .neq (zt 57) (zu 0))) (zq (zf 59 1 24) (zq (zl 60 59) (zq (zo 61 (.lenL (zt 60))) (zq (zo 62 (.bin .gtr (zt 61) (zw 0))) (zA (zo 6 (.mkm false)) [zo 62 (.bin .gtr (zt 61) (zw 0)),zo 61 (.lenL (zt 60)),zl 60 59,zf 59 1 24,zo 58 (.bin .neq (zt 57) (zu 0)),zl 57 56,zf 56 1 23,zo 55 (.bin .gtr (zt 54) (zw 0)),zo 54 (.lenL (zt 53)),zl 53 52,zf 52 1 22,zo 51 (.bin .neq (zt 50) (zw 0)),zl 50 49,zf 49 1 21,zo 48 (.bin .neq (zt 47) (zw 0)),zl 47 46,zf 46 1 20,zo 45 (.bin .gtr (zt 44) (zw 0)),zo 44 (.lenL (zt 43)),zl 43 42,zf 42 1 19,zo 41 (.eqa true [.int .i64,.int .i64,.int .u64] (zt 39) (zt 40)),zo 40 (.bld zI []),zv 39 3 38,zf 38 1 16,zo 37 (.bin .gtr (zt 36) (zw 0)),zo 36 (.lenL (zt 35)),zl 35 34,zf 34 1 15,zo 33 (.bin .gtr (zt 32) (zw 0)),zo 32 (.lenL (zt 31)),zl 31 30,zf 30 1 14,zo 29 (.bin .neq (zt 28) (zw 0)),zl 28 27,zf 27 1 13,zo 26 (.eqa true [.int .i64,.int .i64,.int .u64] (zt 24) (zt 25)),zo 25 (.bld zI []),zv 24 3 23,zf 23 1 10,zo 22 (.bin .gtr (zt 21) (zw 0)),zo 21 (.lenL (zt 20)),zl 20 19,zf 19 1 9,zo 18 (.bin .neq (zt 17) (zw 0)),zl 17 16,zf 16 1 8,zo 15 (.bin .neq (zt 14) (zw 0)),zl 14 13,zf 13 1 7,zo 12 (.bin .neq (zt 11) (zw 0)),zl 11 10,zf 10 1 6,zo 9 (.bin .neq (zt 8) (zw 0)),zl 8 7,zf 7 1 5] (.perm [zo 62 (.bin .gtr (zt 61) (zw 0)),zo 61 (.lenL (zt 60)),zl 60 59,zf 59 1 24,zo 58 (.bin .neq (zt 57) (zu 0)),zl 57 56,zf 56 1 23,zo 55 (.bin .gtr (zt 54) (zw 0)),zo 54 (.lenL (zt 53)),zl 53 52,zf 52 1 22,zo 51 (.bin .neq (zt 50) (zw 0)),zl 50 49,zf 49 1 21,zo 48 (.bin .neq (zt 47) (zw 0)),zl 47 46,zf 46 1 20,zo 45 (.bin .gtr (zt 44) (zw 0)),zo 44 (.lenL (zt 43)),zl 43 42,zf 42 1 19,zo 41 (.eqa true [.int .i64,.int .i64,.int .u64] (zt 39) (zt 40)),zo 40 (.bld zI []),zv 39 3 38,zf 38 1 16,zo 37 (.bin .gtr (zt 36) (zw 0)),zo 36 (.lenL (zt 35)),zl 35 34,zf 34 1 15,zo 33 (.bin .gtr (zt 32) (zw 0)),zo 32 (.lenL (zt 31)),zl 31 30,zf 30 1 14,zo 29 (.bin .neq (zt 28) (zw 0)),zl 28 27,zf 27 1 13,zo 26 (.eqa true [.int .i64,.int .i64,.int .u64] (zt 24) (zt 25)),zo 25 (.bld zI []),zv 24 3 23,zf 23 1 10,zo 22 (.bin .gtr (zt 21) (zw 0)),zo 21 (.lenL (zt 20)),zl 20 19,zf 19 1 9,zo 18 (.bin .neq (zt 17) (zw 0)),zl 17 16,zf 16 1 8,zo 15 (.bin .neq (zt 14) (zw 0)),zl 14 13,zf 13 1 7,zo 12 (.bin .neq (zt 11) (zw 0)),zl 11 10,zf 10 1 6,zo 9 (.bin .neq (zt 8) (zw 0)),zl 8 7,zf 7 1 5] [⟨none,.mup false [.int .i64] (zt 6) (zw 1) (zt 9),none⟩,⟨none,.mup false [.int .i64] (zt 6) (zw 2) (zt 12),none⟩,⟨none,.mup false [.int .i64] (zt 6) (zw 4) (zt 15),none⟩,⟨none,.mup false [.int .i64] (zt 6) (zw 8) (zt 18),none⟩,⟨none,.mup false [.int .i64] (zt 6) (zw 16) (zt 22),none⟩,⟨none,.mup false [.int .i64] (zt 6) (zw 32) (zt 26),none⟩,⟨none,.mup false [.int .i64] (zt 6) (zw 64) (zt 29),none⟩,⟨none,.mup false [.int .i64] (zt 6) (zw 128) (zt 33),none⟩,⟨none,.mup false [.int .i64] (zt 6) (zw 256) (zt 37),none⟩,⟨none,.mup false [.int .i64] (zt 6) (zw 512) (zt 41),none⟩,⟨none,.mup false [.int .i64] (zt 6) (zw 1024) (zt 45),none⟩,⟨none,.mup false [.int .i64] (zt 6) (zw 2048) (zt 48),none⟩,⟨none,.mup false [.int .i64] (zt 6) (zw 4096) (zt 51),none⟩,⟨none,.mup false [.int .i64] (zt 6) (zw 8192) (zt 55),none⟩,⟨none,.mup false [.int .i64] (zt 6) (zw 16384) (zt 58),none⟩,⟨none,.mup false [.int .i64] (zt 6) (zw 32768) (zt 62),none⟩] (zq (zm 63 6) (zA (zo 64 (.rgm (zt 63))) [] (.done true) .no))) .no))))))))))))))))))))))))))))))))))))))))))))))))))))))))),.kill [1,63,62,61,60,59,58,57,56,55,54,53,52,51,50,49,48,47,46,45,44,43,42,41,40,39,38,37,36,35,34,33,32,31,30,29,28,27,26,25,24,23,22,21,20,19,18,17,16,15,14,13,12,11,10,9,8,7,6]],lo 0 (S [R0 65 1 [e 0 (x (.nxt (zt 64)))],Ie 66 [] .skip [64] (ex 0),bw 1 (S [R0 67 3 [e 0 (x (.ent (zt 64))),e 1 (t 67),A 4 (t 68),A 5 (t 69)],R 0 0 [5] [A 70 t5],Iz 70 [] (R 71 3 [4] [A 3 (B .or v3 v4)]) [4]])])],R 74 1 [3] [A 2 v3],.ret]⟩:=by kernel_rfl
def Lc:cF DB []=some ⟨136,[(4,none)],S [R 4 1 [0] [J 2 (b t0),J 4 (M F)],S [R0 14 15 [O (O (o (c3 bI (l (f 0 t2)) w1 (w 12))) (o (c3 bI (l (f 1 t2)) w1 (w 2147483647)))) (o (c3 bI (l (f 3 t2)) w0 (w 2147483647)))],If 29 [2,1] (S [E0 [A 4 F],.ret])],D 30 3 [] [n (l (f 19 t2)),A 5 w1,A 6 w1,A 7 (t 32)],R0 33 3 [A 8 (c3 bI (l (f 7 t2)) w1 (w 8))],S [R0 36 2 [eq (l (f 2 t2)) w3],If 38 [5] (S [i0 5,R0 39 16 [A 8 (O (N v8 (eq (l (f 5 t2)) w0)) (N (eq (l (f 7 t2)) w0) (ne (l (f 5 t2)) w0)))]])],S [R0 55 2 [eq (l (f 2 t2)) w1],If 57 [6,7] (E0 [A 6 w0,A 7 (w 20)])],S [S [.regd (zq (zf 59 2 5) (zq (zl 60 59) (zq (zm 61 5) (zq (zf 63 2 6) (zq (zl 64 63) (zq (zm 66 8) (zq (zf 67 2 8) (zq (zl 68 67) (zq (zf 70 2 13) (zq (zl 71 70) (zq (zf 73 2 21) (zq (zl 74 73) (zq (zf 76 2 20) (zq (zl 77 76) (zq (zm 78 6) (zq (zm 79 7) (zq (zf 81 2 10) (zq (zv 82 3 81) (zq (zf 84 2 16) (zq (zv 85 3 84) (zq (zf 87 2 23) (zq (zl 88 87) (.plan [⟨some 58,.mkm false,none⟩,⟨some 59,.fad (zt 2) 5,none⟩,⟨some 60,.ld none (zt 59),none⟩,⟨some 61,.mov (zt 5),none⟩,⟨some 62,.call (.func bI) [zt 60,zt 61,zw 12],none⟩,⟨none,.mup false [.int .i64] (zt 58) (zw 1) (zt 62),none⟩,⟨some 63,.fad (zt 2) 6,none⟩,⟨some 64,.ld none (zt 63),none⟩,⟨some 65,.call (.func bI) [zt 64,zw 1,zw 12],none⟩,⟨none,.mup false [.int .i64] (zt 58) (zw 2) (zt 65),none⟩,⟨some 66,.mov (zt 8),none⟩,⟨none,.mup false [.int .i64] (zt 58) (zw 4) (zt 66),none⟩,⟨some 67,.fad (zt 2) 8,none⟩,⟨some 68,.ld none (zt 67),none⟩,⟨some 69,.call (.func bI) [zt 68,zw 1,zw 3],none⟩,⟨none,.mup false [.int .i64] (zt 58) (zw 8) (zt 69),none⟩,⟨some 70,.fad (zt 2) 13,none⟩,⟨some 71,.ld none (zt 70),none⟩,⟨some 72,.call (.func bI) [zt 71,zw 0,zw 2147483647],none⟩,⟨none,.mup false [.int .i64] (zt 58) (zw 64) (zt 72),none⟩,⟨some 73,.fad (zt 2) 21,none⟩,⟨some 74,.ld none (zt 73),none⟩,⟨some 75,.call (.func bI) [zt 74,zw 0,zw 2147483647],none⟩,⟨none,.mup false [.int .i64] (zt 58) (zw 4096) (zt 75),none⟩,⟨some 76,.fad (zt 2) 20,none⟩,⟨some 77,.ld none (zt 76),none⟩,⟨some 78,.mov (zt 6),none⟩,⟨some 79,.mov (zt 7),none⟩,⟨some 80,.call (.func bI) [zt 77,zt 78,zt 79],none⟩,⟨none,.mup false [.int .i64] (zt 58) (zw 2048) (zt 80),none⟩,⟨some 81,.fad (zt 2) 10,none⟩,⟨some 82,.ld (some 3) (zt 81),none⟩,⟨some 83,.call (.func dW) [zt 82],none⟩,⟨none,.mup false [.int .i64] (zt 58) (zw 32) (zt 83),none⟩,⟨some 84,.fad (zt 2) 16,none⟩,⟨some 85,.ld (some 3) (zt 84),none⟩,⟨some 86,.call (.func dW) [zt 85],none⟩,⟨none,.mup false [.int .i64] (zt 58) (zw 512) (zt 86),none⟩,⟨some 87,.fad (zt 2) 23,none⟩,⟨some 88,.ld none (zt 87),none⟩,⟨some 89,.call (.func iL) [zt 88],none⟩,⟨none,.mup false [.int .i64] (zt 58) (zw 16384) (zt 89),none⟩,⟨some 90,.mov (zt 58),none⟩,⟨some 91,.rgm (zt 90),none⟩] [[],[],[1],[],[2,1,3],[0,4,2,1,3],[],[6],[7,6,4,2,1,3],[0,8,7,6,4,2,1,3],[],[0,10],[],[12],[13,12,8,7,6,4,2,1,3],[0,14,13,12,8,7,6,4,2,1,3],[],[16],[17,16,14,13,12,8,7,6,4,2,1,3],[0,18,17,16,14,13,12,8,7,6,4,2,1,3],[],[20],[21,20,18,17,16,14,13,12,8,7,6,4,2,1,3],[0,22,21,20,18,17,16,14,13,12,8,7,6,4,2,1,3],[],[24],[],[],[25,24,26,27,22,21,20,18,17,16,14,13,12,8,7,6,4,2,1,3],[0,28,25,24,26,27,22,21,20,18,17,16,14,13,12,8,7,6,4,2,1,3],[],[30],[31,30,28,25,24,26,27,22,21,20,18,17,16,14,13,12,8,7,6,4,2,1,3],[0,32,31,30,28,25,24,26,27,22,21,20,18,17,16,14,13,12,8,7,6,4,2,1,3],[],[34],[35,34,32,31,30,28,25,24,26,27,22,21,20,18,17,16,14,13,12,8,7,6,4,2,1,3],[0,36,35,34,32,31,30,28,25,24,26,27,22,21,20,18,17,16,14,13,12,8,7,6,4,2,1,3],[],[38],[39,38,36,35,34,32,31,30,28,25,24,26,27,22,21,20,18,17,16,14,13,12,8,7,6,4,2,1,3],[0,40,39,38,36,35,34,32,31,30,28,25,24,26,27,22,21,20,18,17,16,14,13,12,8,7,6,4,2,1,3],[0,1,2,3,4,5,6,7,8,9,10,11,12,13,14,15,16,17,18,19,20,21,22,23,24,25,26,27,28,29,30,31,32,33,34,35,36,37,38,39,40,41],[42,0,1,2,3,4,5,6,7,8,9,10,11,12,13,14,15,16,17,18,19,20,21,22,23,24,25,26,27,28,29,30,31,32,33,34,35,36,37,38,39,40,41]] 23 false [39,38,35,34,31,30,27,26,25,24,21,20,17,16,13,12,10,7,6,3,2,1]))))))))))))))))))))))),.kill [5,8,6,7,90,89,88,87,86,85,84,83,82,81,80,79,78,77,76,75,74,73,72,71,70,69,68,67,66,65,64,63,62,61,60,59,58]],lo 0 (S [R0 92 1 [e 0 (x (.nxt (zt 91)))],Ie 93 [] .skip [91,1] (ex 0),bw 1 (S [R0 94 3 [e 0 (x (.ent (zt 91))),e 1 (t 94),A 9 (t 95),A 10 (t 96)],R 97 7 [9,10] [N (ne (B .and v1 v9) w0) (o v10)],If 104 [91,2,1] (S [E0 [A 4 F],.ret])])])],E0 [A 11 (kc (.func uK))],E0 [A 12 (kc (.func uL))],E0 [A 13 (kc (.func uM))],R 105 31 [2,13,11,12] [A 4 (N (N (N (N (N (c2 wK (l (f 19 t2)) v13) (c2 qN (l (f 15 t2)) (kc (.func Bv)))) (c2 mN (l (f 4 t2)) (kc (.func dW)))) (c2 iU (l (f 9 t2)) v11)) (c2 lR (l (f 22 t2)) (kc (.func tY)))) (c2 gN (l (f 24 t2)) v12))],.ret]⟩:=by kernel_rfl
end
section
section
variable {G:Nat→Option (List AV)}
set_option maxHeartbeats 2000000
def qO (n lo hi:Int):aC PQ G bI [iv n,iv lo,iv hi] [] λr T=>r=.v (.bool (oG n lo hi))∧T=[]:=by
 refine aF Ta (by decide) ?_;unfold oG;cases h:decide (lo≤n)<;>simp only [go_sem,ge_iff_le,h,jG,nG]
def zK (n:Nat):aC PQ G iL [uv n] [] λr T=>r=.v (.bool (Fd n))∧T=[]:=by
 refine aF LZ (by decide) ?_;unfold Fd;cases h:decide ((1:Int)≤(n:Int))<;>simp only [go_sem,ge_iff_le,h,jG,nG]
def Jw (n:Int):aC PQ G Bv [.v (.int .u64 n)] [] λr T=>r=.v (.bool (okM n))∧T=[]:=by
 refine aF Tb (by decide) ?_;unfold okM;simp only [go_sem]
def B1 (x:Id):aC PQ G dW [.ag x.A] [] λr T=>r=.v (.bool (iJ x))∧T=[]:=by
 refine aF NA (by decide) ?_;unfold iJ;simp only [go_sem,Id.A_def];refine aB (aA _) rfl (qO x.a 1 12) rfl ?_;cases h1:oG x.a 1 12
 ·simp only [go_sem,nG]
 simp only [go_sem];refine aB (aA _) rfl (qO x.b 1 2147483647) rfl ?_;cases h2:oG x.b 1 2147483647
 ·simp only [go_sem,nG,jG]
 simp only [go_sem];refine aB (aA _) rfl (Jw x.c) rfl ?_;simp only [go_sem,jG]
def DI (n lo hi:Int):aC PQ G dC [iv n,iv lo,iv hi] [] λr T=>r=.v (.bool (oG n lo hi))∧T=[]:=by
 refine aF RX (by decide) ?_;unfold oG;cases h:decide (lo≤n)<;>simp only [go_sem,ge_iff_le,h,jG,nG]
def B2 (n:Nat):aC PQ G jK [uv n] [] λr T=>r=.v (.bool (Fd n))∧T=[]:=by
 refine aF JG (by decide) ?_;unfold Fd;cases h:decide ((1:Int)≤(n:Int))<;>simp only [go_sem,ge_iff_le,h,jG,nG]
def Ld (n:Int):aC PQ G uY [.v (.int .u64 n)] [] λr T=>r=.v (.bool (okM n))∧T=[]:=by
 refine aF RY (by decide) ?_;unfold okM;simp only [go_sem]
def DJ (x:Id):aC PQ G iM [.ag x.A] [] λr T=>r=.v (.bool (iJ x))∧T=[]:=by
 refine aF LT (by decide) ?_;unfold iJ;simp only [go_sem,Id.A_def];refine aB (aA _) rfl (DI x.a 1 12) rfl ?_;cases h1:oG x.a 1 12
 ·simp only [go_sem,nG]
 simp only [go_sem];refine aB (aA _) rfl (DI x.b 1 2147483647) rfl ?_;cases h2:oG x.b 1 2147483647
 ·simp only [go_sem,nG,jG]
 simp only [go_sem];refine aB (aA _) rfl (Ld x.c) rfl ?_;simp only [go_sem,jG]
def Le (b:BoxM):aC PQ G tY [.ag b.A] [] λr T=>r=.v (.bool (sD b))∧T=[]:=by
 refine aF NB (by decide) ?_;unfold sD BoxM.A;simp only [go_sem];refine aB (aA _) rfl (zK b.To) rfl ?_;cases h1:Fd b.To
 ·simp only [go_sem,nG]
 simp only [go_sem];refine aB (aA _) rfl (zK b.Eph) rfl ?_;cases h2:Fd b.Eph
 ·simp only [go_sem,nG,jG]
 simp only [go_sem];refine aB (aA _) rfl (Jw (b.Body:Int)) rfl ?_;cases h3:okM (b.Body:Int)
 ·simp only [go_sem,nG,jG]
 simp only [go_sem];refine aB (aA _) rfl (Jw (b.Tag:Int)) rfl ?_;simp only [go_sem,jG]
end
end
end Hud
