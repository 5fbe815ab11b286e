import Derived.Test.YtfbnbkidnmhhoaaGreatDoorLib10
import Derived.Test.YtfbnbkidnmhhoaaGreatDoorTie
import Derived.LaidMore
import Derived.OpenShut
import Derived.Stop.Joined
import Derived.FnData
set_option linter.all false
namespace Hud
open Go Go.RowKit Go.WideShapes Go.ChangeShapes Go.Deep
def S8{h:GH}:∀(l:O3)(o:Nat),(∀i(b:i<l.length),oY h 0 (o+i)=some (.int .i64 ((l[i]:Nat):Int)))->mR h 0 (l.map λn:Nat=>iv (n:Int)) o|[],_,_=>by simp[mR]|x::l,o,a=>by simp only[fG,mR];refine⟨⟨_,rfl,a 0 k_,by simp[oB]⟩,S8 l (o+1) λi b=>?_⟩;have:=a (i+1) f_;rw[(o_:o+1+i=o+(i+1))];simpa using this
def aRG:L_:=λg=>if g=0 then some (qY.map λn:Nat=>iv (n:Int)) else none
def aRi:GK aRG:=by unfold GK aRG;rfl
section
variable{H:Type}{enc:TypeId×Value->H}{P:Program}{w:World}{base:Nat}{spare:Nat->Bool}{held:Bool}
end
section
variable{H:Type}{enc:TypeId×Value->H}{P:Program}{W:World}{base:Nat}{spare:Nat->Bool}{held:Bool}{h:GH}{φ:Nat->Value}
def aBm{f:FuncId}{k:Func}{s:ChangeSpec}{c i a:Bool}{args:Array Value}{avs:O0}{ds U:List (DataW H)}{d:List MemPlace}{B:TypeId}
 (M:laidOutB P=true) (F:DataW.Whole enc P k.params.toList s.vars c W args.toList ds U d) (D:s.vars=[]) (y:s.fn H ds={results:=[.lit (.bool true)],args:=ds})
 (g:∀t∈k.params.toList,P.readableRec t=true/\t<P.types.size) (K:k.resultTypes=#[B]) (O:P.underlying B=some .bool)
 (ent:(callFunc f args).run P W=.ok (.enter f args) W) {G:L_} (R:tU G (Iy W)) (j:aA P G f avs [] λr T=>r=.v (.bool true)/\T=[]) (Q:kR (Iy W) φ 0 avs args.toList):
 Calls P f args W λe A=>∃v,e=.returned v/\s.post enc P k c i a false W args v A:=by
 rcases j (Iy W) φ W args R (aD4 W φ) Q with⟨_,j⟩|⟨v,V,j,_⟩
 apply j.mono;rintro e A ⟨v,rfl,r,Y,X,I,⟨rfl,rfl⟩,S,_,m⟩;simp only[Rp]at m;subst m;refine⟨_,rfl,?_⟩;have u:=aAA S;have w:=F;obtain⟨p,q,hA,z,rfl,J,L⟩:=F;rw[D]at z;obtain⟨rfl,rfl⟩:=trodVars_none z;rw[jO]at J L;have o:∀x∈p,x.block<W.heap.size:=λx l=>w.lt x (by simp[l]);have n:∀(b:Nat)(C:Nat->Bool)(E:Bool),DataW.TrodAll enc P A b C E k.resultTypes.toList ((Value.bool true).resultList k.resultTypes.size) [.lit (.bool true)] []:=by intro b C E;rw[K];exact trodAll_mk1 (shut_bool O true)
 have h:s.fn H (ds++[])={results:=[.lit (.bool true)],args:=ds}:=by rw[jO];exact y
 refine⟨ds,[],p++[],[],p,[],w,?_,?_,?_,?_,λ_=>?_⟩;rw[h];exact n _ _ _;rw[h];exact Qt M u g hA o λx l=>by simpa using o x l
 rw[h];simpa[D,DataW.TrodVars]using z;exact World.keptBut_mono (λx l=>l.elim) (u.frame λ_=>False);rename_i N;simp at N;rw[ent]at j;simp at j
end
end Hud
namespace Go.Proofs.YtfbnbkidnmhhoaaGreatDoor
open Go Go.RowKit Go.WideShapes Go.ChangeShapes Go.ChangeAt Hud
def Tryz.own:ownKnob Tryz.prog.godebug=none:=r_
def Tryz.laidOut:laidOutB Tryz.prog=true:=r_
def aNV:Tryz.prog.globalNamed "huddle/op.kinds" = some 0:=r_
def aNW:(Tryz.prog.globals[0]?).map (·.type)=some 254:=r_
abbrev G4:List (String×DataW Unit):=[("huddle/op.kinds",Rows.laid_huddle_op_kinds)]
set_option maxRecDepth 100000 in
def aGk{W:World}(h:laidMetH Tryz.prog G4 W):tU aRG (Iy W):=by
 rw[MakeChecks.laidMetH_plain _ _ _ r_]at h;obtain⟨ps,⟨K,F,p,L,H,G,n,r,a,v,_⟩,_⟩:=h;obtain rfl:=Option.some.inj (aNV.symm.trans n);obtain rfl:=Option.some.inj (aNW.symm.trans r);obtain⟨q,I,rfl,d,w,J,u⟩:=DataW.trod_array Tryz.underlying254 v;have E:Tryz.prog.cellsOf 3=1:=r_;simp only[Prod.mk.injEq]at d;have B:q.map (·.1)=[.lit (.int .i64 0),.lit (.int .i64 2064),.lit (.int .i64 32793),.lit (.int .i64 21),.lit (.int .i64 16),.lit (.int .i64 12),.lit (.int .i64 480),.lit (.int .i64 640),.lit (.int .i64 512),.lit (.int .i64 31744),.lit (.int .i64 8704),.lit (.int .i64 8705),.lit (.int .i64 512),.lit (.int .i64 33299)]:=by have:=d.1;unfold Rows.laid_huddle_op_kinds at this;injection this with this;exact this.symm
 have b:∀i(m:i<qY.length),p.toList[i]?=some (.int .i64 ((qY[i]:Nat):Int)):=by
  intro i m;have l:i<14:=m;have o:=u i l;rw[E,Bb]at o;have j:i<q.length:=o_;rw[jN j]at o;obtain⟨k,D,C,_⟩:=DataW.trod_int Tryz.underlying3 o;have s:some q[i].1=some (.lit (.int .i64 ((qY[i]:Nat):Int))):=by
   have:=congrArg (·[i]?) B;simp only[gE,jN j,iX]at this;rw[this];have:i=0\/i=1\/i=2\/i=3\/i=4\/i=5\/i=6\/i=7\/i=8\/i=9\/i=10\/i=11\/i=12\/i=13:=o_;rcases this with rfl|rfl|rfl|rfl|rfl|rfl|rfl|rfl|rfl|rfl|rfl|rfl|rfl|rfl<;>rfl
  rw[C]at s;simp only[O7,DataW.lit.injEq,Lit.int.injEq,true_and]at s;have x:(p.toList.drop i)[0]?=some (.int .i64 k):=by have:=congrArg (·[0]?) D;simpa using this
  rw[Hw,mG]at x;subst s;exact x
 have z:∀i(m:i<qY.length),oY (Iy W) 0 (0+i)=some (.int .i64 ((qY[i]:Nat):Int)):=by intro i m;have o:=b i m;simp only[World.var?,n,H6]at a;unfold oY Iy;split at a;rename_i c t f A;cases a;rw[A];simp only[H6,pQ];simpa using o;simp at a
 intro g M e;unfold aRG at e;split at e;rename_i y;subst y;cases e;exact S8 qY 0 z;simp at e
def aEE(os:Os)(args:Array Value):laidMetH Tryz.prog G4 ((World.doorLaid Tryz.prog 400 os).forCall (λ_ _=>0) ⟨#[],args,[]⟩).memory :=
 laidMetH_of_parts3 (fuel:=8) (laidMet_of_run' 8 r_ r_) r_ r_
set_option maxRecDepth 100000 in
def Zc{f:Nat}{H:Type}{enc:TypeId×Value->H}{W:World}{a:Nat->Bool}{e:Bool}{v:Value}{d:DataW H}{ps:List MemPlace}(i:Value.okWide Tryz.prog W .any f 23 v)(o:DataW.Trod enc Tryz.prog W 0 a e 23 v d ps):
 ∃l:O4,(∀x∈l,mZ x)/\l.length<=2^63-1/\Rp (Iy W) (λ_=>undef) 0 (rG l) v:=by
 obtain⟨A,q,r,rfl⟩:=okWide_slice Tryz.underlying23 i;have h:=aD5 (φ:=λ_=>undef) (ks:=[.int .i64]) (n:=1) Tryz.underlying23 r_ r_ s_ o;obtain⟨p,m,c,b⟩:=h;obtain⟨l,g,j⟩:=Y2 m;have k:p.length=l.length:=by simpa using congrArg List.length g
 rw[g]at b;refine⟨l,j,?_,b⟩;unfold maxLen at c;omega
end Go.Proofs.YtfbnbkidnmhhoaaGreatDoor
