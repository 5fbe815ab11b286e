import Derived.Test.YtlhonkjgkfdnmaaGreatDoorLib38
import Derived.Test.YtlhonkjgkfdnmaaGreatDoorTie
import Derived.Test.YtlhonkjgkfdnmaaGreatDoorCards
import Derived.LaidMore
import Derived.OpenShut
import Derived.Stop.Joined
import Derived.FnData
set_option linter.all false
namespace Hud
open Go Go.RowKit Go.WideShapes Go.ChangeShapes Go.Deep
def S8{h:GH}{g:Nat}:∀(l:C_)(o:Nat),(∀v∈l,aX (.v v)=true)->(∀i(d:i<l.length),oY h g (o+i)=some l[i])->mR h g (l.map .v) o|[],_,_,_=>by simp[mR]|x::l,o,a,b=>by simp only[fG,mR];refine⟨⟨_,a x s_,b 0 s_,by simp[oB]⟩,S8 l (o+1) (λv c=>a v (by simp[c])) λi d=>?_⟩;have:=b (i+1) c_;rw[(o_:o+1+i=o+(i+1))];simpa using this
def wfI{n:Int}(a:(Lit.int .i64 n).wf=true):mZ n:=aHX a
section
variable{H:Type}{enc:TypeId×Value->H}{P:Program}{w:World}{base:Nat}{spare:Nat->Bool}{held:Bool}
end
section
variable{H:Type}{enc:TypeId×Value->H}{P:Program}{W:World}{base:Nat}{spare:Nat->Bool}{held:Bool}{h:GH}{φ:Nat->Value}
def aBm{f:FuncId}{k:Func}{s:ChangeSpec}{c i a:Bool}{args:Array Value}{avs:O_}{ds gs:List (DataW H)}{d:List MemPlace}{C:TypeId}
 (N:laidOutB P=true) (I:DataW.Whole enc P k.params.toList s.vars c W args.toList ds gs d) (E:s.vars=[]) (y:s.fn H ds={results:=[.lit (.bool true)],args:=ds})
 (g:∀t∈k.params.toList,P.readableRec t=true/\t<P.types.size) (L:k.resultTypes=#[C]) (Q:P.underlying C=some .bool)
 (A:(callFunc f args).run P W=.ok (.enter f args) W) {G:L_} (S:tU G (Iy W)) (j:aA P G f avs [] λr T=>r=.v (.bool true)/\T=[]) (R:cC (Iy W) φ 0 avs args.toList):
 Calls P f args W λe B=>∃v,e=.returned v/\s.post enc P k c i a false W args v B:=by
 rcases j (Iy W) φ W args S (aD4 W φ) R with⟨_,j⟩|⟨v,X,j,_⟩
 apply j.mono;rintro e B ⟨v,rfl,r,Z,Y,J,⟨rfl,rfl⟩,U,_,m⟩;simp only[Rp]at m;subst m;refine⟨_,rfl,?_⟩;have u:=aAA U;have w:=I;obtain⟨p,q,V,z,rfl,K,M⟩:=I;rw[E]at z;obtain⟨rfl,rfl⟩:=trodVars_none z;rw[jO]at K M;have o:∀x∈p,x.block<W.heap.size:=λx l=>w.lt x (by simp[l]);have n:∀(b:Nat)(D:Nat->Bool)(F:Bool),DataW.TrodAll enc P B b D F k.resultTypes.toList ((Value.bool true).resultList k.resultTypes.size) [.lit (.bool true)] []:=by intro b D F;rw[L];exact trodAll_mk1 (shut_bool Q true)
 have h:s.fn H (ds++[])={results:=[.lit (.bool true)],args:=ds}:=by rw[jO];exact y
 refine⟨ds,[],p++[],[],p,[],w,?_,?_,?_,?_,λ_=>?_⟩;rw[h];exact n _ _ _;rw[h];exact Qt N u g V o λx l=>by simpa using o x l
 rw[h];simpa[E,DataW.TrodVars]using z;exact World.keptBut_mono (λx l=>l.elim) (u.frame λ_=>False);rename_i O;simp at O;rw[A]at j;simp at j
end
end Hud
namespace Go.Proofs.YtlhonkjgkfdnmaaGreatDoor
open Go Go.RowKit Go.WideShapes Go.ChangeShapes Go.ChangeAt Hud
def Tryz.own:ownKnob Tryz.prog.godebug=none:=k_
def Tryz.laidOut:laidOutB Tryz.prog=true:=k_
def aNV:Tryz.prog.globalNamed "huddle/op.kinds" = some 0:=k_
def aNW:(Tryz.prog.globals[0]?).map (·.type)=some 202:=k_
def aNX:Tryz.prog.globalNamed "huddle/roll.asks" = some 1:=k_
def aNY:(Tryz.prog.globals[1]?).map (·.type)=some 232:=k_
abbrev G4:List (String×DataW Unit):=[("huddle/roll.asks",Rows.laid_huddle_roll_asks),("huddle/op.kinds",Rows.laid_huddle_op_kinds)]
def aKK:AK aGh:=rfl
def aIJ:GK aGh:=rfl
def RT:List (Option (List UInt8×Nat)):=[none,none,some ([104,117,100,100,108,101,47,114,111,108,108,46,97,115,107,115,36,49],wS),some ([104,117,100,100,108,101,47,114,111,108,108,46,97,115,107,115,36,50],wT),none,some ([104,117,100,100,108,101,47,114,111,108,108,46,97,115,107,115,36,51],wU),some ([104,117,100,100,108,101,47,114,111,108,108,46,97,115,107,115,36,52],wV),none,some ([104,117,100,100,108,101,47,114,111,108,108,46,97,115,107,115,36,53],wW),some ([104,117,100,100,108,101,47,114,111,108,108,46,97,115,107,115,36,54],wX),some ([40,42,104,117,100,100,108,101,47,114,111,108,108,46,82,111,108,108,41,46,111,119,110],mB),some ([104,117,100,100,108,101,47,114,111,108,108,46,97,115,107,115,36,55],wY),some ([40,42,104,117,100,100,108,101,47,114,111,108,108,46,82,111,108,108,41,46,111,119,110],mB),some ([104,117,100,100,108,101,47,114,111,108,108,46,97,115,107,115,36,56],wZ)]
def aV:Option (List UInt8×Nat)->Value|none=>.nilFunc|some x=>.func (.func x.2) #[] #[]
def aN:Option (List UInt8×Nat)->DataW (List UInt8)|none=>.nil|some x=>.held x.1
def aEB:lP=(RT.map aV).map .v:=rfl
noncomputable def aNZ(s:List UInt8):V_:=(List.range Tryz.prog.funcs.size).filter λf=>(Tryz.prog.funcs[f]?).any (·.name.toUTF8.data.toList==s)
def okF:Option (List UInt8×Nat)->Prop|none=>True|some x=>∃b r,x.1=b::r/\aNZ x.1=[x.2]
def aBn:List (Option (List UInt8×Nat))->Prop|[]=>True|x::l=>okF x/\aBn l
def aBn.get:∀{l:List (Option (List UInt8×Nat))},aBn l->∀i(h:i<l.length),okF l[i]|_::_,h,0,_=>h.1|_::_,h,i+1,a=>aBn.get h.2 i (Nat.lt_of_succ_lt_succ a)
def aKL:aBn RT:=⟨trivial,trivial,⟨_,_,rfl,k_⟩,⟨_,_,rfl,k_⟩,trivial,⟨_,_,rfl,k_⟩,⟨_,_,rfl,k_⟩,trivial,⟨_,_,rfl,k_⟩,⟨_,_,rfl,k_⟩,⟨_,_,rfl,k_⟩,⟨_,_,rfl,k_⟩,⟨_,_,rfl,k_⟩,⟨_,_,rfl,k_⟩,trivial⟩
set_option maxRecDepth 100000 in
def aGi{W:World}{x:Option (List UInt8×Nat)}(a:okF x){m:Nat}{v:Value}{q:List MemPlace}(h:DataW.trod (funcToken Tryz.prog) Tryz.prog W 0 (λ_=>true) true m 231 [v]=some (aN x,q)):v=aV x:=by
 cases x with
 |none=>
  cases m with
  |zero=>simp[DataW.trod]at h|succ n=>cases v<;>simp[DataW.trod,Tryz.underlying231,aN]at h<;>rfl
 |some x=>
  obtain⟨s,f⟩:=x;obtain⟨b,r,rfl,h1⟩:=a;exact func_of_trod Tryz.underlying231 h1 h
set_option maxRecDepth 100000 in
def Xq{W:World}(h:laidMetH Tryz.prog G4 W):laidMet Tryz.prog [("huddle/op.kinds",Rows.laid_huddle_op_kinds)] W:=by unfold laidMetH at h;rw[(k_:(G4.filter λx=>x.2.handleName?.isSome)=[("huddle/roll.asks",Rows.laid_huddle_roll_asks)])]at h;have h1:=h.1;rw[(k_:(G4.filter λx=>x.2.handleName?.isNone)=[("huddle/op.kinds",Rows.laid_huddle_op_kinds)])]at h1;exact h1
def aEC{W:World}{N:List (Option (List UInt8×Nat))}(k:aBn N)(o:N.length=14){cs:Array Value}{fuel:Nat}{p:List MemPlace}(j:DataW.trod (funcToken Tryz.prog) Tryz.prog W 0 (λ_=>true) true fuel 232 cs.toList=some (.agg (N.map aN),p)):
 ∀i(f:i<N.length),cs.toList[i]?=some (aV N[i]):=by
 obtain⟨e,m,rfl,a,h,n,g⟩:=DataW.trod_array Tryz.underlying232 j;have c1:Tryz.prog.cellsOf 231=1:=k_;have l:Tryz.prog.cellsOf 232=14:=k_;simp only[Prod.mk.injEq,DataW.agg.injEq]at a;intro i f;have d:i<14:=o_;have c:i<cs.toList.length:=o_;have b:i<e.length:=o_;have h1:=g i d;rw[c1,Bb,jN b,Kc c,QI,uQ]at h1;have h2:some (aN N[i])=some e[i].1:=by have:=congrArg (·[i]?) a.1;simpa[f,b]using this
 have h2:=Option.some.inj h2;have h3:e[i]=(aN N[i],e[i].2):=by rw[h2]
 rw[h3]at h1;rw[jN c,aGi (k.get i f) h1]
set_option maxRecDepth 100000 in
def aGj {W:World} (h:laidMetH Tryz.prog G4 W):∀i(k:i<RT.length),oY (Iy W) 1 (0+i)=some (aV RT[i]):=by
 obtain⟨g,t,q,e,p,l,j,b,m⟩:=h.funcs (n := "huddle/roll.asks") (EV ..);obtain rfl:=Option.some.inj (aNX.symm.trans l);obtain rfl:=Option.some.inj (aNY.symm.trans j);have d:DataW.trod (funcToken Tryz.prog) Tryz.prog W 0 (λ_=>true) true e 232 q.toList=some (.agg (RT.map aN),p):=m;have a:=aEC aKL rfl d;clear m d h j;generalize RT=N at *
 intro i k;have h1:=a i k;simp only[World.var?,l,H6]at b;unfold oY Iy;split at b;rename_i c t f o;cases b;rw[o];simp only[H6,pQ];simpa using h1;simp at b
set_option maxRecDepth 100000 in
def aED{W:World}(h0:laidMetH Tryz.prog G4 W):∀i(j:i<qY.length),oY (Iy W) 0 (0+i)=some (.int .i64 ((qY[i]:Nat):Int)):=by
 have h:=Xq h0;obtain⟨ps,⟨D,y,m,E,A,z,l,o,a,r,_⟩,_⟩:=h;obtain rfl:=Option.some.inj (aNV.symm.trans l);obtain rfl:=Option.some.inj (aNW.symm.trans o);obtain⟨n,B,rfl,d,s,C,q⟩:=DataW.trod_array Tryz.underlying202 r;have c3:Tryz.prog.cellsOf 3=1:=k_;simp only[Prod.mk.injEq]at d;have v:n.map (·.1)=[.lit (.int .i64 0),.lit (.int .i64 2064),.lit (.int .i64 32793),.lit (.int .i64 21),.lit (.int .i64 16),.lit (.int .i64 12),.lit (.int .i64 480),.lit (.int .i64 640),.lit (.int .i64 512),.lit (.int .i64 31744),.lit (.int .i64 8704),.lit (.int .i64 8705),.lit (.int .i64 512),.lit (.int .i64 33299)]:=by have:=d.1;unfold Rows.laid_huddle_op_kinds at this;injection this with this;exact this.symm
 have b:∀i(j:i<qY.length),m.toList[i]?=some (.int .i64 ((qY[i]:Nat):Int)):=by
  intro i j;have g:i<14:=j;have h1:=q i g;rw[c3,Bb]at h1;have e:i<n.length:=o_;rw[jN e]at h1;obtain⟨k,x,w,_⟩:=DataW.trod_int Tryz.underlying3 h1;have p:some n[i].1=some (.lit (.int .i64 ((qY[i]:Nat):Int))):=by
   have:=congrArg (·[i]?) v;simp only[gE,jN e,iX]at this;rw[this];have:i=0\/i=1\/i=2\/i=3\/i=4\/i=5\/i=6\/i=7\/i=8\/i=9\/i=10\/i=11\/i=12\/i=13:=o_;rcases this with rfl|rfl|rfl|rfl|rfl|rfl|rfl|rfl|rfl|rfl|rfl|rfl|rfl|rfl<;>rfl
  rw[w]at p;simp only[E_,DataW.lit.injEq,Lit.int.injEq,true_and]at p;have h0:(m.toList.drop i)[0]?=some (.int .i64 k):=by have:=congrArg (·[0]?) x;simpa using this
  rw[Hw,mG]at h0;subst p;exact h0
 intro i j;have h1:=b i j;simp only[World.var?,l,H6]at a;unfold oY Iy;split at a;rename_i c t f u;cases a;rw[u];simp only[H6,pQ];simpa using h1;simp at a
def aGk{W:World}(h:laidMetH Tryz.prog G4 W):tU aGh (Iy W):=by intro g d e;unfold aGh at e;split at e;rename_i c;subst c;cases e;rw[aEB];refine S8 _ 0 (λv a=>?_) λi b=>?_;obtain⟨x,_,rfl⟩:=dF.1 a;cases x<;>rfl;rw[zL];exact aGj h i T_;split at e;rename_i c;subst c;cases e;rw[show(qY.map λn:Nat=>iv (n:Int))=(qY.map λn:Nat=>Value.int .i64 (n:Int)).map .v from(rI ..).symm];refine S8 _ 0 (λv a=>?_) λi b=>?_;obtain⟨x,_,rfl⟩:=dF.1 a;rfl;rw[zL];exact aED h i T_;simp at e
def aEE(os:Os)(args:Array Value):laidMetH Tryz.prog G4 ((World.doorLaid Tryz.prog 400 os).forCall (λ_ _=>0) ⟨#[],args,[]⟩).memory :=
 laidMetH_of_parts3 (fuel:=8) (laidMet_of_run' 8 k_ k_) k_ k_
set_option maxRecDepth 100000 in
def Zc{f:Nat}{H:Type}{enc:TypeId×Value->H}{W:World}{a:Nat->Bool}{e:Bool}{v:Value}{d:DataW H}{ps:List MemPlace}(i:Value.okWide Tryz.prog W .any f 22 v)(o:DataW.Trod enc Tryz.prog W 0 a e 22 v d ps):
 ∃l:B_,(∀x∈l,mZ x)/\l.length<=2^63-1/\Rp (Iy W) (λ_=>undef) 0 (rG l) v:=by
 obtain⟨A,q,r,rfl⟩:=okWide_slice Tryz.underlying22 i;have h:=aD5 (φ:=λ_=>undef) (ks:=[.int .i64]) (n:=1) Tryz.underlying22 k_ k_ d_ o;obtain⟨p,m,c,b⟩:=h;obtain⟨l,g,j⟩:=Y2 m;have k:p.length=l.length:=by simpa using congrArg List.length g
 rw[g]at b;refine⟨l,j,?_,b⟩;unfold maxLen at c;omega
end Go.Proofs.YtlhonkjgkfdnmaaGreatDoor
