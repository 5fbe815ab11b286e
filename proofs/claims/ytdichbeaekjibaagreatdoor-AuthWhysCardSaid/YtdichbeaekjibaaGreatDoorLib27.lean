import Derived.Test.YtdichbeaekjibaaGreatDoorLib26
import Derived.Test.YtdichbeaekjibaaGreatDoorTie
import Derived.Test.YtdichbeaekjibaaGreatDoorCards
import Derived.LaidMore
import Derived.OpenShut
import Derived.Stop.Joined
import Derived.FnData
set_option linter.all false
namespace Hud
open Go Go.RowKit Go.WideShapes Go.ChangeShapes Go.Deep
def S8 {h:GH} {g:Nat}:∀ (l:List Value) (o:Nat),(∀ v∈l,aX (.v v)=true)→(∀ i (hi:i<l.length),oY h g (o+i)=some l[i])→mR h g (l.map .v) o
 | [],_,_,_=>by simp [mR]
 | x::l,o,hcl,hc=>by
  simp only [fG,mR];refine ⟨⟨_,hcl x (by simp),hc 0 (by simp),by simp [oB]⟩,S8 l (o+1) (λv hv=>hcl v (by simp [hv])) λi hi=>?_⟩;have:=hc (i+1) (by simp;omega);rw [show o+1+i=o+(i+1) by omega];simpa using this
section
variable {H:Type} {enc:TypeId×Value→H} {P:Program} {w:World} {base:Nat} {spare:Nat→Bool} {held:Bool}
end
section
variable {H:Type} {enc:TypeId×Value→H} {P:Program} {W:World} {base:Nat} {spare:Nat→Bool} {held:Bool} {h:GH} {φ:Nat→Value}
def aBm {f:FuncId} {fn:Func} {s:ChangeSpec} {apart fresh handsOn:Bool} {args:Array Value} {avs:List AV} {ds gs:List (DataW H)} {before:List MemPlace} {tb:TypeId}
  (hl:laidOutB P=true) (hW:DataW.Whole enc P fn.params.toList s.vars apart W args.toList ds gs before) (hv:s.vars=[]) (hsp:s.fn H ds={ results:=[.lit (.bool true)],args:=ds })
  (hread:∀ t∈fn.params.toList,P.readableRec t=true∧t<P.types.size) (hr:fn.resultTypes=#[tb]) (hb:P.underlying tb=some .bool)
  (ent:(callFunc f args).run P W=.ok (.enter f args) W) {G:Nat→Option (List AV)} (hG:tU G (Iy W)) (hc:aA P G f avs [] λr T=>r=.v (.bool true)∧T=[]) (ha:cC (Iy W) φ 0 avs args.toList) :
  Calls P f args W λe W'=>∃ v,e=.returned v∧s.post enc P fn apart fresh handsOn false W args v W':=by
 rcases hc (Iy W) φ W args hG (aD4 W φ) ha with ⟨_,hc⟩ | ⟨v,w',hc,_⟩
 ·refine hc.mono ?_;rintro e W' ⟨v,rfl,r,T',h',φ',⟨rfl,rfl⟩,hE,_,hrv⟩;simp only [Rp] at hrv;subst hrv;refine ⟨_,rfl,?_⟩;have hbe:=aAA hE;have hW0:=hW;obtain ⟨p,q,hA,hV,rfl,hz,hn⟩:=hW;rw [hv] at hV;obtain ⟨rfl,rfl⟩:=trodVars_none hV;rw [jO] at hz hn;have hlt:∀ x∈p,x.block<W.heap.size:=λx hx=>hW0.lt x (by simp [hx]);have hres:∀ (b:Nat) (sp:Nat→Bool) (hd:Bool),DataW.TrodAll enc P W' b sp hd fn.resultTypes.toList ((Value.bool true).resultList fn.resultTypes.size) [.lit (.bool true)] []:=by
   intro b sp hd;rw [hr];exact trodAll_mk1 (shut_bool hb true)
  have hfn:s.fn H (ds++[])={ results:=[.lit (.bool true)],args:=ds }:=by rw [jO];exact hsp
  refine ⟨ds,[],p++[],[],p,[],hW0,?_,?_,?_,?_,λ_=>?_⟩
  ·rw [hfn];exact hres _ _ _
  ·rw [hfn];exact Qt hl hbe hread hA hlt λx hx=>by simpa using hlt x hx
  ·rw [hfn];simpa [hv,DataW.TrodVars] using hV
  ·exact World.keptBut_mono (λx hx=>hx.elim) (hbe.frame λ_=>False)
  ·rename_i hh;simp at hh
 ·rw [ent] at hc;simp at hc
end
end Hud
namespace Go.Proofs.YtdichbeaekjibaaGreatDoor
open Go Go.RowKit Go.WideShapes Go.ChangeShapes Go.ChangeAt Hud
def Tryz.own:ownKnob Tryz.prog.godebug=none:=by kernel_rfl
def Tryz.laidOut:laidOutB Tryz.prog=true:=by kernel_rfl
def aNV:Tryz.prog.globalNamed "huddle/op.kinds" = some 1:=by kernel_rfl
def aNW:(Tryz.prog.globals[1]?).map (·.type)=some 245:=by kernel_rfl
def aNX:Tryz.prog.globalNamed "huddle/roll.asks" = some 0:=by kernel_rfl
def aNY:(Tryz.prog.globals[0]?).map (·.type)=some 141:=by kernel_rfl
abbrev G4:List (String×DataW Unit):=[("huddle/roll.asks",Rows.laid_huddle_roll_asks),("huddle/op.kinds",Rows.laid_huddle_op_kinds)]
def aKK:AK aGh:=rfl
def aIJ:GK aGh:=rfl
def RT:List (Option (List UInt8×Nat)):=[none,none,some ([104,117,100,100,108,101,47,114,111,108,108,46,97,115,107,115,36,49],wS),some ([104,117,100,100,108,101,47,114,111,108,108,46,97,115,107,115,36,50],wT),none,some ([104,117,100,100,108,101,47,114,111,108,108,46,97,115,107,115,36,51],wU),some ([104,117,100,100,108,101,47,114,111,108,108,46,97,115,107,115,36,52],wV),none,some ([104,117,100,100,108,101,47,114,111,108,108,46,97,115,107,115,36,53],wW),some ([104,117,100,100,108,101,47,114,111,108,108,46,97,115,107,115,36,54],wX),some ([40,42,104,117,100,100,108,101,47,114,111,108,108,46,82,111,108,108,41,46,111,119,110],mB),some ([104,117,100,100,108,101,47,114,111,108,108,46,97,115,107,115,36,55],wY),some ([40,42,104,117,100,100,108,101,47,114,111,108,108,46,82,111,108,108,41,46,111,119,110],mB),some ([104,117,100,100,108,101,47,114,111,108,108,46,97,115,107,115,36,56],wZ)]
def aV:Option (List UInt8×Nat)→Value
 | none=>.nilFunc
 | some x=>.func (.func x.2) #[] #[]
def aN:Option (List UInt8×Nat)→DataW (List UInt8)
 | none=>.nil
 | some x=>.held x.1
def aEB:lP=(RT.map aV).map .v:=rfl
noncomputable def aNZ (s:List UInt8):List Nat:=(List.range Tryz.prog.funcs.size).filter λf=>(Tryz.prog.funcs[f]?).any (·.name.toUTF8.data.toList==s)
def okF:Option (List UInt8×Nat)→Prop
 | none=>True
 | some x=>∃ b r,x.1=b::r∧aNZ x.1=[x.2]
def aBn:List (Option (List UInt8×Nat))→Prop
 | []=>True
 | x::l=>okF x∧aBn l
def aBn.get:∀ {l:List (Option (List UInt8×Nat))},aBn l→∀ i (h:i<l.length),okF l[i]
 | _::_,h,0,_=>h.1
 | _::_,h,i+1,hi=>aBn.get h.2 i (Nat.lt_of_succ_lt_succ hi)
def aKL:aBn RT:=⟨trivial,trivial,⟨_,_,rfl,by kernel_rfl⟩,⟨_,_,rfl,by kernel_rfl⟩,trivial,⟨_,_,rfl,by kernel_rfl⟩,⟨_,_,rfl,by kernel_rfl⟩,trivial,⟨_,_,rfl,by kernel_rfl⟩,⟨_,_,rfl,by kernel_rfl⟩,⟨_,_,rfl,by kernel_rfl⟩,⟨_,_,rfl,by kernel_rfl⟩,⟨_,_,rfl,by kernel_rfl⟩,⟨_,_,rfl,by kernel_rfl⟩,trivial⟩
set_option maxRecDepth 100000 in
def aGi {W:World} {x:Option (List UInt8×Nat)} (hx:okF x) {m:Nat} {v:Value} {q:List MemPlace} (h:DataW.trod (funcToken Tryz.prog) Tryz.prog W 0 (λ_=>true) true m 140 [v]=some (aN x,q)):v=aV x:=by
 cases x with
 | none =>
  cases m with
  | zero=>simp [DataW.trod] at h
  | succ n=>cases v<;>simp [DataW.trod,Tryz.underlying140,aN] at h<;>rfl
 | some x =>
  obtain ⟨s,f⟩:=x;obtain ⟨b,r,rfl,h1⟩:=hx;exact func_of_trod Tryz.underlying140 h1 h
set_option maxRecDepth 100000 in
def Xq {W:World} (h:laidMetH Tryz.prog G4 W):laidMet Tryz.prog [("huddle/op.kinds",Rows.laid_huddle_op_kinds)] W:=by
  unfold laidMetH at h;rw [show (G4.filter λx=>x.2.handleName?.isSome)=[("huddle/roll.asks",Rows.laid_huddle_roll_asks)] by kernel_rfl] at h;have h1:=h.1;rw [show (G4.filter λx=>x.2.handleName?.isNone)=[("huddle/op.kinds",Rows.laid_huddle_op_kinds)] by kernel_rfl] at h1;exact h1
def aEC {W:World} {N:List (Option (List UInt8×Nat))} (hF:aBn N) (hN:N.length=14) {cs:Array Value} {fuel:Nat} {p:List MemPlace} (hd:DataW.trod (funcToken Tryz.prog) Tryz.prog W 0 (λ_=>true) true fuel 141 cs.toList=some (.agg (N.map aN),p)) :
  ∀ i (hi:i<N.length),cs.toList[i]?=some (aV N[i]):=by
 obtain ⟨xs,m1,rfl,hx1,hlen,hn,hel⟩:=DataW.trod_array Tryz.underlying141 hd;have c1:Tryz.prog.cellsOf 140=1:=by kernel_rfl
 have c14:Tryz.prog.cellsOf 141=14:=by kernel_rfl
 simp only [Prod.mk.injEq,DataW.agg.injEq] at hx1;intro i hi;have hi14:i<14:=by omega
 have hil:i<cs.toList.length:=by omega
 have hix:i<xs.length:=by omega
 have h1:=hel i hi14;rw [c1,Bb,jN hix,Kc hil,QI,uQ] at h1;have h2:some (aN N[i])=some xs[i].1:=by
  have:=congrArg (·[i]?) hx1.1;simpa [hi,hix] using this
 have h2:=Option.some.inj h2;have h3:xs[i]=(aN N[i],xs[i].2):=by rw [h2]
 rw [h3] at h1;rw [jN hil,aGi (hF.get i hi) h1]
set_option maxRecDepth 100000 in
def aGj {W:World} (h:laidMetH Tryz.prog G4 W):∀ i (hi:i<RT.length),oY (Iy W) 0 (0+i)=some (aV RT[i]):=by
  obtain ⟨g,t,cs,fuel,p,hg,ht,hv,hd⟩:=h.funcs (n := "huddle/roll.asks") (EV ..);obtain rfl:=Option.some.inj (aNX.symm.trans hg);obtain rfl:=Option.some.inj (aNY.symm.trans ht);have hd2:DataW.trod (funcToken Tryz.prog) Tryz.prog W 0 (λ_=>true) true fuel 141 cs.toList=some (.agg (RT.map aN),p):=hd;have hcell:=aEC aKL rfl hd2;clear hd hd2 h ht;generalize RT=N at *
  intro i hi;have h1:=hcell i hi;simp only [World.var?,hg,H6] at hv;unfold oY Iy;split at hv
  · rename_i c t f hb
    injection hv with hv
    subst hv
    rw [hb]
    simp only [H6,pQ]
    simpa using h1
  · simp at hv
set_option maxRecDepth 100000 in
def aED {W:World} (h0:laidMetH Tryz.prog G4 W):∀ i (hi:i<qY.length),oY (Iy W) 1 (0+i)=some (.int .i64 ((qY[i]:Nat):Int)):=by
 have h:=Xq h0;obtain ⟨ps,⟨g0,t0,cs0,f0,p0,q0,hg0,ht0,hv0,hd0,_⟩,_⟩:=h;obtain rfl:=Option.some.inj (aNV.symm.trans hg0);obtain rfl:=Option.some.inj (aNW.symm.trans ht0);obtain ⟨xs,m1,rfl,hx1,hlen,hn,hel⟩:=DataW.trod_array Tryz.underlying245 hd0;have c3:Tryz.prog.cellsOf 3=1:=by kernel_rfl
 simp only [Prod.mk.injEq] at hx1;have hL:xs.map (·.1)=[.lit (.int .i64 0),.lit (.int .i64 2064),.lit (.int .i64 32793),.lit (.int .i64 21),.lit (.int .i64 16),.lit (.int .i64 12),.lit (.int .i64 480),.lit (.int .i64 640),.lit (.int .i64 512),.lit (.int .i64 31744),.lit (.int .i64 8704),.lit (.int .i64 8705),.lit (.int .i64 512),.lit (.int .i64 33299)]:=by
  have:=hx1.1;unfold Rows.laid_huddle_op_kinds at this;injection this with this;exact this.symm
 have hcell:∀ i (hi:i<qY.length),cs0.toList[i]?=some (.int .i64 ((qY[i]:Nat):Int)):=by
  intro i hi;have hi14:i<14:=hi;have h1:=hel i hi14;rw [c3,Bb] at h1;have hix:i<xs.length:=by omega
  rw [jN hix] at h1;obtain ⟨k,e1,e2,_⟩:=DataW.trod_int Tryz.underlying3 h1;have hk:some xs[i].1=some (.lit (.int .i64 ((qY[i]:Nat):Int))):=by
   have:=congrArg (·[i]?) hL;simp only [gE,jN hix,iX] at this;rw [this];have:i=0∨i=1∨i=2∨i=3∨i=4∨i=5∨i=6∨i=7∨i=8∨i=9∨i=10∨i=11∨i=12∨i=13:=by omega
   rcases this with rfl | rfl | rfl | rfl | rfl | rfl | rfl | rfl | rfl | rfl | rfl | rfl | rfl | rfl<;>rfl
  rw [e2] at hk;simp only [Option.some.injEq,DataW.lit.injEq,Lit.int.injEq,true_and] at hk;have h0:(cs0.toList.drop i)[0]?=some (.int .i64 k):=by
   have:=congrArg (·[0]?) e1;simpa using this
  rw [Hw,mG] at h0;subst hk;exact h0
 intro i hi;have h1:=hcell i hi;simp only [World.var?,hg0,H6] at hv0;unfold oY Iy;split at hv0
 ·rename_i c t f hb;injection hv0 with hv0;subst hv0;rw [hb];simp only [H6,pQ];simpa using h1
 ·simp at hv0
def aGk {W:World} (h:laidMetH Tryz.prog G4 W):tU aGh (Iy W):=by
 intro g cs e;unfold aGh at e;split at e
 ·rename_i hg;subst hg;injection e with e;subst e;rw [aEB];refine S8 _ 0 (λv hv=>?_) λi hi=>?_
  ·obtain ⟨x,_,rfl⟩:=dF.1 hv;cases x<;>rfl
  ·rw [zL];exact aGj h i (by simpa using hi)
 ·split at e
  ·rename_i hg;subst hg;injection e with e;subst e;rw [show (qY.map λn:Nat=>iv (n:Int))=(qY.map λn:Nat=>Value.int .i64 (n:Int)).map .v from (rI ..).symm];refine S8 _ 0 (λv hv=>?_) λi hi=>?_
   ·obtain ⟨x,_,rfl⟩:=dF.1 hv;rfl
   ·rw [zL];exact aED h i (by simpa using hi)
  ·simp at e
def aEE (os:Os) (args:Array Value):laidMetH Tryz.prog G4 ((World.doorLaid Tryz.prog 400 os).forCall (λ_ _=>0) ⟨#[],args,[]⟩).memory :=
 laidMetH_of_parts3 (fuel:=8) (laidMet_of_run' 8 (by kernel_rfl) (by kernel_rfl)) (by kernel_rfl) (by kernel_rfl)
set_option maxRecDepth 100000 in
def Zc {base:Nat} {H:Type} {enc:TypeId×Value→H} {W:World} {spare:Nat→Bool} {held:Bool} {v:Value} {d:DataW H} {ps:List MemPlace} (hv:Value.okWide Tryz.prog W .any base 22 v) (hd:DataW.Trod enc Tryz.prog W 0 spare held 22 v d ps) :
  ∃ l:List Int,(∀ x∈l,mZ x)∧l.length≤9223372036854775807∧Rp (Iy W) (λ_=>undef) 0 (rG l) v:=by
 obtain ⟨A,l0,c0,rfl⟩:=okWide_slice Tryz.underlying22 hv;have s0:=aD5 (φ:=λ_=>undef) (ks:=[.int .i64]) (n:=1) Tryz.underlying22 (by kernel_rfl) (by kernel_rfl) (by decide) hd;obtain ⟨es,he,hlen,hr0⟩:=s0;obtain ⟨l,hl,ho⟩:=Y2 he;have hll:es.length=l.length:=by simpa using congrArg List.length hl
 rw [hl] at hr0;refine ⟨l,ho,?_,hr0⟩;unfold maxLen at hlen;omega
end Go.Proofs.YtdichbeaekjibaaGreatDoor
