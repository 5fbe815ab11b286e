import Derived.Test.YtdichbeaekjibaaGreatDoorLib33
import Derived.Test.YtdichbeaekjibaaGreatDoorTie
import Derived.Test.YtdichbeaekjibaaGreatDoorCards
import Derived.LaidMore
import Derived.OpenShut
import Derived.Stop.Joined
import Derived.FnData
set_option linter.all false
section
namespace Hud
open Go Go.RowKit Go.WideShapes Go.ChangeShapes Go.Deep
def PT {h:GH} {g:Nat}:∀ (l:List Value) (o:Nat),(∀ v∈l,aO (.v v)=true)→(∀ i (hi:i<l.length),lS h g (o+i)=some l[i])→kD h g (l.map .v) o
 | [],_,_,_=>by simp [kD]
 | x::l,o,hcl,hc=>by
  simp only [fE,kD];refine ⟨⟨_,hcl x (by simp),hc 0 (by simp),by simp [kY]⟩,PT l (o+1) (λv hv=>hcl v (by simp [hv])) λi hi=>?_⟩;have:=hc (i+1) (by simp;omega);rw [show o+1+i=o+(i+1) by omega];simpa using this
section
variable {H:Type} {enc:TypeId×Value→H} {P:Program} {w:World} {base:Nat} {spare:Nat→Bool} {held:Bool}
end
section
variable {H:Type} {enc:TypeId×Value→H} {P:Program} {W:World} {base:Nat} {spare:Nat→Bool} {held:Bool} {h:GH} {φ:Nat→Value}
def XN {f:FuncId} {fn:Func} {s:ChangeSpec} {apart fresh handsOn:Bool} {args:Array Value} {avs:List AV} {ds gs:List (DataW H)} {before:List MemPlace} {tb:TypeId}
  (hl:laidOutB P=true) (hW:DataW.Whole enc P fn.params.toList s.vars apart W args.toList ds gs before) (hv:s.vars=[]) (hsp:s.fn H ds={ results:=[.lit (.bool true)],args:=ds })
  (hread:∀ t∈fn.params.toList,P.readableRec t=true∧t<P.types.size) (hr:fn.resultTypes=#[tb]) (hb:P.underlying tb=some .bool)
  (ent:(callFunc f args).run P W=.ok (.enter f args) W) {G:Nat→Option (List AV)} (hG:pS G (FD W)) (hc:aC P G f avs [] λr T=>r=.v (.bool true)∧T=[]) (ha:bK (FD W) φ 0 avs args.toList) :
  Calls P f args W λe W'=>∃ v,e=.returned v∧s.post enc P fn apart fresh handsOn false W args v W':=by
 rcases hc (FD W) φ W args hG (Yu W φ) ha with ⟨_,hc⟩ | ⟨v,w',hc,_⟩
 ·refine hc.mono ?_;rintro e W' ⟨v,rfl,r,T',h',φ',⟨rfl,rfl⟩,hE,_,hrv⟩;simp only [Rp] at hrv;subst hrv;refine ⟨_,rfl,?_⟩;have hbe:=Wj hE;have hW0:=hW;obtain ⟨p,q,hA,hV,rfl,hz,hn⟩:=hW;rw [hv] at hV;obtain ⟨rfl,rfl⟩:=trodVars_none hV;rw [nR] at hz hn;have hlt:∀ x∈p,x.block<W.heap.size:=λx hx=>hW0.lt x (by simp [hx]);have hres:∀ (b:Nat) (sp:Nat→Bool) (hd:Bool),DataW.TrodAll enc P W' b sp hd fn.resultTypes.toList ((Value.bool true).resultList fn.resultTypes.size) [.lit (.bool true)] []:=by
   intro b sp hd;rw [hr];exact trodAll_mk1 (shut_bool hb true)
  have hfn:s.fn H (ds++[])={ results:=[.lit (.bool true)],args:=ds }:=by rw [nR];exact hsp
  refine ⟨ds,[],p++[],[],p,[],hW0,?_,?_,?_,?_,λ_=>?_⟩
  ·rw [hfn];exact hres _ _ _
  ·rw [hfn];exact NK hl hbe hread hA hlt λx hx=>by simpa using hlt x hx
  ·rw [hfn];simpa [hv,DataW.TrodVars] using hV
  ·exact World.keptBut_mono (λx hx=>hx.elim) (hbe.frame λ_=>False)
  ·rename_i hh;simp at hh
 ·rw [ent] at hc;simp at hc
end
end Hud
namespace Go.Proofs.YtdichbeaekjibaaGreatDoor
open Go Go.RowKit Go.WideShapes Go.ChangeShapes Go.ChangeAt Hud
def Tryz.own:ownKnob Tryz.prog.godebug=none:=by kernel_rfl
def Tryz.laidOut:laidOutB Tryz.prog=true:=by kernel_rfl
def aIK:Tryz.prog.globalNamed "huddle/op.kinds" = some 1:=by kernel_rfl
def aIL:(Tryz.prog.globals[1]?).map (·.type)=some 245:=by kernel_rfl
def aIM:Tryz.prog.globalNamed "huddle/roll.asks" = some 0:=by kernel_rfl
def aIN:(Tryz.prog.globals[0]?).map (·.type)=some 141:=by kernel_rfl
abbrev Ee:List (String×DataW Unit):=[("huddle/roll.asks",Rows.laid_huddle_roll_asks),("huddle/op.kinds",Rows.laid_huddle_op_kinds)]
def aDQ:GK DS:=rfl
def Nu:List (Option (List UInt8×Nat)):=[none,none,some ([104,117,100,100,108,101,47,114,111,108,108,46,97,115,107,115,36,49],sY),some ([104,117,100,100,108,101,47,114,111,108,108,46,97,115,107,115,36,50],sZ),none,some ([104,117,100,100,108,101,47,114,111,108,108,46,97,115,107,115,36,51],EM),some ([104,117,100,100,108,101,47,114,111,108,108,46,97,115,107,115,36,52],EN),none,some ([104,117,100,100,108,101,47,114,111,108,108,46,97,115,107,115,36,53],EO),some ([104,117,100,100,108,101,47,114,111,108,108,46,97,115,107,115,36,54],EP),some ([40,42,104,117,100,100,108,101,47,114,111,108,108,46,82,111,108,108,41,46,111,119,110],pM),some ([104,117,100,100,108,101,47,114,111,108,108,46,97,115,107,115,36,55],EQ),some ([40,42,104,117,100,100,108,101,47,114,111,108,108,46,82,111,108,108,41,46,111,119,110],pM),some ([104,117,100,100,108,101,47,114,111,108,108,46,97,115,107,115,36,56],ES)]
def aV:Option (List UInt8×Nat)→Value
 | none=>.nilFunc
 | some x=>.func (.func x.2) #[] #[]
def aN:Option (List UInt8×Nat)→DataW (List UInt8)
 | none=>.nil
 | some x=>.held x.1
def aA8:aCj=(Nu.map aV).map .v:=rfl
noncomputable def aIO (s:List UInt8):List Nat:=(List.range Tryz.prog.funcs.size).filter λf=>(Tryz.prog.funcs[f]?).any (·.name.toUTF8.data.toList==s)
def okF:Option (List UInt8×Nat)→Prop
 | none=>True
 | some x=>∃ b r,x.1=b::r∧aIO x.1=[x.2]
def XO:List (Option (List UInt8×Nat))→Prop
 | []=>True
 | x::l=>okF x∧XO l
def XO.get:∀ {l:List (Option (List UInt8×Nat))},XO l→∀ i (h:i<l.length),okF l[i]
 | _::_,h,0,_=>h.1
 | _::_,h,i+1,hi=>XO.get h.2 i (Nat.lt_of_succ_lt_succ hi)
def aFF:XO Nu:=⟨trivial,trivial,⟨_,_,rfl,by kernel_rfl⟩,⟨_,_,rfl,by kernel_rfl⟩,trivial,⟨_,_,rfl,by kernel_rfl⟩,⟨_,_,rfl,by kernel_rfl⟩,trivial,⟨_,_,rfl,by kernel_rfl⟩,⟨_,_,rfl,by kernel_rfl⟩,⟨_,_,rfl,by kernel_rfl⟩,⟨_,_,rfl,by kernel_rfl⟩,⟨_,_,rfl,by kernel_rfl⟩,⟨_,_,rfl,by kernel_rfl⟩,trivial⟩
set_option maxRecDepth 100000 in
def aBE {W:World} {x:Option (List UInt8×Nat)} (hx:okF x) {m:Nat} {v:Value} {q:List MemPlace} (h:DataW.trod (funcToken Tryz.prog) Tryz.prog W 0 (λ_=>true) true m 140 [v]=some (aN x,q)):v=aV x:=by
 cases x with
 | none =>
  cases m with
  | zero=>simp [DataW.trod] at h
  | succ n=>cases v<;>simp [DataW.trod,Tryz.underlying140,aN] at h<;>rfl
 | some x =>
  obtain ⟨s,f⟩:=x;obtain ⟨b,r,rfl,h1⟩:=hx;exact func_of_trod Tryz.underlying140 h1 h
set_option maxRecDepth 100000 in
def Tm {W:World} (h:laidMetH Tryz.prog Ee W):laidMet Tryz.prog [("huddle/op.kinds",Rows.laid_huddle_op_kinds)] W:=by
  unfold laidMetH at h;rw [show (Ee.filter λx=>x.2.handleName?.isSome)=[("huddle/roll.asks",Rows.laid_huddle_roll_asks)] by kernel_rfl] at h;have h1:=h.1;rw [show (Ee.filter λx=>x.2.handleName?.isNone)=[("huddle/op.kinds",Rows.laid_huddle_op_kinds)] by kernel_rfl] at h1;exact h1
def aA9 {W:World} {N:List (Option (List UInt8×Nat))} (hF:XO N) (hN:N.length=14) {cs:Array Value} {fuel:Nat} {p:List MemPlace} (hd:DataW.trod (funcToken Tryz.prog) Tryz.prog W 0 (λ_=>true) true fuel 141 cs.toList=some (.agg (N.map aN),p)) :
  ∀ i (hi:i<N.length),cs.toList[i]?=some (aV N[i]):=by
 obtain ⟨xs,m1,rfl,hx1,hlen,hn,hel⟩:=DataW.trod_array Tryz.underlying141 hd;have c1:Tryz.prog.cellsOf 140=1:=by kernel_rfl
 have c14:Tryz.prog.cellsOf 141=14:=by kernel_rfl
 simp only [Prod.mk.injEq,DataW.agg.injEq] at hx1;intro i hi;have hi14:i<14:=by omega
 have hil:i<cs.toList.length:=by omega
 have hix:i<xs.length:=by omega
 have h1:=hel i hi14;rw [c1,FX,nQ hix,VX hil,Mf,rY] at h1;have h2:some (aN N[i])=some xs[i].1:=by
  have:=congrArg (·[i]?) hx1.1;simpa [hi,hix] using this
 have h2:=Option.some.inj h2;have h3:xs[i]=(aN N[i],xs[i].2):=by rw [h2]
 rw [h3] at h1;rw [nQ hil,aBE (hF.get i hi) h1]
set_option maxRecDepth 100000 in
def aBF {W:World} (h:laidMetH Tryz.prog Ee W):∀ i (hi:i<Nu.length),lS (FD W) 0 (0+i)=some (aV Nu[i]):=by
  obtain ⟨g,t,cs,fuel,p,hg,ht,hv,hd⟩:=h.funcs (n := "huddle/roll.asks") (Gk ..);obtain rfl:=Option.some.inj (aIM.symm.trans hg);obtain rfl:=Option.some.inj (aIN.symm.trans ht);have hd2:DataW.trod (funcToken Tryz.prog) Tryz.prog W 0 (λ_=>true) true fuel 141 cs.toList=some (.agg (Nu.map aN),p):=hd;have hcell:=aA9 aFF rfl hd2;clear hd hd2 h ht;generalize Nu=N at *
  intro i hi;have h1:=hcell i hi;simp only [World.var?,hg,Hh] at hv;unfold lS FD;split at hv
  · rename_i c t f hb
    injection hv with hv
    subst hv
    rw [hb]
    simp only [Hh,qT]
    simpa using h1
  · simp at hv
set_option maxRecDepth 100000 in
def aAa {W:World} (h0:laidMetH Tryz.prog Ee W):∀ i (hi:i<nI.length),lS (FD W) 1 (0+i)=some (.int .i64 ((nI[i]:Nat):Int)):=by
 have h:=Tm h0;obtain ⟨ps,⟨g0,t0,cs0,f0,p0,q0,hg0,ht0,hv0,hd0,_⟩,_⟩:=h;obtain rfl:=Option.some.inj (aIK.symm.trans hg0);obtain rfl:=Option.some.inj (aIL.symm.trans ht0);obtain ⟨xs,m1,rfl,hx1,hlen,hn,hel⟩:=DataW.trod_array Tryz.underlying245 hd0;have c3:Tryz.prog.cellsOf 3=1:=by kernel_rfl
 simp only [Prod.mk.injEq] at hx1;have hL:xs.map (·.1)=[.lit (.int .i64 0),.lit (.int .i64 2064),.lit (.int .i64 32793),.lit (.int .i64 21),.lit (.int .i64 16),.lit (.int .i64 12),.lit (.int .i64 480),.lit (.int .i64 640),.lit (.int .i64 512),.lit (.int .i64 31744),.lit (.int .i64 8704),.lit (.int .i64 8705),.lit (.int .i64 512),.lit (.int .i64 33299)]:=by
  have:=hx1.1;unfold Rows.laid_huddle_op_kinds at this;injection this with this;exact this.symm
 have hcell:∀ i (hi:i<nI.length),cs0.toList[i]?=some (.int .i64 ((nI[i]:Nat):Int)):=by
  intro i hi;have hi14:i<14:=hi;have h1:=hel i hi14;rw [c3,FX] at h1;have hix:i<xs.length:=by omega
  rw [nQ hix] at h1;obtain ⟨k,e1,e2,_⟩:=DataW.trod_int Tryz.underlying3 h1;have hk:some xs[i].1=some (.lit (.int .i64 ((nI[i]:Nat):Int))):=by
   have:=congrArg (·[i]?) hL;simp only [lO,nQ hix,lA] at this;rw [this];have:i=0∨i=1∨i=2∨i=3∨i=4∨i=5∨i=6∨i=7∨i=8∨i=9∨i=10∨i=11∨i=12∨i=13:=by omega
   rcases this with rfl | rfl | rfl | rfl | rfl | rfl | rfl | rfl | rfl | rfl | rfl | rfl | rfl | rfl<;>rfl
  rw [e2] at hk;simp only [Option.some.injEq,DataW.lit.injEq,Lit.int.injEq,true_and] at hk;have h0:(cs0.toList.drop i)[0]?=some (.int .i64 k):=by
   have:=congrArg (·[0]?) e1;simpa using this
  rw [FV,wK] at h0;subst hk;exact h0
 intro i hi;have h1:=hcell i hi;simp only [World.var?,hg0,Hh] at hv0;unfold lS FD;split at hv0
 ·rename_i c t f hb;injection hv0 with hv0;subst hv0;rw [hb];simp only [Hh,qT];simpa using h1
 ·simp at hv0
def aBG {W:World} (h:laidMetH Tryz.prog Ee W):pS DS (FD W):=by
 intro g cs e;unfold DS at e;split at e
 ·rename_i hg;subst hg;injection e with e;subst e;rw [aA8];refine PT _ 0 (λv hv=>?_) λi hi=>?_
  ·obtain ⟨x,_,rfl⟩:=cZ.1 hv;cases x<;>rfl
  ·rw [Eg];exact aBF h i (by simpa using hi)
 ·split at e
  ·rename_i hg;subst hg;injection e with e;subst e;rw [show (nI.map λn:Nat=>iv (n:Int))=(nI.map λn:Nat=>Value.int .i64 (n:Int)).map .v from (D1 ..).symm];refine PT _ 0 (λv hv=>?_) λi hi=>?_
   ·obtain ⟨x,_,rfl⟩:=cZ.1 hv;rfl
   ·rw [Eg];exact aAa h i (by simpa using hi)
  ·simp at e
def aAb (os:Os) (args:Array Value):laidMetH Tryz.prog Ee ((World.doorLaid Tryz.prog 400 os).forCall (λ_ _=>0) ⟨#[],args,[]⟩).memory :=
 laidMetH_of_parts3 (fuel:=8) (laidMet_of_run' 8 (by kernel_rfl) (by kernel_rfl)) (by kernel_rfl) (by kernel_rfl)
set_option maxRecDepth 100000 in
def aBH {base:Nat} {H:Type} {enc:TypeId×Value→H} {W:World} {spare:Nat→Bool} {held:Bool} {v:Value} {d:DataW H} {ps:List MemPlace} (hv:Value.okWide Tryz.prog W .any base 22 v) (hd:DataW.Trod enc Tryz.prog W 0 spare held 22 v d ps) :
  ∃ l:List Int,(∀ x∈l,kZ x)∧l.length≤9223372036854775807∧Rp (FD W) (λ_=>undef) 0 (uK l) v:=by
 obtain ⟨A,l0,c0,rfl⟩:=okWide_slice Tryz.underlying22 hv;have s0:=Yv (φ:=λ_=>undef) (ks:=[.int .i64]) (n:=1) Tryz.underlying22 (by kernel_rfl) (by kernel_rfl) (by decide) hd;obtain ⟨es,he,hlen,hr0⟩:=s0;obtain ⟨l,hl,ho⟩:=Uq he;have hll:es.length=l.length:=by simpa using congrArg List.length hl
 rw [hl] at hr0;refine ⟨l,ho,?_,hr0⟩;unfold maxLen at hlen;omega
end Go.Proofs.YtdichbeaekjibaaGreatDoor
end
