import Derived.Test.YthlndebkfkanbaaGreatDoorLib15
import Derived.Test.YthlndebkfkanbaaGreatDoorTie
import Derived.LaidMore
import Derived.OpenShut
import Derived.Stop.Joined
import Derived.FnData
set_option linter.all false
section
namespace Hud
open Go Go.RowKit Go.WideShapes Go.ChangeShapes Go.Deep
def V3 {h:GH}:∀ (l:List Nat) (o:Nat),(∀ i (hi:i<l.length),nZ h 0 (o+i)=some (.int .i64 ((l[i]:Nat):Int)))→lA h 0 (l.map λn:Nat=>iv (n:Int)) o
 | [],_,_=>by simp [lA]
 | x::l,o,hc=>by
  simp only [cN,lA];refine ⟨⟨_,rfl,hc 0 (by simp),by simp [mB]⟩,V3 l (o+1) λi hi=>?_⟩;have:=hc (i+1) (by simp;omega);rw [show o+1+i=o+(i+1) by omega];simpa using this
def Pd:Nat→Option (List AV):=λg=>if g=0 then some (pU.map λn:Nat=>iv (n:Int)) else none
def Xi:GK Pd:=by unfold GK Pd;rfl
section
variable {H:Type} {enc:TypeId×Value→H} {P:Program} {w:World} {base:Nat} {spare:Nat→Bool} {held:Bool}
end
section
variable {H:Type} {enc:TypeId×Value→H} {P:Program} {W:World} {base:Nat} {spare:Nat→Bool} {held:Bool} {h:GH} {φ:Nat→Value}
def Xj {f:FuncId} {fn:Func} {s:ChangeSpec} {apart fresh handsOn:Bool} {args:Array Value} {avs:List AV} {ds gs:List (DataW H)} {before:List MemPlace} {tb:TypeId}
  (hl:laidOutB P=true) (hW:DataW.Whole enc P fn.params.toList s.vars apart W args.toList ds gs before) (hv:s.vars=[]) (hsp:s.fn H ds={ results:=[.lit (.bool true)],args:=ds })
  (hread:∀ t∈fn.params.toList,P.readableRec t=true∧t<P.types.size) (hr:fn.resultTypes=#[tb]) (hb:P.underlying tb=some .bool)
  (ent:(callFunc f args).run P W=.ok (.enter f args) W) {G:Nat→Option (List AV)} (hG:rD G (JS W)) (hc:aC P G f avs [] λr T=>r=.v (.bool true)∧T=[]) (ha:bW (JS W) φ 0 avs args.toList) :
  Calls P f args W λe W'=>∃ v,e=.returned v∧s.post enc P fn apart fresh handsOn false W args v W':=by
 rcases hc (JS W) φ W args hG (aA7 W φ) ha with ⟨_,hc⟩ | ⟨v,w',hc,_⟩
 ·refine hc.mono ?_;rintro e W' ⟨v,rfl,r,T',h',φ',⟨rfl,rfl⟩,hE,_,hrv⟩;simp only [Rp] at hrv;subst hrv;refine ⟨_,rfl,?_⟩;have hbe:=Xh hE;have hW0:=hW;obtain ⟨p,q,hA,hV,rfl,hz,hn⟩:=hW;rw [hv] at hV;obtain ⟨rfl,rfl⟩:=trodVars_none hV;rw [kT] at hz hn;have hlt:∀ x∈p,x.block<W.heap.size:=λx hx=>hW0.lt x (by simp [hx]);have hres:∀ (b:Nat) (sp:Nat→Bool) (hd:Bool),DataW.TrodAll enc P W' b sp hd fn.resultTypes.toList ((Value.bool true).resultList fn.resultTypes.size) [.lit (.bool true)] []:=by
   intro b sp hd;rw [hr];exact trodAll_mk1 (shut_bool hb true)
  have hfn:s.fn H (ds++[])={ results:=[.lit (.bool true)],args:=ds }:=by rw [kT];exact hsp
  refine ⟨ds,[],p++[],[],p,[],hW0,?_,?_,?_,?_,λ_=>?_⟩
  ·rw [hfn];exact hres _ _ _
  ·rw [hfn];exact N9 hl hbe hread hA hlt λx hx=>by simpa using hlt x hx
  ·rw [hfn];simpa [hv,DataW.TrodVars] using hV
  ·exact World.keptBut_mono (λx hx=>hx.elim) (hbe.frame λ_=>False)
  ·rename_i hh;simp at hh
 ·rw [ent] at hc;simp at hc
end
end Hud
namespace Go.Proofs.YthlndebkfkanbaaGreatDoor
open Go Go.RowKit Go.WideShapes Go.ChangeShapes Go.ChangeAt Hud
def Tryz.own:ownKnob Tryz.prog.godebug=none:=by kernel_rfl
def Tryz.laidOut:laidOutB Tryz.prog=true:=by kernel_rfl
def aJ5:Tryz.prog.globalNamed "huddle/op.kinds" = some 0:=by kernel_rfl
def aJ6:(Tryz.prog.globals[0]?).map (·.type)=some 254:=by kernel_rfl
abbrev Ry:List (String×DataW Unit):=[("huddle/op.kinds",Rows.laid_huddle_op_kinds)]
set_option maxRecDepth 100000 in
def aCt {W:World} (h:laidMetH Tryz.prog Ry W):rD Pd (JS W):=by
 rw [MakeChecks.laidMetH_plain _ _ _ (by kernel_rfl)] at h;obtain ⟨ps,⟨g0,t0,cs0,f0,p0,q0,hg0,ht0,hv0,hd0,_⟩,_⟩:=h;obtain rfl:=Option.some.inj (aJ5.symm.trans hg0);obtain rfl:=Option.some.inj (aJ6.symm.trans ht0);obtain ⟨xs,m1,rfl,hx1,hlen,hn,hel⟩:=DataW.trod_array Tryz.underlying254 hd0;have c3:Tryz.prog.cellsOf 3=1:=by kernel_rfl
 simp only [Prod.mk.injEq] at hx1;have hL:xs.map (·.1)=[.lit (.int .i64 0),.lit (.int .i64 2064),.lit (.int .i64 32793),.lit (.int .i64 21),.lit (.int .i64 16),.lit (.int .i64 12),.lit (.int .i64 480),.lit (.int .i64 640),.lit (.int .i64 512),.lit (.int .i64 31744),.lit (.int .i64 8704),.lit (.int .i64 8705),.lit (.int .i64 512),.lit (.int .i64 33299)]:=by
  have:=hx1.1;unfold Rows.laid_huddle_op_kinds at this;injection this with this;exact this.symm
 have hcell:∀ i (hi:i<pU.length),cs0.toList[i]?=some (.int .i64 ((pU[i]:Nat):Int)):=by
  intro i hi;have hi14:i<14:=hi;have h1:=hel i hi14;rw [c3,CL] at h1;have hix:i<xs.length:=by omega
  rw [fV hix] at h1;obtain ⟨k,e1,e2,_⟩:=DataW.trod_int Tryz.underlying3 h1;have hk:some xs[i].1=some (.lit (.int .i64 ((pU[i]:Nat):Int))):=by
   have:=congrArg (·[i]?) hL;simp only [eD,fV hix,kZ] at this;rw [this];have:i=0∨i=1∨i=2∨i=3∨i=4∨i=5∨i=6∨i=7∨i=8∨i=9∨i=10∨i=11∨i=12∨i=13:=by omega
   rcases this with rfl | rfl | rfl | rfl | rfl | rfl | rfl | rfl | rfl | rfl | rfl | rfl | rfl | rfl<;>rfl
  rw [e2] at hk;simp only [Option.some.injEq,DataW.lit.injEq,Lit.int.injEq,true_and] at hk;have h0:(cs0.toList.drop i)[0]?=some (.int .i64 k):=by
   have:=congrArg (·[0]?) e1;simpa using this
  rw [FN,yN] at h0;subst hk;exact h0
 have hc:∀ i (hi:i<pU.length),nZ (JS W) 0 (0+i)=some (.int .i64 ((pU[i]:Nat):Int)):=by
  intro i hi;have h1:=hcell i hi;simp only [World.var?,hg0,KQ] at hv0;unfold nZ JS;split at hv0
  ·rename_i c t f hb;injection hv0 with hv0;subst hv0;rw [hb];simp only [KQ,rW];simpa using h1
  ·simp at hv0
 intro g cs e;unfold Pd at e;split at e
 ·rename_i hg;subst hg;injection e with e;subst e;exact V3 pU 0 hc
 ·simp at e
def aA9 (os:Os) (args:Array Value):laidMetH Tryz.prog Ry ((World.doorLaid Tryz.prog 400 os).forCall (λ_ _=>0) ⟨#[],args,[]⟩).memory :=
 laidMetH_of_parts3 (fuel:=8) (laidMet_of_run' 8 (by kernel_rfl) (by kernel_rfl)) (by kernel_rfl) (by kernel_rfl)
set_option maxRecDepth 100000 in
def V4 {base:Nat} {H:Type} {enc:TypeId×Value→H} {W:World} {spare:Nat→Bool} {held:Bool} {v:Value} {d:DataW H} {ps:List MemPlace} (hv:Value.okWide Tryz.prog W .any base 23 v) (hd:DataW.Trod enc Tryz.prog W 0 spare held 23 v d ps) :
  ∃ l:List Int,(∀ x∈l,tK x)∧l.length≤9223372036854775807∧Rp (JS W) (λ_=>undef) 0 (AM l) v:=by
 obtain ⟨A,l0,c0,rfl⟩:=okWide_slice Tryz.underlying23 hv;have s0:=aA8 (φ:=λ_=>undef) (ks:=[.int .i64]) (n:=1) Tryz.underlying23 (by kernel_rfl) (by kernel_rfl) (by decide) hd;obtain ⟨es,he,hlen,hr0⟩:=s0;obtain ⟨l,hl,ho⟩:=V2 he;have hll:es.length=l.length:=by simpa using congrArg List.length hl
 rw [hl] at hr0;refine ⟨l,ho,?_,hr0⟩;unfold maxLen at hlen;omega
end Go.Proofs.YthlndebkfkanbaaGreatDoor
end
