import Derived.Test.YthlndebkfkanbaaGreatDoorLib38
import Derived.Test.YthlndebkfkanbaaGreatDoorTie
import Derived.LaidMore
import Derived.OpenShut
import Derived.Stop.Joined
import Derived.FnData
set_option linter.all false
section
namespace Hud
open Go Go.RowKit Go.WideShapes Go.ChangeShapes Go.Deep
theorem aUb {h:GH}:∀ (l:List Nat) (o:Nat),(∀ i (hi:i<l.length),mH h 0 (o+i)=some (.int .i64 ((l[i]:Nat):Int)))->iU h 0 (l.map fun n:Nat=>iv (n:Int)) o
 | [],_,_=>by simp [iU]
 | x::l,o,hc=>by
  simp only [List.map_cons,iU]
  refine ⟨⟨_,rfl,hc 0 (by simp),by simp [RpD]⟩,aUb l (o+1) fun i hi=>?_⟩
  have:=hc (i+1) (by simp;omega)
  rw [show o+1+i=o+(i+1) by omega]
  simpa using this
def aP3:Nat->Option (List AV):=fun g=>if g=0 then some (mS.map fun n:Nat=>iv (n:Int)) else none
theorem aGk:GK aP3:=by unfold GK aP3;rfl
theorem wfU {n:Int} (hw:(Lit.int .u64 n).wf=true):∃ k:Nat,n=k/\k<18446744073709551616:=by
 have:=bC2 hw
 exact ⟨n.toNat,by omega,by omega⟩
theorem wfI {n:Int} (hw:(Lit.int .i64 n).wf=true):okN n:=aYs hw
theorem aUc:∀ {es:List (List Value)},(∀ x∈es,eM [.int .u64] x)->∃ l:List Nat,es.map (fun x=>x.map AV.v)=ul l/\∀ n∈l,n<18446744073709551616
 | [],_=>⟨[],rfl,by simp⟩
 | e::es,he=>by
  obtain ⟨l,h1,h2⟩:=aUc (es:=es) fun x hx=>he x (by simp [hx])
  have:=he e (by simp)
  simp only [eM,aBS] at this
  obtain ⟨v,r,rfl,⟨n,rfl,hw⟩,rfl⟩:=this
  obtain ⟨k,rfl,hk⟩:=wfU hw
  refine ⟨k::l,by simp [h1,ul],?_⟩
  intro m hm
  rcases List.mem_cons.1 hm with rfl | hm
  ·exact hk
  ·exact h2 m hm
section
variable {H:Type} {enc:TypeId×Value->H} {P:Program} {w:World} {base:Nat} {spare:Nat->Bool} {held:Bool}
theorem aAt {t0 t1 t2 t3 t4:TypeId} {args:Array Value} {ds:List (DataW H)} {ps:List MemPlace} (h:DataW.TrodAll enc P w base spare held [t0,t1,t2,t3,t4] args.toList ds ps) :
  ∃ v0 v1 v2 v3 v4 d0 d1 d2 d3 d4 p0 p1 p2 p3 p4,args=#[v0,v1,v2,v3,v4]/\ds=[d0,d1,d2,d3,d4]/\ps=p0++p1++p2++p3++p4/\DataW.Trod enc P w base spare held t0 v0 d0 p0/\DataW.Trod enc P w base spare held t1 v1 d1 p1/\DataW.Trod enc P w base spare held t2 v2 d2 p2/\DataW.Trod enc P w base spare held t3 v3 d3 p3/\DataW.Trod enc P w base spare held t4 v4 d4 p4:=by
 obtain ⟨v,vs,d,ds',p,q,hargs,rfl,rfl,hd,hrest⟩:=trodAll_cons h
 obtain ⟨v',vs',d',ds'',p',q',rfl,rfl,rfl,hd',hrest'⟩:=trodAll_cons hrest
 obtain ⟨v'',vs'',d'',ds''',p'',q'',rfl,rfl,rfl,hd'',hrest''⟩:=trodAll_cons hrest'
 obtain ⟨v3,vs3,d3,ds3,p3,q3,rfl,rfl,rfl,hd3,hrest3⟩:=trodAll_cons hrest''
 obtain ⟨v4,vs4,d4,ds4,p4,q4,rfl,rfl,rfl,hd4,hrest4⟩:=trodAll_cons hrest3
 obtain ⟨rfl,rfl,rfl⟩:=trodAll_nil hrest4
 refine ⟨v,v',v'',v3,v4,d,d',d'',d3,d4,p,p',p'',p3,p4,Array.ext' hargs,rfl,by simp,hd,hd',hd'',hd3,hd4⟩
end
section
variable {H:Type} {enc:TypeId×Value->H} {P:Program} {W:World} {base:Nat} {spare:Nat->Bool} {held:Bool} {h:GH} {φ:Nat->Value}
theorem aGl {f:FuncId} {fn:Func} {s:ChangeSpec} {apart fresh handsOn:Bool} {args:Array Value} {avs:List AV} {ds gs:List (DataW H)} {before:List MemPlace} {tb:TypeId}
  (hl:laidOutB P=true) (hW:DataW.Whole enc P fn.params.toList s.vars apart W args.toList ds gs before) (hv:s.vars=[]) (hsp:s.fn H ds={ results:=[.lit (.bool true)],args:=ds })
  (hread:∀ t∈fn.params.toList,P.readableRec t=true/\t<P.types.size) (hr:fn.resultTypes=#[tb]) (hb:P.underlying tb=some .bool)
  (ent:(callFunc f args).run P W=.ok (.enter f args) W) {G:Nat->Option (List AV)} (hG:GOk G (aGj W)) (hc:aD P G f avs [] fun r T=>r=.v (.bool true)/\T=[]) (ha:RpL (aGj W) φ 0 avs args.toList) :
  Calls P f args W fun e W'=>∃ v,e=.returned v/\s.post enc P fn apart fresh handsOn false W args v W':=by
 rcases hc (aGj W) φ W args hG (aYr W φ) ha with ⟨_,hc⟩ | ⟨v,w',hc,_⟩
 ·refine hc.mono ?_
  rintro e W' ⟨v,rfl,r,T',h',φ',⟨rfl,rfl⟩,hE,_,hrv⟩
  simp only [Rp] at hrv
  subst hrv
  refine ⟨_,rfl,?_⟩
  have hbe:=aVP hE
  have hW0:=hW
  obtain ⟨p,q,hA,hV,rfl,hz,hn⟩:=hW
  rw [hv] at hV
  obtain ⟨rfl,rfl⟩:=trodVars_none hV
  rw [List.append_nil] at hz hn
  have hlt:∀ x∈p,x.block<W.heap.size:=fun x hx=>hW0.lt x (by simp [hx])
  have hres:∀ (b:Nat) (sp:Nat->Bool) (hd:Bool),DataW.TrodAll enc P W' b sp hd fn.resultTypes.toList ((Value.bool true).resultList fn.resultTypes.size) [.lit (.bool true)] []:=by
   intro b sp hd
   rw [hr]
   exact trodAll_mk1 (shut_bool hb true)
  have hfn:s.fn H (ds++[])={ results:=[.lit (.bool true)],args:=ds }:=by rw [List.append_nil];exact hsp
  refine ⟨ds,[],p++[],[],p,[],hW0,?_,?_,?_,?_,fun _=>?_⟩
  ·rw [hfn];exact hres _ _ _
  ·rw [hfn];exact aNN hl hbe hread hA hlt fun x hx=>by simpa using hlt x hx
  ·rw [hfn];simpa [hv,DataW.TrodVars] using hV
  ·exact World.keptBut_mono (fun x hx=>hx.elim) (hbe.frame fun _=>False)
  ·rename_i hh;simp at hh
 ·rw [ent] at hc;simp at hc
end
end Hud
namespace Go.Proofs.YthlndebkfkanbaaGreatDoor
open Go Go.RowKit Go.WideShapes Go.ChangeShapes Go.ChangeAt Hud
theorem Tryz.own:ownKnob Tryz.prog.godebug=none:=by kernel_rfl
theorem Tryz.laidOut:laidOutB Tryz.prog=true:=by kernel_rfl
theorem bFU:Tryz.prog.globalNamed "huddle/op.kinds" = some 0:=by kernel_rfl
theorem bFV:(Tryz.prog.globals[0]?).map (·.type)=some 254:=by kernel_rfl
abbrev aBT:List (String×DataW Unit):=[("huddle/op.kinds",Rows.laid_huddle_op_kinds)]
set_option maxRecDepth 100000 in
theorem aP4 {W:World} (h:laidMetH Tryz.prog aBT W):GOk aP3 (aGj W):=by
 rw [MakeChecks.laidMetH_plain _ _ _ (by kernel_rfl)] at h
 obtain ⟨ps,⟨g0,t0,cs0,f0,p0,q0,hg0,ht0,hv0,hd0,_⟩,_⟩:=h
 obtain rfl:=Option.some.inj (bFU.symm.trans hg0)
 obtain rfl:=Option.some.inj (bFV.symm.trans ht0)
 obtain ⟨xs,m1,rfl,hx1,hlen,hn,hel⟩:=DataW.trod_array Tryz.underlying254 hd0
 have c3:Tryz.prog.cellsOf 3=1:=by kernel_rfl
 simp only [Prod.mk.injEq] at hx1
 have hL:xs.map (·.1)=[.lit (.int .i64 0),.lit (.int .i64 2064),.lit (.int .i64 32793),.lit (.int .i64 21),.lit (.int .i64 16),.lit (.int .i64 12),.lit (.int .i64 480),.lit (.int .i64 640),.lit (.int .i64 512),.lit (.int .i64 31744),.lit (.int .i64 8704),.lit (.int .i64 8705),.lit (.int .i64 512),.lit (.int .i64 33299)]:=by
  have:=hx1.1
  unfold Rows.laid_huddle_op_kinds at this
  injection this with this
  exact this.symm
 have hcell:∀ i (hi:i<mS.length),cs0.toList[i]?=some (.int .i64 ((mS[i]:Nat):Int)):=by
  intro i hi
  have hi14:i<14:=hi
  have h1:=hel i hi14
  rw [c3,Nat.mul_one] at h1
  have hix:i<xs.length:=by omega
  rw [List.getElem?_eq_getElem hix] at h1
  obtain ⟨k,e1,e2,_⟩:=DataW.trod_int Tryz.underlying3 h1
  have hk:some xs[i].1=some (.lit (.int .i64 ((mS[i]:Nat):Int))):=by
   have:=congrArg (·[i]?) hL
   simp only [List.getElem?_map,List.getElem?_eq_getElem hix,Option.map_some] at this
   rw [this]
   have:i=0\/i=1\/i=2\/i=3\/i=4\/i=5\/i=6\/i=7\/i=8\/i=9\/i=10\/i=11\/i=12\/i=13:=by omega
   rcases this with rfl | rfl | rfl | rfl | rfl | rfl | rfl | rfl | rfl | rfl | rfl | rfl | rfl | rfl<;>rfl
  rw [e2] at hk
  simp only [Option.some.injEq,DataW.lit.injEq,Lit.int.injEq,true_and] at hk
  have h0:(cs0.toList.drop i)[0]?=some (.int .i64 k):=by
   have:=congrArg (·[0]?) e1
   simpa using this
  rw [List.getElem?_drop,Nat.add_zero] at h0
  subst hk
  exact h0
 have hc:∀ i (hi:i<mS.length),mH (aGj W) 0 (0+i)=some (.int .i64 ((mS[i]:Nat):Int)):=by
  intro i hi
  have h1:=hcell i hi
  simp only [World.var?,hg0,Option.bind_some] at hv0
  unfold mH aGj
  split at hv0
  ·rename_i c t f hb
   injection hv0 with hv0
   subst hv0
   rw [hb]
   simp only [Option.bind_some,Nat.zero_add]
   simpa using h1
  ·simp at hv0
 intro g cs e
 unfold aP3 at e
 split at e
 ·rename_i hg
  subst hg
  injection e with e
  subst e
  exact aUb mS 0 hc
 ·simp at e
theorem aLw (os:Os) (args:Array Value):laidMetH Tryz.prog aBT ((World.doorLaid Tryz.prog 400 os).forCall (fun _ _=>0) ⟨#[],args,[]⟩).memory :=
 laidMetH_of_parts3 (fuel:=8) (laidMet_of_run' 8 (by kernel_rfl) (by kernel_rfl)) (by kernel_rfl) (by kernel_rfl)
set_option maxRecDepth 100000 in
theorem aP5 {base:Nat} {H:Type} {enc:TypeId×Value->H} {W:World} {spare:Nat->Bool} {held:Bool} {v:Value} {d:DataW H} {ps:List MemPlace} (hv:Value.okWide Tryz.prog W .any base 23 v) (hd:DataW.Trod enc Tryz.prog W 0 spare held 23 v d ps) :
  ∃ l:List Int,(∀ x∈l,okN x)/\l.length<=9223372036854775807/\Rp (aGj W) (fun _=>undef) 0 (nts l) v:=by
 obtain ⟨A,l0,c0,rfl⟩:=okWide_slice Tryz.underlying23 hv
 have s0:=aR8 (φ:=fun _=>undef) (ks:=[.int .i64]) (n:=1) Tryz.underlying23 (by kernel_rfl) (by kernel_rfl) (by decide) hd
 obtain ⟨es,he,hlen,hr0⟩:=s0
 obtain ⟨l,hl,ho⟩:=aUa he
 have hll:es.length=l.length:=by simpa using congrArg List.length hl
 rw [hl] at hr0
 refine ⟨l,ho,?_,hr0⟩
 unfold maxLen at hlen
 omega
set_option maxRecDepth 100000 in
theorem aZZ {base:Nat} {H:Type} {enc:TypeId×Value->H} {W:World} {spare:Nat->Bool} {held:Bool} {v:Value} {d:DataW H} {ps:List MemPlace} (hv:Value.okWide Tryz.prog W .any base 46 v) (hd:DataW.Trod enc Tryz.prog W 0 spare held 46 v d ps) :
  ∃ l:List Nat,(∀ x∈l,x<18446744073709551616)/\l.length<=9223372036854775807/\Rp (aGj W) (fun _=>undef) 0 (.ls 1 (ul l)) v:=by
 obtain ⟨A,l0,c0,rfl⟩:=okWide_slice Tryz.underlying46 hv
 have s0:=aR8 (φ:=fun _=>undef) (ks:=[.int .u64]) (n:=1) Tryz.underlying46 (by kernel_rfl) (by kernel_rfl) (by decide) hd
 obtain ⟨es,he,hlen,hr0⟩:=s0
 obtain ⟨l,hl,ho⟩:=aUc he
 have hll:es.length=l.length:=by simpa [ul] using congrArg List.length hl
 rw [hl] at hr0
 refine ⟨l,ho,?_,hr0⟩
 unfold maxLen at hlen
 omega
end Go.Proofs.YthlndebkfkanbaaGreatDoor
end
