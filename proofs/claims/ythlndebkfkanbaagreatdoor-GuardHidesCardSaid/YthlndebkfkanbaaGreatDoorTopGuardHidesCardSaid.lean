/- GuardHides: whatever one share fewer than are needed are, any other secret may have them: there are shares of it of which these are some: proved whatever the input; the one package-level variable on the road is tied to the program's text. -/
import Derived.Test.YthlndebkfkanbaaGreatDoorLib42
set_option linter.all false
section
namespace Go.Proofs.YthlndebkfkanbaaGreatDoor
open Go Go.RowKit Go.WideShapes Go.ChangeShapes Go.ChangeAt Hud
theorem aYx:(Rows.guardHidesRow.inPlace==Tryz.prog.inPlace 3)=true:=by kernel_rfl
theorem aYy:(Rows.guardHidesRow.unfollowed==Tryz.prog.unfollowed 3)=true:=by kernel_rfl
theorem aYz:(Rows.guardHidesRow.recurses==Tryz.prog.recurses 3)=true:=by kernel_rfl
theorem aYA:(Rows.guardHidesRow.named==Tryz.prog.varsNamed 3)=true:=by kernel_rfl
theorem aYB:(Rows.guardHidesRow.lifted==Tryz.prog.liftsFinal)=true:=by kernel_rfl
theorem aYC:(Tryz.prog.make==some Rows.guardHidesRow.make)=true:=by kernel_rfl
theorem aYD:(Rows.guardHidesRow.plainKeys==Tryz.prog.plainKeys)=true:=by kernel_rfl
theorem aP7:joinedFacts Tryz.prog 3 Tryz.f3 Rows.guardHidesSpec Rows.guardHidesRow=true:=by
 unfold joinedFacts
 rw [Tryz.laidOut,aYt,aYx,aYy,aYz,aYA,aYB,aYC,aYD,aSP,bC3]
 kernel_rfl
set_option maxRecDepth 100000 in
theorem aP8 (os:Os) (started:os.Started) (H:Type) (enc:TypeId×Value->H) :
  ReturnsInHanded {} Tryz.checked os 3 .any (fun w args=>(Rows.guardHidesSpec.pre enc Tryz.prog Tryz.f3 [] false w args/\laidMetH Tryz.prog aBT w)/\sizedMet enc Tryz.prog Tryz.f3 (OpenSpec.ofChange Rows.guardHidesSpec) false w args)
   (Rows.guardHidesSpec.post enc Tryz.prog Tryz.f3 false true false false):=by
 refine returnsInHanded_of_change_and (C:=Tryz.checked) (X:=fun w _=>laidMetH Tryz.prog aBT w) (fun _ _ _ hh h=>h.of_heap hh) Tryz.own started (by kernel_rfl) Tryz.func3
  (ChangeSpec.witness_shaped (enc:=enc) (C:=Tryz.checked) (os:=os) (X:=fun w _=>laidMetH Tryz.prog aBT w) false (World.doorLaid Tryz.prog 400 os) #[.int .u64 1,.int .u64 1,.int .i64 1,.int .u64 1,.slice none 0 0] 8 rfl (aBU os _) (by kernel_rfl) (by kernel_rfl) (by kernel_rfl) (aLw os _)) ?_
 intro W base args ds gs before hval0 hW _ _ hL _
 have hval:∀ (j:Nat) t v,Tryz.f3.params[j]?=some t->args[j]?=some v->Value.okWide Tryz.prog W .any base t v:=hval0
 have hW':=hW
 obtain ⟨p,q,hA0,hV,rfl,hfz,hnd⟩:=hW
 have hA:DataW.TrodAll enc Tryz.prog W 0 (fun _=>true) true Tryz.f3.params.toList args.toList ds p:=hA0
 rw [Tryz.params3] at hA hval
 obtain ⟨v0,v1,v2,v3,v4,d0,d1,d2,d3,d4,p0,p1,p2,p3,p4,rfl,rfl,rfl,h0,h1,h2,h3,h4⟩:=aAt hA
 obtain ⟨rfl,rfl⟩:=trodVars_none hV
 obtain ⟨n0,rfl,rfl,rfl,w0⟩:=open_int Tryz.underlying22 (hval 0 22 v0 rfl rfl) h0
 obtain ⟨n1,rfl,rfl,rfl,w1⟩:=open_int Tryz.underlying22 (hval 1 22 v1 rfl rfl) h1
 obtain ⟨n2,rfl,rfl,rfl,w2⟩:=open_int Tryz.underlying3 (hval 2 3 v2 rfl rfl) h2
 obtain ⟨n3,rfl,rfl,rfl,w3⟩:=open_int Tryz.underlying22 (hval 3 22 v3 rfl rfl) h3
 obtain ⟨l4,il4,ll4,rl4⟩:=aP5 (hval 4 23 v4 rfl rfl) h4
 obtain ⟨k0,rfl,b0⟩:=wfU w0
 obtain ⟨k1,rfl,b1⟩:=wfU w1
 obtain ⟨k3,rfl,b3⟩:=wfU w3
 refine aGl (φ:=fun _=>undef) (avs:=[uv k0,uv k1,iv n2,uv k3,nts l4]) Tryz.laidOut hW' rfl rfl ?_ (by kernel_rfl) Tryz.underlying4 (enters_of Tryz.func3 (by kernel_rfl) rfl _ _) (aP4 hL) (bA1 aGk k0 k1 k3 n2 l4 b0 b3 b1 (wfI w2) il4 ll4) ?_
 ·rw [Tryz.params3]
  intro t ht
  simp only [List.mem_cons,List.not_mem_nil,or_false] at ht
  rcases ht with rfl | rfl | rfl | rfl | rfl<;>exact ⟨by kernel_rfl,of_decide_eq_true (by kernel_rfl)⟩
 ·simp only [RpL]
  exact ⟨_,_,rfl,rfl,_,_,rfl,rfl,_,_,rfl,rfl,_,_,rfl,rfl,_,_,rfl,rl4,rfl⟩
theorem aSR:Rows.GuardHidesSaid :=
 OpenClaim.holds_of_wide 3 Tryz.f3 rfl rfl rfl rfl rfl rfl rfl ⟨rfl,rfl,rfl,rfl,rfl⟩ rfl rfl rfl rfl rfl (by kernel_rfl) Tryz.func3 aP7
  (of_decide_eq_true (by kernel_rfl)) (by unfold Func.isWrapper;first | (rw [if_pos (by decide +kernel)];kernel_rfl) | (rw [if_neg (by decide +kernel)];exact ⟨rfl,rfl⟩))
  (fun os started H enc _=>aP8 os started H enc)
theorem aYE:false=Rows.guardHidesRow.goesBy Tryz.prog:=by kernel_rfl
theorem hides_holds:Rows.GuardHidesCardSaid :=
  Claim7.holds_tied_plain_at .later [] [.data] true (true, "427766fe125cc6b9d7714f8bc96132ffbb6f2fb923eeede660d1a1ecfcbceb1c") false
    aSR (fun _ h=>by cases h) (by kernel_rfl) (fun _ h=>by cases h) guardHides_row_tie rfl ⟨rfl,rfl⟩ aYu rfl
    (fun f fn hf hfn=>by
      obtain rfl:f=3:=Option.some.inj ((show Tryz.prog.funcNamed "huddle/huddlelaw24.GuardHides" = some 3 by kernel_rfl).symm.trans hf) |>.symm
      obtain rfl:fn=Tryz.f3:=(Option.some.inj (Tryz.func3.symm.trans hfn)).symm
      exact ⟨aSQ,fun j t ht=>by
        rw [Tryz.params3] at ht
        have hm:t∈[22,22,3,22,23]:=by simpa using Array.mem_of_getElem? ht
        have ha:∀ u∈([22,22,3,22,23]:List TypeId),u∈([3,22,23,46]:List TypeId):=by decide
        exact aP6 (ha t hm)⟩)
    aYE
end Go.Proofs.YthlndebkfkanbaaGreatDoor
end
