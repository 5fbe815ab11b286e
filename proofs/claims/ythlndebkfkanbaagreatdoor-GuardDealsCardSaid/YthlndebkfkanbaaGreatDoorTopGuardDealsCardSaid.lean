/- GuardDeals: how a secret's shares are boxed, or why not, and how many numbers are drawn, is the document's, and of what is added: proved whatever the input; the one package-level variable on the road is tied to the program's text. -/
import Derived.Test.YthlndebkfkanbaaGreatDoorLib42
set_option linter.all false
section
namespace Go.Proofs.YthlndebkfkanbaaGreatDoor
open Go Go.RowKit Go.WideShapes Go.ChangeShapes Go.ChangeAt Hud
theorem aYF:(Rows.guardDealsRow.inPlace==Tryz.prog.inPlace 4)=true:=by kernel_rfl
theorem aYG:(Rows.guardDealsRow.unfollowed==Tryz.prog.unfollowed 4)=true:=by kernel_rfl
theorem aYH:(Rows.guardDealsRow.recurses==Tryz.prog.recurses 4)=true:=by kernel_rfl
theorem aYI:(Rows.guardDealsRow.named==Tryz.prog.varsNamed 4)=true:=by kernel_rfl
theorem aYJ:(Rows.guardDealsRow.lifted==Tryz.prog.liftsFinal)=true:=by kernel_rfl
theorem aYK:(Tryz.prog.make==some Rows.guardDealsRow.make)=true:=by kernel_rfl
theorem aYL:(Rows.guardDealsRow.plainKeys==Tryz.prog.plainKeys)=true:=by kernel_rfl
theorem aP9:joinedFacts Tryz.prog 4 Tryz.f4 Rows.guardDealsSpec Rows.guardDealsRow=true:=by
 unfold joinedFacts
 rw [Tryz.laidOut,aYt,aYF,aYG,aYH,aYI,aYJ,aYK,aYL,aSP,bC3]
 kernel_rfl
set_option maxRecDepth 100000 in
theorem aPa (os:Os) (started:os.Started) (H:Type) (enc:TypeId×Value->H) :
  ReturnsInHanded {} Tryz.checked os 4 .any (fun w args=>(Rows.guardDealsSpec.pre enc Tryz.prog Tryz.f4 [] false w args/\laidMetH Tryz.prog aBT w)/\sizedMet enc Tryz.prog Tryz.f4 (OpenSpec.ofChange Rows.guardDealsSpec) false w args)
   (Rows.guardDealsSpec.post enc Tryz.prog Tryz.f4 false true false false):=by
 refine returnsInHanded_of_change_and (C:=Tryz.checked) (X:=fun w _=>laidMetH Tryz.prog aBT w) (fun _ _ _ hh h=>h.of_heap hh) Tryz.own started (by kernel_rfl) Tryz.func4
  (ChangeSpec.witness_shaped (enc:=enc) (C:=Tryz.checked) (os:=os) (X:=fun w _=>laidMetH Tryz.prog aBT w) false (World.doorLaid Tryz.prog 400 os) #[.slice none 0 0,.int .i64 1,.int .u64 1,.int .u64 1,.slice none 0 0] 8 rfl (aBU os _) (by kernel_rfl) (by kernel_rfl) (by kernel_rfl) (aLw os _)) ?_
 intro W base args ds gs before hval0 hW _ _ hL _
 have hval:∀ (j:Nat) t v,Tryz.f4.params[j]?=some t->args[j]?=some v->Value.okWide Tryz.prog W .any base t v:=hval0
 have hW':=hW
 obtain ⟨p,q,hA0,hV,rfl,hfz,hnd⟩:=hW
 have hA:DataW.TrodAll enc Tryz.prog W 0 (fun _=>true) true Tryz.f4.params.toList args.toList ds p:=hA0
 rw [Tryz.params4] at hA hval
 obtain ⟨v0,v1,v2,v3,v4,d0,d1,d2,d3,d4,p0,p1,p2,p3,p4,rfl,rfl,rfl,h0,h1,h2,h3,h4⟩:=aAt hA
 obtain ⟨rfl,rfl⟩:=trodVars_none hV
 obtain ⟨l0,il0,ll0,rl0⟩:=aP5 (hval 0 23 v0 rfl rfl) h0
 obtain ⟨n1,rfl,rfl,rfl,w1⟩:=open_int Tryz.underlying3 (hval 1 3 v1 rfl rfl) h1
 obtain ⟨n2,rfl,rfl,rfl,w2⟩:=open_int Tryz.underlying22 (hval 2 22 v2 rfl rfl) h2
 obtain ⟨n3,rfl,rfl,rfl,w3⟩:=open_int Tryz.underlying22 (hval 3 22 v3 rfl rfl) h3
 obtain ⟨l4,il4,ll4,rl4⟩:=aZZ (hval 4 46 v4 rfl rfl) h4
 obtain ⟨k2,rfl,b2⟩:=wfU w2
 obtain ⟨k3,rfl,b3⟩:=wfU w3
 refine aGl (φ:=fun _=>undef) (avs:=[nts l0,iv n1,uv k2,uv k3,.ls 1 (ul l4)]) Tryz.laidOut hW' rfl rfl ?_ (by kernel_rfl) Tryz.underlying4 (enters_of Tryz.func4 (by kernel_rfl) rfl _ _) (aP4 hL) (bA2 aGk l0 n1 k2 k3 l4 ll0 il0 b2 b3 (wfI w1) il4 ll4) ?_
 ·rw [Tryz.params4]
  intro t ht
  simp only [List.mem_cons,List.not_mem_nil,or_false] at ht
  rcases ht with rfl | rfl | rfl | rfl | rfl<;>exact ⟨by kernel_rfl,of_decide_eq_true (by kernel_rfl)⟩
 ·simp only [RpL]
  exact ⟨_,_,rfl,rl0,_,_,rfl,rfl,_,_,rfl,rfl,_,_,rfl,rfl,_,_,rfl,rl4,rfl⟩
theorem aSS:Rows.GuardDealsSaid :=
 OpenClaim.holds_of_wide 4 Tryz.f4 rfl rfl rfl rfl rfl rfl rfl ⟨rfl,rfl,rfl,rfl,rfl⟩ rfl rfl rfl rfl rfl (by kernel_rfl) Tryz.func4 aP9
  (of_decide_eq_true (by kernel_rfl)) (by unfold Func.isWrapper;first | (rw [if_pos (by decide +kernel)];kernel_rfl) | (rw [if_neg (by decide +kernel)];exact ⟨rfl,rfl⟩))
  (fun os started H enc _=>aPa os started H enc)
theorem aYM:false=Rows.guardDealsRow.goesBy Tryz.prog:=by kernel_rfl
theorem deals_holds:Rows.GuardDealsCardSaid :=
  Claim7.holds_tied_plain_at .later [] [.data] true (true, "427766fe125cc6b9d7714f8bc96132ffbb6f2fb923eeede660d1a1ecfcbceb1c") false
    aSS (fun _ h=>by cases h) (by kernel_rfl) (fun _ h=>by cases h) guardDeals_row_tie rfl ⟨rfl,rfl⟩ aYu rfl
    (fun f fn hf hfn=>by
      obtain rfl:f=4:=Option.some.inj ((show Tryz.prog.funcNamed "huddle/huddlelaw24.GuardDeals" = some 4 by kernel_rfl).symm.trans hf) |>.symm
      obtain rfl:fn=Tryz.f4:=(Option.some.inj (Tryz.func4.symm.trans hfn)).symm
      exact ⟨aSQ,fun j t ht=>by
        rw [Tryz.params4] at ht
        have hm:t∈[23,3,22,22,46]:=by simpa using Array.mem_of_getElem? ht
        have ha:∀ u∈([23,3,22,22,46]:List TypeId),u∈([3,22,23,46]:List TypeId):=by decide
        exact aP6 (ha t hm)⟩)
    aYM
end Go.Proofs.YthlndebkfkanbaaGreatDoor
end
