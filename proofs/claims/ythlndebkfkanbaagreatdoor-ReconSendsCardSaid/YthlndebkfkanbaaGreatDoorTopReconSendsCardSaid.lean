/- ReconSends: operations are sent in the row, as they are, each one's parents ahead of it, or not among them: proved whatever the input; the one package-level variable on the road is tied to the program's text. -/
import Derived.Test.YthlndebkfkanbaaGreatDoorLib34
set_option linter.all false
section
namespace Go.Proofs.YthlndebkfkanbaaGreatDoor
open Go Go.RowKit Go.WideShapes Go.ChangeShapes Go.ChangeAt Hud
def aBI:(Rows.reconSendsRow.inPlace==Tryz.prog.inPlace 6)=true:=by kernel_rfl
def aBJ:(Rows.reconSendsRow.unfollowed==Tryz.prog.unfollowed 6)=true:=by kernel_rfl
def aBK:(Rows.reconSendsRow.recurses==Tryz.prog.recurses 6)=true:=by kernel_rfl
def aBL:(Rows.reconSendsRow.named==Tryz.prog.varsNamed 6)=true:=by kernel_rfl
def aBM:(Rows.reconSendsRow.lifted==Tryz.prog.liftsFinal)=true:=by kernel_rfl
def aBN:(Tryz.prog.make==some Rows.reconSendsRow.make)=true:=by kernel_rfl
def aBO:(Rows.reconSendsRow.plainKeys==Tryz.prog.plainKeys)=true:=by kernel_rfl
def QR:joinedFacts Tryz.prog 6 Tryz.f6 Rows.reconSendsSpec Rows.reconSendsRow=true:=by
 unfold joinedFacts;rw [Tryz.laidOut,aGj,aBI,aBJ,aBK,aBL,aBM,aBN,aBO,aEQ,aJ7];kernel_rfl
set_option maxRecDepth 100000 in
def QS (os:Os) (started:os.Started) (H:Type) (enc:TypeId×Value→H) :
  ReturnsInHanded {} Tryz.checked os 6 .any (λw args=>(Rows.reconSendsSpec.pre enc Tryz.prog Tryz.f6 [] false w args∧laidMetH Tryz.prog Ry w)∧sizedMet enc Tryz.prog Tryz.f6 (OpenSpec.ofChange Rows.reconSendsSpec) false w args)
   (Rows.reconSendsSpec.post enc Tryz.prog Tryz.f6 false true false false):=by
 refine returnsInHanded_of_change_and (C:=Tryz.checked) (X:=λw _=>laidMetH Tryz.prog Ry w) (λ_ _ _ hh h=>h.of_heap hh) Tryz.own started (by kernel_rfl) Tryz.func6
  (ChangeSpec.witness_shaped (enc:=enc) (C:=Tryz.checked) (os:=os) (X:=λw _=>laidMetH Tryz.prog Ry w) false (World.doorLaid Tryz.prog 400 os) #[.slice none 0 0,.slice none 0 0] 8 rfl (Rz os _) (by kernel_rfl) (by kernel_rfl) (by kernel_rfl) (aA9 os _)) ?_
 intro W base args ds gs before hval0 hW _ _ hL _;have hval:∀ (j:Nat) t v,Tryz.f6.params[j]?=some t→args[j]?=some v→Value.okWide Tryz.prog W .any base t v:=hval0;have hW':=hW;obtain ⟨p,q,hA0,hV,rfl,hfz,hnd⟩:=hW;have hA:DataW.TrodAll enc Tryz.prog W 0 (λ_=>true) true Tryz.f6.params.toList args.toList ds p:=hA0;rw [Tryz.params6] at hA hval;obtain ⟨v0,v1,d0,d1,p0,p1,rfl,rfl,rfl,h0,h1⟩:=trodAll_two hA;obtain ⟨rfl,rfl⟩:=trodVars_none hV;obtain ⟨l0,il0,ll0,rl0⟩:=V4 (hval 0 23 v0 rfl rfl) h0;obtain ⟨l1,il1,ll1,rl1⟩:=V4 (hval 1 23 v1 rfl rfl) h1;refine Xj (φ:=λ_=>undef) (avs:=[AM l0,AM l1]) Tryz.laidOut hW' rfl rfl ?_ (by kernel_rfl) Tryz.underlying4 (enters_of Tryz.func6 (by kernel_rfl) rfl _ _) (aCt hL) (aDe Xi aBH l0 l1 ll0 il0 ll1 il1) ?_
 ·rw [Tryz.params6];intro t ht;simp only [gK,pQ,or_false] at ht;rcases ht with rfl | rfl<;>exact ⟨by kernel_rfl,of_decide_eq_true (by kernel_rfl)⟩
 ·simp only [bW];exact ⟨_,_,rfl,rl0,_,_,rfl,rl1,rfl⟩
def Un:Rows.ReconSendsSaid :=
 OpenClaim.holds_of_wide 6 Tryz.f6 rfl rfl rfl rfl rfl rfl rfl ⟨rfl,rfl,rfl,rfl,rfl⟩ rfl rfl rfl rfl rfl (by kernel_rfl) Tryz.func6 QR
  (of_decide_eq_true (by kernel_rfl)) (by unfold Func.isWrapper;first | (rw [if_pos (by decide +kernel)];kernel_rfl) | (rw [if_neg (by decide +kernel)];exact ⟨rfl,rfl⟩))
  (λos started H enc _=>QS os started H enc)
def aBP:false=Rows.reconSendsRow.goesBy Tryz.prog:=by kernel_rfl
theorem sends_holds:Rows.ReconSendsCardSaid :=
  Claim7.holds_tied_plain_at .later [] [.data] true (true, "427766fe125cc6b9d7714f8bc96132ffbb6f2fb923eeede660d1a1ecfcbceb1c") false
    Un (λ_ h=>by cases h) (by kernel_rfl) (λ_ h=>by cases h) reconSends_row_tie rfl ⟨rfl,rfl⟩ aGk rfl
    (λf fn hf hfn=>by
      obtain rfl:f=6:=Option.some.inj ((show Tryz.prog.funcNamed "huddle/huddlelaw30.ReconSends" = some 6 by kernel_rfl).symm.trans hf) |>.symm;obtain rfl:fn=Tryz.f6:=(Option.some.inj (Tryz.func6.symm.trans hfn)).symm
      exact ⟨aER,λj t ht=>by
        rw [Tryz.params6] at ht;have hm:t∈[23,23]:=by simpa using Array.mem_of_getElem? ht
        have ha:∀ u∈([23,23]:List TypeId),u∈([3,22,23,46]:List TypeId):=by decide
        exact aCu (ha t hm)⟩)
    aBP
end Go.Proofs.YthlndebkfkanbaaGreatDoor
end
