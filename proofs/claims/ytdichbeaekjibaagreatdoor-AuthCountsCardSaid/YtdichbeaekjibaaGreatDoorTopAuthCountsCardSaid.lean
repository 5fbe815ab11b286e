/- AuthCounts: what counts, and in which row, is the document's: proved whatever the input; the two package-level variables on the road are tied to the program's text. -/
import Derived.Test.YtdichbeaekjibaaGreatDoorLib33
set_option linter.all false
namespace Go.Proofs.YtdichbeaekjibaaGreatDoor
open Go Go.RowKit Go.WideShapes Go.ChangeShapes Go.ChangeAt Hud
def Vn (os:Os) (args:Array Value):((World.doorLaid Tryz.prog 400 os).forCall (λ_ _=>0) ⟨#[],args,[]⟩).Shaped Tryz.prog:=World.shaped_of_RefB (by kernel_rfl) (by kernel_rfl)
def aKS:mapsRowed Tryz.prog=true:=by kernel_rfl
def aIT:Tryz.prog.stopsHeard=true:=by kernel_rfl
def aO4:Tryz.prog.mayEnter=true:=by kernel_rfl
def aKT:Tryz.prog.mainIs=some (true, "e278b99b6cbde8b1fc06b4767408f574c9e29fc80c523951a4f1542dace31e79".toList):=by kernel_rfl
def aIU:false=Tryz.prog.looks []:=by kernel_rfl
def aIV:([22].all λu=>!Tryz.prog.wantsStandIn u)=true:=by kernel_rfl
def aGs {t:TypeId} (h:t∈[22]):Tryz.prog.wantsStandIn t=false:=by simpa using oD.1 aIV t h
def aPx:(Rows.authCountsRow.inPlace==Tryz.prog.inPlace 4)=true:=by kernel_rfl
def aPy:(Rows.authCountsRow.unfollowed==Tryz.prog.unfollowed 4)=true:=by kernel_rfl
def aPz:(Rows.authCountsRow.recurses==Tryz.prog.recurses 4)=true:=by kernel_rfl
def aPA:(Rows.authCountsRow.named==Tryz.prog.varsNamed 4)=true:=by kernel_rfl
def aPB:(Rows.authCountsRow.lifted==Tryz.prog.liftsFinal)=true:=by kernel_rfl
def aPC:(Tryz.prog.make==some Rows.authCountsRow.make)=true:=by kernel_rfl
def aPD:(Rows.authCountsRow.plainKeys==Tryz.prog.plainKeys)=true:=by kernel_rfl
def aNS:joinedFacts Tryz.prog 4 Tryz.f4 Rows.authCountsSpec Rows.authCountsRow=true:=by
 unfold joinedFacts;rw [Tryz.laidOut,aKS,aPx,aPy,aPz,aPA,aPB,aPC,aPD,aIT,aO4];kernel_rfl
set_option maxRecDepth 100000 in
def aNT (os:Os) (started:os.Started) (H:Type) (enc:TypeId×Value→H) :
  ReturnsInHanded {} Tryz.checked os 4 .any (λw args=>(Rows.authCountsSpec.pre enc Tryz.prog Tryz.f4 [] false w args∧laidMetH Tryz.prog G4 w)∧sizedMet enc Tryz.prog Tryz.f4 (OpenSpec.ofChange Rows.authCountsSpec) false w args)
   (Rows.authCountsSpec.post enc Tryz.prog Tryz.f4 false true false false):=by
 refine returnsInHanded_of_change_and (C:=Tryz.checked) (X:=λw _=>laidMetH Tryz.prog G4 w) (λ_ _ _ hh h=>h.of_heap hh) Tryz.own started (by kernel_rfl) Tryz.func4
  (ChangeSpec.witness_shaped (enc:=enc) (C:=Tryz.checked) (os:=os) (X:=λw _=>laidMetH Tryz.prog G4 w) false (World.doorLaid Tryz.prog 400 os) #[.slice none 0 0,.slice none 0 0] 8 rfl (Vn os _) (by kernel_rfl) (by kernel_rfl) (by kernel_rfl) (aEE os _)) ?_
 intro W base args ds gs before hval0 hW _ _ hL _;have hval:∀ (j:Nat) t v,Tryz.f4.params[j]?=some t→args[j]?=some v→Value.okWide Tryz.prog W .any base t v:=hval0;have hW':=hW;obtain ⟨p,q,hA0,hV,rfl,hfz,hnd⟩:=hW;have hA:DataW.TrodAll enc Tryz.prog W 0 (λ_=>true) true Tryz.f4.params.toList args.toList ds p:=hA0;rw [Tryz.params4] at hA hval;obtain ⟨v0,v1,d0,d1,p0,p1,rfl,rfl,rfl,h0,h1⟩:=trodAll_two hA;obtain ⟨rfl,rfl⟩:=trodVars_none hV;obtain ⟨l0,il0,ll0,rl0⟩:=Zc (hval 0 22 v0 rfl rfl) h0;obtain ⟨l1,il1,ll1,rl1⟩:=Zc (hval 1 22 v1 rfl rfl) h1;refine aBm (φ:=λ_=>undef) (avs:=[rG l0,rG l1]) Tryz.laidOut hW' rfl rfl ?_ (by kernel_rfl) Tryz.underlying4 (enters_of Tryz.func4 (by kernel_rfl) rfl _ _) (aGk hL) (aOv aMj aIJ aKK l0 l1 ll0 il0 ll1 il1) ?_
 ·rw [Tryz.params4];intro t ht;simp only [cS,pP,or_false] at ht;rcases ht with rfl | rfl<;>exact ⟨by kernel_rfl,of_decide_eq_true (by kernel_rfl)⟩
 ·simp only [cC];exact ⟨_,_,rfl,rl0,_,_,rfl,rl1,rfl⟩
def aOX:Rows.AuthCountsSaid :=
 OpenClaim.holds_of_wide 4 Tryz.f4 rfl rfl rfl rfl rfl rfl rfl ⟨rfl,rfl,rfl,rfl,rfl⟩ rfl rfl rfl rfl rfl (by kernel_rfl) Tryz.func4 aNS
  (of_decide_eq_true (by kernel_rfl)) (by unfold Func.isWrapper;first | (rw [if_pos (by decide +kernel)];kernel_rfl) | (rw [if_neg (by decide +kernel)];exact ⟨rfl,rfl⟩))
  (λos started H enc _=>aNT os started H enc)
def aPE:false=Rows.authCountsRow.goesBy Tryz.prog:=by kernel_rfl
theorem counts_holds:Rows.AuthCountsCardSaid :=
  Claim7.holds_tied_plain_at .later [] [.funcs,.data] true (true, "e278b99b6cbde8b1fc06b4767408f574c9e29fc80c523951a4f1542dace31e79") false
    aOX (λ_ h=>by cases h) (by kernel_rfl) (λ_ h=>by cases h) authCounts_row_tie rfl ⟨rfl,rfl⟩ aKT rfl
    (λf fn hf hfn=>by
      obtain rfl:f=4:=Option.some.inj ((show Tryz.prog.funcNamed "huddle/huddlelaw16.AuthCounts" = some 4 by kernel_rfl).symm.trans hf) |>.symm;obtain rfl:fn=Tryz.f4:=(Option.some.inj (Tryz.func4.symm.trans hfn)).symm
      exact ⟨aIU,λj t ht=>by
        rw [Tryz.params4] at ht;have hm:t∈[22]:=by simpa using Array.mem_of_getElem? ht
        exact aGs hm⟩)
    aPE
end Go.Proofs.YtdichbeaekjibaaGreatDoor
