/- AuthWhys: why an operation does not count is told as the document says: proved whatever the input; the two package-level variables on the road are tied to the program's text. -/
import Derived.Test.YtdichbeaekjibaaGreatDoorLib34
set_option linter.all false
namespace Go.Proofs.YtdichbeaekjibaaGreatDoor
open Go Go.RowKit Go.WideShapes Go.ChangeShapes Go.ChangeAt Hud
def Vn (os:Os) (args:Array Value):((World.doorLaid Tryz.prog 400 os).forCall (λ_ _=>0) ⟨#[],args,[]⟩).Shaped Tryz.prog:=World.shaped_of_RefB (by kernel_rfl) (by kernel_rfl)
def aKS:mapsRowed Tryz.prog=true:=by kernel_rfl
def aIT:Tryz.prog.stopsHeard=true:=by kernel_rfl
def aO4:Tryz.prog.mayEnter=true:=by kernel_rfl
def aKT:Tryz.prog.mainIs=some (true, "e278b99b6cbde8b1fc06b4767408f574c9e29fc80c523951a4f1542dace31e79".toList):=by kernel_rfl
def aIU:false=Tryz.prog.looks []:=by kernel_rfl
def aIV:([22,25].all λu=>!Tryz.prog.wantsStandIn u)=true:=by kernel_rfl
def aGs {t:TypeId} (h:t∈[22,25]):Tryz.prog.wantsStandIn t=false:=by simpa using oD.1 aIV t h
def aQt:(Rows.authWhysRow.inPlace==Tryz.prog.inPlace 5)=true:=by kernel_rfl
def aQu:(Rows.authWhysRow.unfollowed==Tryz.prog.unfollowed 5)=true:=by kernel_rfl
def aQv:(Rows.authWhysRow.recurses==Tryz.prog.recurses 5)=true:=by kernel_rfl
def aQw:(Rows.authWhysRow.named==Tryz.prog.varsNamed 5)=true:=by kernel_rfl
def aQx:(Rows.authWhysRow.lifted==Tryz.prog.liftsFinal)=true:=by kernel_rfl
def aQy:(Tryz.prog.make==some Rows.authWhysRow.make)=true:=by kernel_rfl
def aQz:(Rows.authWhysRow.plainKeys==Tryz.prog.plainKeys)=true:=by kernel_rfl
def aOY:joinedFacts Tryz.prog 5 Tryz.f5 Rows.authWhysSpec Rows.authWhysRow=true:=by
 unfold joinedFacts;rw [Tryz.laidOut,aKS,aQt,aQu,aQv,aQw,aQx,aQy,aQz,aIT,aO4];kernel_rfl
set_option maxRecDepth 100000 in
def aOZ (os:Os) (started:os.Started) (H:Type) (enc:TypeId×Value→H) :
  ReturnsInHanded {} Tryz.checked os 5 .any (λw args=>(Rows.authWhysSpec.pre enc Tryz.prog Tryz.f5 [] false w args∧laidMetH Tryz.prog G4 w)∧sizedMet enc Tryz.prog Tryz.f5 (OpenSpec.ofChange Rows.authWhysSpec) false w args)
   (Rows.authWhysSpec.post enc Tryz.prog Tryz.f5 false true false false):=by
 refine returnsInHanded_of_change_and (C:=Tryz.checked) (X:=λw _=>laidMetH Tryz.prog G4 w) (λ_ _ _ hh h=>h.of_heap hh) Tryz.own started (by kernel_rfl) Tryz.func5
  (ChangeSpec.witness_shaped (enc:=enc) (C:=Tryz.checked) (os:=os) (X:=λw _=>laidMetH Tryz.prog G4 w) false (World.doorLaid Tryz.prog 400 os) #[.slice none 0 0,.slice none 0 0,.agg #[.int .i64 0,.int .i64 0,.int .u64 0]] 8 rfl (Vn os _) (by kernel_rfl) (by kernel_rfl) (by kernel_rfl) (aEE os _)) ?_
 intro W base args ds gs before hval0 hW _ _ hL _;have hval:∀ (j:Nat) t v,Tryz.f5.params[j]?=some t→args[j]?=some v→Value.okWide Tryz.prog W .any base t v:=hval0;have hW':=hW;obtain ⟨p,q,hA0,hV,rfl,hfz,hnd⟩:=hW;have hA:DataW.TrodAll enc Tryz.prog W 0 (λ_=>true) true Tryz.f5.params.toList args.toList ds p:=hA0;rw [Tryz.params5] at hA hval;obtain ⟨v0,v1,v2,d0,d1,d2,p0,p1,p2,rfl,rfl,rfl,h0,h1,h2⟩:=trodAll_three hA;obtain ⟨rfl,rfl⟩:=trodVars_none hV;obtain ⟨l0,il0,ll0,rl0⟩:=Zc (hval 0 22 v0 rfl rfl) h0;obtain ⟨l1,il1,ll1,rl1⟩:=Zc (hval 1 22 v1 rfl rfl) h1;obtain ⟨us2,rfl,_⟩:=okWide_struct Tryz.underlying25 (hval 2 25 v2 rfl rfl);have s2:=aQK (h:=Iy W) (φ:=λ_=>undef) (ks:=[.int .i64,.int .i64,.int .u64]) (n:=12) (by kernel_rfl) (by kernel_rfl) h2;obtain ⟨hc2,hr2⟩:=s2;simp only [kC,Hb] at hc2;obtain ⟨_,_,e2,⟨x2a,rfl,_⟩,_,_,rfl,⟨x2b,rfl,_⟩,_,_,rfl,⟨x2c,rfl,_⟩,rfl⟩:=hc2;rw [e2] at hr2;refine aBm (φ:=λ_=>undef) (avs:=[rG l0,rG l1,.ag (Id.A ⟨x2a,x2b,x2c⟩)]) Tryz.laidOut hW' rfl rfl ?_ (by kernel_rfl) Tryz.underlying4 (enters_of Tryz.func5 (by kernel_rfl) rfl _ _) (aGk hL) (aPe aMj aIJ aKK l0 l1 ⟨x2a,x2b,x2c⟩ ll0 il0 ll1 il1) ?_
 ·rw [Tryz.params5];intro t ht;simp only [cS,pP,or_false] at ht;rcases ht with rfl | rfl | rfl<;>exact ⟨by kernel_rfl,of_decide_eq_true (by kernel_rfl)⟩
 ·simp only [cC];exact ⟨_,_,rfl,rl0,_,_,rfl,rl1,_,_,rfl,hr2,rfl⟩
def aPF:Rows.AuthWhysSaid :=
 OpenClaim.holds_of_wide 5 Tryz.f5 rfl rfl rfl rfl rfl rfl rfl ⟨rfl,rfl,rfl,rfl,rfl⟩ rfl rfl rfl rfl rfl (by kernel_rfl) Tryz.func5 aOY
  (of_decide_eq_true (by kernel_rfl)) (by unfold Func.isWrapper;first | (rw [if_pos (by decide +kernel)];kernel_rfl) | (rw [if_neg (by decide +kernel)];exact ⟨rfl,rfl⟩))
  (λos started H enc _=>aOZ os started H enc)
def aQA:false=Rows.authWhysRow.goesBy Tryz.prog:=by kernel_rfl
theorem whys_holds:Rows.AuthWhysCardSaid :=
  Claim7.holds_tied_plain_at .later [] [.funcs,.data] true (true, "e278b99b6cbde8b1fc06b4767408f574c9e29fc80c523951a4f1542dace31e79") false
    aPF (λ_ h=>by cases h) (by kernel_rfl) (λ_ h=>by cases h) authWhys_row_tie rfl ⟨rfl,rfl⟩ aKT rfl
    (λf fn hf hfn=>by
      obtain rfl:f=5:=Option.some.inj ((show Tryz.prog.funcNamed "huddle/huddlelaw16.AuthWhys" = some 5 by kernel_rfl).symm.trans hf) |>.symm;obtain rfl:fn=Tryz.f5:=(Option.some.inj (Tryz.func5.symm.trans hfn)).symm
      exact ⟨aIU,λj t ht=>by
        rw [Tryz.params5] at ht;have hm:t∈[22,25]:=by simpa using Array.mem_of_getElem? ht
        exact aGs hm⟩)
    aQA
end Go.Proofs.YtdichbeaekjibaaGreatDoor
