/- AuthKills: which operation kills which one is the document's: proved whatever the input; the two package-level variables on the road are tied to the program's text. -/
import Derived.Test.YtdichbeaekjibaaGreatDoorLib34
set_option linter.all false
section
namespace Go.Proofs.YtdichbeaekjibaaGreatDoor
open Go Go.RowKit Go.WideShapes Go.ChangeShapes Go.ChangeAt Hud
def Ro (os:Os) (args:Array Value):((World.doorLaid Tryz.prog 400 os).forCall (λ_ _=>0) ⟨#[],args,[]⟩).Shaped Tryz.prog:=World.shaped_of_RefB (by kernel_rfl) (by kernel_rfl)
def aFG:mapsRowed Tryz.prog=true:=by kernel_rfl
def aDR:Tryz.prog.stopsHeard=true:=by kernel_rfl
def aIQ:Tryz.prog.mayEnter=true:=by kernel_rfl
def aFH:Tryz.prog.mainIs=some (true, "e278b99b6cbde8b1fc06b4767408f574c9e29fc80c523951a4f1542dace31e79".toList):=by kernel_rfl
def aDS:false=Tryz.prog.looks []:=by kernel_rfl
def aDT:([22,25].all λu=>!Tryz.prog.wantsStandIn u)=true:=by kernel_rfl
def aBI {t:TypeId} (h:t∈[22,25]):Tryz.prog.wantsStandIn t=false:=by simpa using lF.1 aDT t h
def aAc:(Rows.authKillsRow.inPlace==Tryz.prog.inPlace 3)=true:=by kernel_rfl
def aAd:(Rows.authKillsRow.unfollowed==Tryz.prog.unfollowed 3)=true:=by kernel_rfl
def aAe:(Rows.authKillsRow.recurses==Tryz.prog.recurses 3)=true:=by kernel_rfl
def aAf:(Rows.authKillsRow.named==Tryz.prog.varsNamed 3)=true:=by kernel_rfl
def aAg:(Rows.authKillsRow.lifted==Tryz.prog.liftsFinal)=true:=by kernel_rfl
def aAh:(Tryz.prog.make==some Rows.authKillsRow.make)=true:=by kernel_rfl
def aAi:(Rows.authKillsRow.plainKeys==Tryz.prog.plainKeys)=true:=by kernel_rfl
def PU:joinedFacts Tryz.prog 3 Tryz.f3 Rows.authKillsSpec Rows.authKillsRow=true:=by
 unfold joinedFacts;rw [Tryz.laidOut,aFG,aAc,aAd,aAe,aAf,aAg,aAh,aAi,aDR,aIQ];kernel_rfl
set_option maxRecDepth 100000 in
def PV (os:Os) (started:os.Started) (H:Type) (enc:TypeId×Value→H) :
  ReturnsInHanded {} Tryz.checked os 3 .any (λw args=>(Rows.authKillsSpec.pre enc Tryz.prog Tryz.f3 [] false w args∧laidMetH Tryz.prog Ee w)∧sizedMet enc Tryz.prog Tryz.f3 (OpenSpec.ofChange Rows.authKillsSpec) false w args)
   (Rows.authKillsSpec.post enc Tryz.prog Tryz.f3 false true false false):=by
 refine returnsInHanded_of_change_and (C:=Tryz.checked) (X:=λw _=>laidMetH Tryz.prog Ee w) (λ_ _ _ hh h=>h.of_heap hh) Tryz.own started (by kernel_rfl) Tryz.func3
  (ChangeSpec.witness_shaped (enc:=enc) (C:=Tryz.checked) (os:=os) (X:=λw _=>laidMetH Tryz.prog Ee w) false (World.doorLaid Tryz.prog 400 os) #[.slice none 0 0,.agg #[.int .i64 0,.int .i64 0,.int .u64 0]] 8 rfl (Ro os _) (by kernel_rfl) (by kernel_rfl) (by kernel_rfl) (aAb os _)) ?_
 intro W base args ds gs before hval0 hW _ _ hL _;have hval:∀ (j:Nat) t v,Tryz.f3.params[j]?=some t→args[j]?=some v→Value.okWide Tryz.prog W .any base t v:=hval0;have hW':=hW;obtain ⟨p,q,hA0,hV,rfl,hfz,hnd⟩:=hW;have hA:DataW.TrodAll enc Tryz.prog W 0 (λ_=>true) true Tryz.f3.params.toList args.toList ds p:=hA0;rw [Tryz.params3] at hA hval;obtain ⟨v0,v1,d0,d1,p0,p1,rfl,rfl,rfl,h0,h1⟩:=trodAll_two hA;obtain ⟨rfl,rfl⟩:=trodVars_none hV;obtain ⟨l0,il0,ll0,rl0⟩:=aBH (hval 0 22 v0 rfl rfl) h0;obtain ⟨us,rfl,_⟩:=okWide_struct Tryz.underlying25 (hval 1 25 v1 rfl rfl);have s1:=aDb (h:=FD W) (φ:=λ_=>undef) (ks:=[.int .i64,.int .i64,.int .u64]) (n:=12) (by kernel_rfl) (by kernel_rfl) h1;obtain ⟨hc1,hr1⟩:=s1;simp only [fT,C8] at hc1;obtain ⟨_,_,e1,⟨n1,rfl,_⟩,_,_,rfl,⟨n2,rfl,_⟩,_,_,rfl,⟨n3,rfl,_⟩,rfl⟩:=hc1;rw [e1] at hr1;refine XN (φ:=λ_=>undef) (avs:=[uK l0,.ag (Id.A ⟨n1,n2,n3⟩)]) Tryz.laidOut hW' rfl rfl ?_ (by kernel_rfl) Tryz.underlying4 (enters_of Tryz.func3 (by kernel_rfl) rfl _ _) (aBG hL) (Rn aDQ aDP l0 ll0 il0 ⟨n1,n2,n3⟩) ?_
 ·rw [Tryz.params3];intro t ht;simp only [jB,qS,or_false] at ht;rcases ht with rfl | rfl<;>exact ⟨by kernel_rfl,of_decide_eq_true (by kernel_rfl)⟩
 ·simp only [bK];exact ⟨_,_,rfl,rl0,_,_,rfl,hr1,rfl⟩
def Tn:Rows.AuthKillsSaid :=
 OpenClaim.holds_of_wide 3 Tryz.f3 rfl rfl rfl rfl rfl rfl rfl ⟨rfl,rfl,rfl,rfl,rfl⟩ rfl rfl rfl rfl rfl (by kernel_rfl) Tryz.func3 PU
  (of_decide_eq_true (by kernel_rfl)) (by unfold Func.isWrapper;first | (rw [if_pos (by decide +kernel)];kernel_rfl) | (rw [if_neg (by decide +kernel)];exact ⟨rfl,rfl⟩))
  (λos started H enc _=>PV os started H enc)
def aAj:false=Rows.authKillsRow.goesBy Tryz.prog:=by kernel_rfl
theorem kills_holds:Rows.AuthKillsCardSaid :=
  Claim7.holds_tied_plain_at .later [] [.funcs,.data] true (true, "e278b99b6cbde8b1fc06b4767408f574c9e29fc80c523951a4f1542dace31e79") false
    Tn (λ_ h=>by cases h) (by kernel_rfl) (λ_ h=>by cases h) authKills_row_tie rfl ⟨rfl,rfl⟩ aFH rfl
    (λf fn hf hfn=>by
      obtain rfl:f=3:=Option.some.inj ((show Tryz.prog.funcNamed "huddle/huddlelaw16.AuthKills" = some 3 by kernel_rfl).symm.trans hf) |>.symm;obtain rfl:fn=Tryz.f3:=(Option.some.inj (Tryz.func3.symm.trans hfn)).symm
      exact ⟨aDS,λj t ht=>by
        rw [Tryz.params3] at ht;have hm:t∈[22,25]:=by simpa using Array.mem_of_getElem? ht
        exact aBI hm⟩)
    aAj
end Go.Proofs.YtdichbeaekjibaaGreatDoor
end
