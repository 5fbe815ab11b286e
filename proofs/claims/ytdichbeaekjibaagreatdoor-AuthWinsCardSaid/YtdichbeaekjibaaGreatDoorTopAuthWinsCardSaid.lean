/- AuthWins: nothing that counts is killed by what counts, what counts stands in the row: proved whatever the input; the two package-level variables on the road are tied to the program's text. -/
import Derived.Test.YtdichbeaekjibaaGreatDoorLib29
set_option linter.all false
namespace Go.Proofs.YtdichbeaekjibaaGreatDoor
open Go Go.RowKit Go.WideShapes Go.ChangeShapes Go.ChangeAt Hud
def Vn(os:Os)(args:Array Value):((World.doorLaid Tryz.prog 400 os).forCall (λ_ _=>0) ⟨#[],args,[]⟩).Shaped Tryz.prog:=World.shaped_of_RefB (by kernel_rfl) (by kernel_rfl)
def aKS:mapsRowed Tryz.prog=true:=by kernel_rfl
def aIT:Tryz.prog.stopsHeard=true:=by kernel_rfl
def aO4:Tryz.prog.mayEnter=true:=by kernel_rfl
def aKT:Tryz.prog.mainIs=some (true, "e278b99b6cbde8b1fc06b4767408f574c9e29fc80c523951a4f1542dace31e79".toList):=by kernel_rfl
def aIU:false=Tryz.prog.looks []:=by kernel_rfl
def aIV:([22].all λu=>!Tryz.prog.wantsStandIn u)=true:=by kernel_rfl
def aGs{t:TypeId}(h:t∈[22]):Tryz.prog.wantsStandIn t=false:=by simpa using oD.1 aIV t h
def aGt:(Rows.authWinsRow.inPlace==Tryz.prog.inPlace 10)=true:=by kernel_rfl
def aGu:(Rows.authWinsRow.unfollowed==Tryz.prog.unfollowed 10)=true:=by kernel_rfl
def aGv:(Rows.authWinsRow.recurses==Tryz.prog.recurses 10)=true:=by kernel_rfl
def aGw:(Rows.authWinsRow.named==Tryz.prog.varsNamed 10)=true:=by kernel_rfl
def aGx:(Rows.authWinsRow.lifted==Tryz.prog.liftsFinal)=true:=by kernel_rfl
def aGy:(Tryz.prog.make==some Rows.authWinsRow.make)=true:=by kernel_rfl
def aGz:(Rows.authWinsRow.plainKeys==Tryz.prog.plainKeys)=true:=by kernel_rfl
def Vo:joinedFacts Tryz.prog 10 Tryz.f10 Rows.authWinsSpec Rows.authWinsRow=true:=by unfold joinedFacts;rw[Tryz.laidOut,aKS,aGt,aGu,aGv,aGw,aGx,aGy,aGz,aIT,aO4];kernel_rfl
set_option maxRecDepth 100000 in
def Vp(os:Os)(b:os.Started)(H:Type)(enc:TypeId×Value->H):
 ReturnsInHanded {} Tryz.checked os 10 .any (λw a=>(Rows.authWinsSpec.pre enc Tryz.prog Tryz.f10 [] false w a/\laidMetH Tryz.prog G4 w)/\sizedMet enc Tryz.prog Tryz.f10 (OpenSpec.ofChange Rows.authWinsSpec) false w a)
  (Rows.authWinsSpec.post enc Tryz.prog Tryz.f10 false true false false):=by
 refine returnsInHanded_of_change_and (C:=Tryz.checked) (X:=λw _=>laidMetH Tryz.prog G4 w) (λ_ _ _ B h=>h.of_heap B) Tryz.own b (by kernel_rfl) Tryz.func10
  (ChangeSpec.witness_shaped (enc:=enc) (C:=Tryz.checked) (os:=os) (X:=λw _=>laidMetH Tryz.prog G4 w) false (World.doorLaid Tryz.prog 400 os) #[.slice none 0 0,.slice none 0 0] 8 rfl (Vn os _) (by kernel_rfl) (by kernel_rfl) (by kernel_rfl) (aEE os _)) ?_
 intro W e a ds J f d y _ _ F _;have c:∀(j:Nat) t v,Tryz.f10.params[j]?=some t->a[j]?=some v->Value.okWide Tryz.prog W .any e t v:=d;have o:=y;obtain⟨p,q,r,E,rfl,D,A⟩:=y;have z:DataW.TrodAll enc Tryz.prog W 0 (λ_=>true) true Tryz.f10.params.toList a.toList ds p:=r;rw[Tryz.params10]at z c;obtain⟨v0,v1,K,d1,I,G,rfl,rfl,rfl,h0,h1⟩:=trodAll_two z;obtain⟨rfl,rfl⟩:=trodVars_none E;obtain⟨u,n,l,i⟩:=Zc (c 0 22 v0 rfl rfl) h0;obtain⟨s,m,k,g⟩:=Zc (c 1 22 v1 rfl rfl) h1;refine aBm (φ:=λ_=>undef) (avs:=[rG u,rG s]) Tryz.laidOut o rfl rfl ?_ (by kernel_rfl) Tryz.underlying4 (enters_of Tryz.func10 (by kernel_rfl) rfl _ _) (aGk F) (Xz aIJ aKK u s l n k m) ?_;rw[Tryz.params10];intro t x;simp only[cS,pP,or_false]at x;rcases x with rfl|rfl<;>exact⟨by kernel_rfl,of_decide_eq_true (by kernel_rfl)⟩;simp only[cC];exact⟨_,_,rfl,i,_,_,rfl,g,rfl⟩
def aBz:Rows.AuthWinsSaid :=
 OpenClaim.holds_of_wide 10 Tryz.f10 rfl rfl rfl rfl rfl rfl rfl ⟨rfl,rfl,rfl,rfl,rfl⟩ rfl rfl rfl rfl rfl (by kernel_rfl) Tryz.func10 Vo
  (of_decide_eq_true (by kernel_rfl)) (by unfold Func.isWrapper;first|(rw[if_pos (by decide +kernel)];kernel_rfl)|(rw[if_neg (by decide +kernel)];exact⟨rfl,rfl⟩))
  (λc a H b _=>Vp c a H b)
def aGA:false=Rows.authWinsRow.goesBy Tryz.prog:=by kernel_rfl
theorem wins_holds:Rows.AuthWinsCardSaid :=
 Claim7.holds_tied_plain_at .later [] [.funcs,.data] true (true, "e278b99b6cbde8b1fc06b4767408f574c9e29fc80c523951a4f1542dace31e79") false
  aBz (λ_ h=>by cases h) (by kernel_rfl) (λ_ h=>by cases h) authWins_row_tie rfl ⟨rfl,rfl⟩ aKT rfl
  (λf e d a=>by
   obtain rfl:f=10:=Option.some.inj ((show Tryz.prog.funcNamed "huddle/huddlelaw16.AuthWins" = some 10 by kernel_rfl).symm.trans d) |>.symm;obtain rfl:e=Tryz.f10:=(Option.some.inj (Tryz.func10.symm.trans a)).symm
   exact⟨aIU,λj t b=>by
    rw[Tryz.params10]at b;have c:t∈[22]:=by simpa using Array.mem_of_getElem? b
    exact aGs c⟩)
  aGA
end Go.Proofs.YtdichbeaekjibaaGreatDoor
