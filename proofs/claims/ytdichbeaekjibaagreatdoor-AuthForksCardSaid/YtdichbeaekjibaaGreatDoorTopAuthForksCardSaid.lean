/- AuthForks: what a device signed from the number on of which it signed two does not count, and without killers and forks what counts is what counts behind its own past: proved whatever the input; the two package-level variables on the road are tied to the program's text. -/
import Derived.Test.YtdichbeaekjibaaGreatDoorLib29
set_option linter.all false
namespace Go.Proofs.YtdichbeaekjibaaGreatDoor
open Go Go.RowKit Go.WideShapes Go.ChangeShapes Go.ChangeAt Hud
def Vn(os:Os)(args:Array Value):((World.doorLaid Tryz.prog 400 os).forCall (λ_ _=>0) ⟨#[],args,[]⟩).Shaped Tryz.prog:=World.shaped_of_RefB s_ s_
def aKS:mapsRowed Tryz.prog=true:=s_
def aIT:Tryz.prog.stopsHeard=true:=s_
def aO4:Tryz.prog.mayEnter=true:=s_
def aKT:Tryz.prog.mainIs=some (true, "e278b99b6cbde8b1fc06b4767408f574c9e29fc80c523951a4f1542dace31e79".toList):=s_
def aIU:false=Tryz.prog.looks []:=s_
def aIV:([22].all λu=>!Tryz.prog.wantsStandIn u)=true:=s_
def aGs{t:TypeId}(h:t∈[22]):Tryz.prog.wantsStandIn t=false:=by simpa using oD.1 aIV t h
def aH8:(Rows.authForksRow.inPlace==Tryz.prog.inPlace 9)=true:=s_
def aH9:(Rows.authForksRow.unfollowed==Tryz.prog.unfollowed 9)=true:=s_
def aHe:(Rows.authForksRow.recurses==Tryz.prog.recurses 9)=true:=s_
def aHf:(Rows.authForksRow.named==Tryz.prog.varsNamed 9)=true:=s_
def aHG:(Rows.authForksRow.lifted==Tryz.prog.liftsFinal)=true:=s_
def aIz:(Tryz.prog.make==some Rows.authForksRow.make)=true:=s_
def aID:(Rows.authForksRow.plainKeys==Tryz.prog.plainKeys)=true:=s_
def aCW:joinedFacts Tryz.prog 9 Tryz.f9 Rows.authForksSpec Rows.authForksRow=true:=by unfold joinedFacts;rw[Tryz.laidOut,aKS,aH8,aH9,aHe,aHf,aHG,aIz,aID,aIT,aO4];kernel_rfl
set_option maxRecDepth 100000 in
def aCZ(os:Os)(b:os.Started)(H:Type)(enc:TypeId×Value->H):
 ReturnsInHanded {} Tryz.checked os 9 .any (λw a=>(Rows.authForksSpec.pre enc Tryz.prog Tryz.f9 [] false w a/\laidMetH Tryz.prog G4 w)/\sizedMet enc Tryz.prog Tryz.f9 (OpenSpec.ofChange Rows.authForksSpec) false w a)
  (Rows.authForksSpec.post enc Tryz.prog Tryz.f9 false true false false):=by
 refine returnsInHanded_of_change_and (C:=Tryz.checked) (X:=λw _=>laidMetH Tryz.prog G4 w) (λ_ _ _ B h=>h.of_heap B) Tryz.own b s_ Tryz.func9
  (ChangeSpec.witness_shaped (enc:=enc) (C:=Tryz.checked) (os:=os) (X:=λw _=>laidMetH Tryz.prog G4 w) false (World.doorLaid Tryz.prog 400 os) #[.slice none 0 0,.slice none 0 0] 8 rfl (Vn os _) s_ s_ s_ (aEE os _)) ?_
 intro W e a ds J f d y _ _ F _;have c:∀(j:Nat) t v,Tryz.f9.params[j]?=some t->a[j]?=some v->Value.okWide Tryz.prog W .any e t v:=d;have o:=y;obtain⟨p,q,r,E,rfl,D,A⟩:=y;have z:DataW.TrodAll enc Tryz.prog W 0 (λ_=>true) true Tryz.f9.params.toList a.toList ds p:=r;rw[Tryz.params9]at z c;obtain⟨v0,v1,K,d1,I,G,rfl,rfl,rfl,h0,h1⟩:=trodAll_two z;obtain⟨rfl,rfl⟩:=trodVars_none E;obtain⟨u,n,l,i⟩:=Zc (c 0 22 v0 rfl rfl) h0;obtain⟨s,m,k,g⟩:=Zc (c 1 22 v1 rfl rfl) h1;refine aBm (φ:=λ_=>undef) (avs:=[rG u,rG s]) Tryz.laidOut o rfl rfl ?_ s_ Tryz.underlying4 (enters_of Tryz.func9 s_ rfl _ _) (aGk F) (aE2 aIJ aKK u s l n k m) ?_;rw[Tryz.params9];intro t x;simp only[cS,pP,or_false]at x;rcases x with rfl|rfl<;>exact⟨s_,of_decide_eq_true s_⟩;simp only[cC];exact⟨_,_,rfl,i,_,_,rfl,g,rfl⟩
def aEQ:Rows.AuthForksSaid :=
 OpenClaim.holds_of_wide 9 Tryz.f9 rfl rfl rfl rfl rfl rfl rfl ⟨rfl,rfl,rfl,rfl,rfl⟩ rfl rfl rfl rfl rfl s_ Tryz.func9 aCW
  (of_decide_eq_true s_) (by unfold Func.isWrapper;first|(rw[if_pos s7];kernel_rfl)|(rw[if_neg s7];exact⟨rfl,rfl⟩))
  (λc a H b _=>aCZ c a H b)
def aIE:false=Rows.authForksRow.goesBy Tryz.prog:=s_
theorem forks_holds:Rows.AuthForksCardSaid :=
 Claim7.holds_tied_plain_at .later [] [.funcs,.data] true (true, "e278b99b6cbde8b1fc06b4767408f574c9e29fc80c523951a4f1542dace31e79") false
  aEQ (λ_ h=>by cases h) s_ (λ_ h=>by cases h) authForks_row_tie rfl ⟨rfl,rfl⟩ aKT rfl
  (λf e d a=>by
   obtain rfl:f=9:=Option.some.inj ((s_:Tryz.prog.funcNamed "huddle/huddlelaw16.AuthForks" = some 9).symm.trans d) |>.symm;obtain rfl:e=Tryz.f9:=(Option.some.inj (Tryz.func9.symm.trans a)).symm
   exact⟨aIU,λj t b=>by
    rw[Tryz.params9]at b;have c:t∈[22]:=by simpa using Array.mem_of_getElem? b
    exact aGs c⟩)
  aIE
end Go.Proofs.YtdichbeaekjibaaGreatDoor
