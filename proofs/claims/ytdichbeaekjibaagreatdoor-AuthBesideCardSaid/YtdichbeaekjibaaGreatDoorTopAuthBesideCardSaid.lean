/- AuthBeside: nothing that a removed device did beside its removal, or behind it, counts, and what stands ahead of it does: proved whatever the input; the two package-level variables on the road are tied to the program's text. -/
import Derived.Test.YtdichbeaekjibaaGreatDoorLib30
set_option linter.all false
namespace Go.Proofs.YtdichbeaekjibaaGreatDoor
open Go Go.RowKit Go.WideShapes Go.ChangeShapes Go.ChangeAt Hud
def Vn(os:Os)(args:Array Value):((World.doorLaid Tryz.prog 400 os).forCall (λ_ _=>0) ⟨#[],args,[]⟩).Shaped Tryz.prog:=World.shaped_of_RefB s_ s_
def aKS:mapsRowed Tryz.prog=true:=s_
def aIT:Tryz.prog.stopsHeard=true:=s_
def aO4:Tryz.prog.mayEnter=true:=s_
def aKT:Tryz.prog.mainIs=some (true, "e278b99b6cbde8b1fc06b4767408f574c9e29fc80c523951a4f1542dace31e79".toList):=s_
def aIU:false=Tryz.prog.looks []:=s_
def aIV:([3,22].all λu=>!Tryz.prog.wantsStandIn u)=true:=s_
def aGs{t:TypeId}(h:t∈[3,22]):Tryz.prog.wantsStandIn t=false:=by simpa using aBE.1 aIV t h
def aMA:(Rows.authBesideRow.inPlace==Tryz.prog.inPlace 8)=true:=s_
def aMB:(Rows.authBesideRow.unfollowed==Tryz.prog.unfollowed 8)=true:=s_
def aMC:(Rows.authBesideRow.recurses==Tryz.prog.recurses 8)=true:=s_
def aMD:(Rows.authBesideRow.named==Tryz.prog.varsNamed 8)=true:=s_
def aME:(Rows.authBesideRow.lifted==Tryz.prog.liftsFinal)=true:=s_
def aMF:(Tryz.prog.make==some Rows.authBesideRow.make)=true:=s_
def aMG:(Rows.authBesideRow.plainKeys==Tryz.prog.plainKeys)=true:=s_
def aK3:joinedFacts Tryz.prog 8 Tryz.f8 Rows.authBesideSpec Rows.authBesideRow=true:=by unfold joinedFacts;rw[Tryz.laidOut,aKS,aMA,aMB,aMC,aMD,aME,aMF,aMG,aIT,aO4];kernel_rfl
set_option maxRecDepth 100000 in
def aK4(os:Os)(c:os.Started)(H:Type)(enc:TypeId×Value->H):
 ReturnsInHanded {} Tryz.checked os 8 .any (λw a=>(Rows.authBesideSpec.pre enc Tryz.prog Tryz.f8 [] false w a/\laidMetH Tryz.prog G4 w)/\sizedMet enc Tryz.prog Tryz.f8 (OpenSpec.ofChange Rows.authBesideSpec) false w a)
  (Rows.authBesideSpec.post enc Tryz.prog Tryz.f8 false true false false):=by
 refine returnsInHanded_of_change_and (C:=Tryz.checked) (X:=λw _=>laidMetH Tryz.prog G4 w) (λ_ _ _ z h=>h.of_heap z) Tryz.own c s_ Tryz.func8
  (ChangeSpec.witness_shaped (enc:=enc) (C:=Tryz.checked) (os:=os) (X:=λw _=>laidMetH Tryz.prog G4 w) false (World.doorLaid Tryz.prog 400 os) #[.int .i64 0,.int .i64 0,.slice none 0 0] 8 rfl (Vn os _) s_ s_ s_ (aEE os _)) ?_
 intro W e a ds I f d u _ _ D _;have b:∀(j:Nat) t v,Tryz.f8.params[j]?=some t->a[j]?=some v->Value.okWide Tryz.prog W .any e t v:=d;have l:=u;obtain⟨p,q,m,B,rfl,A,y⟩:=u;have x:DataW.TrodAll enc Tryz.prog W 0 (λ_=>true) true Tryz.f8.params.toList a.toList ds p:=m;rw[Tryz.params8]at x b;obtain⟨v0,v1,v2,J,d1,d2,G,F,E,rfl,rfl,rfl,h0,h1,h2⟩:=trodAll_three x;obtain⟨rfl,rfl⟩:=trodVars_none B;obtain⟨o,rfl,rfl,rfl,w0⟩:=open_int Tryz.underlying3 (b 0 3 v0 rfl rfl) h0;obtain⟨n,rfl,rfl,rfl,w1⟩:=open_int Tryz.underlying3 (b 1 3 v1 rfl rfl) h1;obtain⟨r,k,i,g⟩:=Zc (b 2 22 v2 rfl rfl) h2;refine aBm (φ:=λ_=>undef) (avs:=[iv o,iv n,rG r]) Tryz.laidOut l rfl rfl ?_ s_ Tryz.underlying4 (enters_of Tryz.func8 s_ rfl _ _) (aGk D) (aLv aIJ aKK o n (wfI w0) (wfI w1) r i k) ?_;rw[Tryz.params8];intro t s;simp only[cS,pP,or_false]at s;rcases s with rfl|rfl|rfl<;>exact⟨s_,of_decide_eq_true s_⟩;simp only[cC];exact⟨_,_,rfl,by simp only[Rp],_,_,rfl,by simp only[Rp],_,_,rfl,g,rfl⟩
def aLX:Rows.AuthBesideSaid :=
 OpenClaim.holds_of_wide 8 Tryz.f8 rfl rfl rfl rfl rfl rfl rfl ⟨rfl,rfl,rfl,rfl,rfl⟩ rfl rfl rfl rfl rfl s_ Tryz.func8 aK3
  (of_decide_eq_true s_) y_
  (λc a H b _=>aK4 c a H b)
def aMH:false=Rows.authBesideRow.goesBy Tryz.prog:=s_
theorem beside_holds:Rows.AuthBesideCardSaid :=
 Claim7.holds_tied_plain_at .later [] [.funcs,.data] true (true, "e278b99b6cbde8b1fc06b4767408f574c9e29fc80c523951a4f1542dace31e79") false
  aLX (λ_ h=>by cases h) s_ (λ_ h=>by cases h) authBeside_row_tie rfl ⟨rfl,rfl⟩ aKT rfl
  (λf e d a=>by
   obtain rfl:f=8:=Option.some.inj ((s_:Tryz.prog.funcNamed "huddle/huddlelaw16.AuthBeside" = some 8).symm.trans d) |>.symm;obtain rfl:e=Tryz.f8:=(Option.some.inj (Tryz.func8.symm.trans a)).symm
   exact⟨aIU,λj t b=>by
    rw[Tryz.params8]at b;have c:t∈[3,22]:=ka
    exact aGs c⟩)
  aMH
end Go.Proofs.YtdichbeaekjibaaGreatDoor
