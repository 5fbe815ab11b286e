/- AuthPlain: where nothing is beside anything else, just that counts that a roll takes that did all that it took ahead: proved whatever the input; the two package-level variables on the road are tied to the program's text. -/
import Derived.Test.YtdichbeaekjibaaGreatDoorLib30
set_option linter.all false
namespace Go.Proofs.YtdichbeaekjibaaGreatDoor
open Go Go.RowKit Go.WideShapes Go.ChangeShapes Go.ChangeAt Hud
def Vn(os:Os)(args:Array Value):((World.doorLaid Tryz.prog 400 os).forCall (λ_ _=>0) ⟨#[],args,[]⟩).Shaped Tryz.prog:=World.shaped_of_RefB s_ s_
def aKS:mapsRowed Tryz.prog=true:=s_
def aIT:Tryz.prog.stopsHeard=true:=s_
def aO4:Tryz.prog.mayEnter=true:=s_
def aKT:Tryz.prog.mainIs=some (true, "e278b99b6cbde8b1fc06b4767408f574c9e29fc80c523951a4f1542dace31e79".toList):=s_
def aIU:false=Tryz.prog.looks []:=s_
def aIV:([22].all λu=>!Tryz.prog.wantsStandIn u)=true:=s_
def aGs{t:TypeId}(h:t∈[22]):Tryz.prog.wantsStandIn t=false:=by simpa using aBE.1 aIV t h
def aNT:(Rows.authPlainRow.inPlace==Tryz.prog.inPlace 7)=true:=s_
def aNU:(Rows.authPlainRow.unfollowed==Tryz.prog.unfollowed 7)=true:=s_
def aO0:(Rows.authPlainRow.recurses==Tryz.prog.recurses 7)=true:=s_
def aO5:(Rows.authPlainRow.named==Tryz.prog.varsNamed 7)=true:=s_
def aO8:(Rows.authPlainRow.lifted==Tryz.prog.liftsFinal)=true:=s_
def aO9:(Tryz.prog.make==some Rows.authPlainRow.make)=true:=s_
def aOa:(Rows.authPlainRow.plainKeys==Tryz.prog.plainKeys)=true:=s_
def aLK:joinedFacts Tryz.prog 7 Tryz.f7 Rows.authPlainSpec Rows.authPlainRow=true:=by unfold joinedFacts;rw[Tryz.laidOut,aKS,aNT,aNU,aO0,aO5,aO8,aO9,aOa,aIT,aO4];kernel_rfl
set_option maxRecDepth 100000 in
def aLL(os:Os)(b:os.Started)(H:Type)(enc:TypeId×Value->H):
 ReturnsInHanded {} Tryz.checked os 7 .any (λw a=>(Rows.authPlainSpec.pre enc Tryz.prog Tryz.f7 [] false w a/\laidMetH Tryz.prog G4 w)/\sizedMet enc Tryz.prog Tryz.f7 (OpenSpec.ofChange Rows.authPlainSpec) false w a)
  (Rows.authPlainSpec.post enc Tryz.prog Tryz.f7 false true false false):=by
 refine returnsInHanded_of_change_and (C:=Tryz.checked) (X:=λw _=>laidMetH Tryz.prog G4 w) (λ_ _ _ x h=>h.of_heap x) Tryz.own b s_ Tryz.func7
  (ChangeSpec.witness_shaped (enc:=enc) (C:=Tryz.checked) (os:=os) (X:=λw _=>laidMetH Tryz.prog G4 w) false (World.doorLaid Tryz.prog 400 os) #[.slice none 0 0] 8 rfl (Vn os _) s_ s_ s_ (aEE os _)) ?_
 intro W e a ds B f d r _ _ A _;have c:∀(j:Nat) t v,Tryz.f7.params[j]?=some t->a[j]?=some v->Value.okWide Tryz.prog W .any e t v:=d;have l:=r;obtain⟨p,q,m,z,rfl,y,u⟩:=r;have s:DataW.TrodAll enc Tryz.prog W 0 (λ_=>true) true Tryz.f7.params.toList a.toList ds p:=m;rw[Tryz.params7]at s c;obtain⟨v0,D,rfl,rfl,h0⟩:=trodAll_one s;obtain⟨rfl,rfl⟩:=trodVars_none z;obtain⟨n,k,i,g⟩:=Zc (c 0 22 v0 rfl rfl) h0;refine aBm (φ:=λ_=>undef) (avs:=[rG n]) Tryz.laidOut l rfl rfl ?_ s_ Tryz.underlying4 (enters_of Tryz.func7 s_ rfl _ _) (aGk A) (aM0 aIJ aKK n i k) ?_;rw[Tryz.params7];intro t o;simp only[cS,pP,or_false]at o;rcases o with rfl<;>exact⟨s_,of_decide_eq_true s_⟩;simp only[cC];exact⟨_,_,rfl,g,rfl⟩
def aMk:Rows.AuthPlainSaid :=
 OpenClaim.holds_of_wide 7 Tryz.f7 rfl rfl rfl rfl rfl rfl rfl ⟨rfl,rfl,rfl,rfl,rfl⟩ rfl rfl rfl rfl rfl s_ Tryz.func7 aLK
  (of_decide_eq_true s_) y_
  (λc a H b _=>aLL c a H b)
def aOc:false=Rows.authPlainRow.goesBy Tryz.prog:=s_
theorem plain_holds:Rows.AuthPlainCardSaid :=
 Claim7.holds_tied_plain_at .later [] [.funcs,.data] true (true, "e278b99b6cbde8b1fc06b4767408f574c9e29fc80c523951a4f1542dace31e79") false
  aMk (λ_ h=>by cases h) s_ (λ_ h=>by cases h) authPlain_row_tie rfl ⟨rfl,rfl⟩ aKT rfl
  (λf e d a=>by
   obtain rfl:f=7:=Option.some.inj ((s_:Tryz.prog.funcNamed "huddle/huddlelaw16.AuthPlain" = some 7).symm.trans d) |>.symm;obtain rfl:e=Tryz.f7:=(Option.some.inj (Tryz.func7.symm.trans a)).symm
   exact⟨aIU,λj t b=>by
    rw[Tryz.params7]at b;have c:t∈[22]:=ka
    exact aGs c⟩)
  aOc
end Go.Proofs.YtdichbeaekjibaaGreatDoor
