/- AuthCircles: of two Admins that remove each other, beside each other, the one who came first stays: proved whatever the input; the two package-level variables on the road are tied to the program's text. -/
import Derived.Test.YtdichbeaekjibaaGreatDoorLib30
set_option linter.all false
namespace Go.Proofs.YtdichbeaekjibaaGreatDoor
open Go Go.RowKit Go.WideShapes Go.ChangeShapes Go.ChangeAt Hud
def Vn(os:Os)(args:Array Value):((World.doorLaid Tryz.prog 400 os).forCall (λ_ _=>0) ⟨#[],args,[]⟩).Shaped Tryz.prog:=World.shaped_of_RefB s_ s_
def aKS:mapsRowed Tryz.prog=true:=s_
def aIT:Tryz.prog.stopsHeard=true:=s_
def aO4:Tryz.prog.mayEnter=true:=s_
def aKT:Tryz.prog.mainIs=some (true, "e278b99b6cbde8b1fc06b4767408f574c9e29fc80c523951a4f1542dace31e79".toList):=s_
def aIU:false=Tryz.prog.looks []:=s_
def aIV:([3,4].all λu=>!Tryz.prog.wantsStandIn u)=true:=s_
def aGs{t:TypeId}(h:t∈[3,4]):Tryz.prog.wantsStandIn t=false:=by simpa using aBE.1 aIV t h
def aM8:(Rows.authCirclesRow.inPlace==Tryz.prog.inPlace 11)=true:=s_
def aM9:(Rows.authCirclesRow.unfollowed==Tryz.prog.unfollowed 11)=true:=s_
def aMa:(Rows.authCirclesRow.recurses==Tryz.prog.recurses 11)=true:=s_
def aMb:(Rows.authCirclesRow.named==Tryz.prog.varsNamed 11)=true:=s_
def aMc:(Rows.authCirclesRow.lifted==Tryz.prog.liftsFinal)=true:=s_
def aMd:(Tryz.prog.make==some Rows.authCirclesRow.make)=true:=s_
def aMe:(Rows.authCirclesRow.plainKeys==Tryz.prog.plainKeys)=true:=s_
def aJM:joinedFacts Tryz.prog 11 Tryz.f11 Rows.authCirclesSpec Rows.authCirclesRow=true:=by unfold joinedFacts;rw[Tryz.laidOut,aKS,aM8,aM9,aMa,aMb,aMc,aMd,aMe,aIT,aO4];kernel_rfl
set_option maxRecDepth 100000 in
def aK1(os:Os)(c:os.Started)(H:Type)(enc:TypeId×Value->H):
 ReturnsInHanded {} Tryz.checked os 11 .any (λw a=>(Rows.authCirclesSpec.pre enc Tryz.prog Tryz.f11 [] false w a/\laidMetH Tryz.prog G4 w)/\sizedMet enc Tryz.prog Tryz.f11 (OpenSpec.ofChange Rows.authCirclesSpec) false w a)
  (Rows.authCirclesSpec.post enc Tryz.prog Tryz.f11 false true false false):=by
 refine returnsInHanded_of_change_and (C:=Tryz.checked) (X:=λw _=>laidMetH Tryz.prog G4 w) (λ_ _ _ u h=>h.of_heap u) Tryz.own c s_ Tryz.func11
  (ChangeSpec.witness_shaped (enc:=enc) (C:=Tryz.checked) (os:=os) (X:=λw _=>laidMetH Tryz.prog G4 w) false (World.doorLaid Tryz.prog 400 os) #[.int .i64 0,.int .i64 0,.bool false] 8 rfl (Vn os _) s_ s_ s_ (aEE os _)) ?_
 intro W e a ds E f d n _ _ z _;have b:∀(j:Nat) t v,Tryz.f11.params[j]?=some t->a[j]?=some v->Value.okWide Tryz.prog W .any e t v:=d;have g:=n;obtain⟨p,q,i,y,rfl,x,s⟩:=n;have o:DataW.TrodAll enc Tryz.prog W 0 (λ_=>true) true Tryz.f11.params.toList a.toList ds p:=i;rw[Tryz.params11]at o b;obtain⟨v0,v1,v2,F,d1,d2,D,B,A,rfl,rfl,rfl,h0,h1,h2⟩:=trodAll_three o;obtain⟨rfl,rfl⟩:=trodVars_none y;obtain⟨l,rfl,rfl,rfl,w0⟩:=open_int Tryz.underlying3 (b 0 3 v0 rfl rfl) h0;obtain⟨k,rfl,rfl,rfl,w1⟩:=open_int Tryz.underlying3 (b 1 3 v1 rfl rfl) h1;obtain⟨r,rfl,rfl,rfl⟩:=open_bool Tryz.underlying4 (b 2 4 v2 rfl rfl) h2;refine aBm (φ:=λ_=>undef) (avs:=[iv l,iv k,.v (.bool r)]) Tryz.laidOut g rfl rfl ?_ s_ Tryz.underlying4 (enters_of Tryz.func11 s_ rfl _ _) (aGk z) (aK5 aIJ aKK l k (wfI w0) (wfI w1) r) ?_;rw[Tryz.params11];intro t m;simp only[cS,pP,or_false]at m;rcases m with rfl|rfl|rfl<;>exact⟨s_,of_decide_eq_true s_⟩;simp only[cC];exact⟨_,_,rfl,by simp only[Rp],_,_,rfl,by simp only[Rp],_,_,rfl,by simp only[Rp],rfl⟩
def aLJ:Rows.AuthCirclesSaid :=
 OpenClaim.holds_of_wide 11 Tryz.f11 rfl rfl rfl rfl rfl rfl rfl ⟨rfl,rfl,rfl,rfl,rfl⟩ rfl rfl rfl rfl rfl s_ Tryz.func11 aJM
  (of_decide_eq_true s_) y_
  (λc a H b _=>aK1 c a H b)
def aMf:false=Rows.authCirclesRow.goesBy Tryz.prog:=s_
theorem circles_holds:Rows.AuthCirclesCardSaid :=
 Claim7.holds_tied_plain_at .later [] [.funcs,.data] true (true, "e278b99b6cbde8b1fc06b4767408f574c9e29fc80c523951a4f1542dace31e79") false
  aLJ (λ_ h=>by cases h) s_ (λ_ h=>by cases h) authCircles_row_tie rfl ⟨rfl,rfl⟩ aKT rfl
  (λf e d a=>by
   obtain rfl:f=11:=Option.some.inj ((s_:Tryz.prog.funcNamed "huddle/huddlelaw16.AuthCircles" = some 11).symm.trans d) |>.symm;obtain rfl:e=Tryz.f11:=(Option.some.inj (Tryz.func11.symm.trans a)).symm
   exact⟨aIU,λj t b=>by
    rw[Tryz.params11]at b;have c:t∈[3,4]:=ka
    exact aGs c⟩)
  aMf
end Go.Proofs.YtdichbeaekjibaaGreatDoor
