/- AuthRow: what counts hangs on nothing but the operations: proved whatever the input; the two package-level variables on the road are tied to the program's text. -/
import Derived.Test.YtdichbeaekjibaaGreatDoorLib30
set_option linter.all false
namespace Go.Proofs.YtdichbeaekjibaaGreatDoor
open Go Go.RowKit Go.WideShapes Go.ChangeShapes Go.ChangeAt Hud
def Vn(os:Os)(args:Array Value):((World.doorLaid Tryz.prog 400 os).forCall (λ_ _=>0) ⟨#[],args,[]⟩).Shaped Tryz.prog:=World.shaped_of_RefB s_ s_
def aKS:mapsRowed Tryz.prog=true:=s_
def aIT:Tryz.prog.stopsHeard=true:=s_
def aO4:Tryz.prog.mayEnter=true:=s_
def aKT:Tryz.prog.mainIs=some (true, "e278b99b6cbde8b1fc06b4767408f574c9e29fc80c523951a4f1542dace31e79".toList):=s_
def aIU:false=Tryz.prog.looks []:=s_
def aIV:([22].all λu=>!Tryz.prog.wantsStandIn u)=true:=s_
def aGs{t:TypeId}(h:t∈[22]):Tryz.prog.wantsStandIn t=false:=by simpa using oD.1 aIV t h
def aLP:(Rows.authRowRow.inPlace==Tryz.prog.inPlace 6)=true:=s_
def aLQ:(Rows.authRowRow.unfollowed==Tryz.prog.unfollowed 6)=true:=s_
def aLR:(Rows.authRowRow.recurses==Tryz.prog.recurses 6)=true:=s_
def aLS:(Rows.authRowRow.named==Tryz.prog.varsNamed 6)=true:=s_
def aLT:(Rows.authRowRow.lifted==Tryz.prog.liftsFinal)=true:=s_
def aLU:(Tryz.prog.make==some Rows.authRowRow.make)=true:=s_
def aLV:(Rows.authRowRow.plainKeys==Tryz.prog.plainKeys)=true:=s_
def aHe:joinedFacts Tryz.prog 6 Tryz.f6 Rows.authRowSpec Rows.authRowRow=true:=by unfold joinedFacts;rw[Tryz.laidOut,aKS,aLP,aLQ,aLR,aLS,aLT,aLU,aLV,aIT,aO4];kernel_rfl
set_option maxRecDepth 100000 in
def aHf(os:Os)(b:os.Started)(H:Type)(enc:TypeId×Value->H):
 ReturnsInHanded {} Tryz.checked os 6 .any (λw a=>(Rows.authRowSpec.pre enc Tryz.prog Tryz.f6 [] false w a/\laidMetH Tryz.prog G4 w)/\sizedMet enc Tryz.prog Tryz.f6 (OpenSpec.ofChange Rows.authRowSpec) false w a)
  (Rows.authRowSpec.post enc Tryz.prog Tryz.f6 false true false false):=by
 refine returnsInHanded_of_change_and (C:=Tryz.checked) (X:=λw _=>laidMetH Tryz.prog G4 w) (λ_ _ _ B h=>h.of_heap B) Tryz.own b s_ Tryz.func6
  (ChangeSpec.witness_shaped (enc:=enc) (C:=Tryz.checked) (os:=os) (X:=λw _=>laidMetH Tryz.prog G4 w) false (World.doorLaid Tryz.prog 400 os) #[.slice none 0 0,.slice none 0 0] 8 rfl (Vn os _) s_ s_ s_ (aEE os _)) ?_
 intro W e a ds J f d y _ _ F _;have c:∀(j:Nat) t v,Tryz.f6.params[j]?=some t->a[j]?=some v->Value.okWide Tryz.prog W .any e t v:=d;have o:=y;obtain⟨p,q,r,E,rfl,D,A⟩:=y;have z:DataW.TrodAll enc Tryz.prog W 0 (λ_=>true) true Tryz.f6.params.toList a.toList ds p:=r;rw[Tryz.params6]at z c;obtain⟨v0,v1,K,d1,I,G,rfl,rfl,rfl,h0,h1⟩:=trodAll_two z;obtain⟨rfl,rfl⟩:=trodVars_none E;obtain⟨u,n,l,i⟩:=Zc (c 0 22 v0 rfl rfl) h0;obtain⟨s,m,k,g⟩:=Zc (c 1 22 v1 rfl rfl) h1;refine aBm (φ:=λ_=>undef) (avs:=[rG u,rG s]) Tryz.laidOut o rfl rfl ?_ s_ Tryz.underlying4 (enters_of Tryz.func6 s_ rfl _ _) (aGk F) (aIE aIJ aKK u s l n k m) ?_;rw[Tryz.params6];intro t x;simp only[cS,pP,or_false]at x;rcases x with rfl|rfl<;>exact⟨s_,of_decide_eq_true s_⟩;simp only[cC];exact⟨_,_,rfl,i,_,_,rfl,g,rfl⟩
def aJG:Rows.AuthRowSaid :=
 OpenClaim.holds_of_wide 6 Tryz.f6 rfl rfl rfl rfl rfl rfl rfl ⟨rfl,rfl,rfl,rfl,rfl⟩ rfl rfl rfl rfl rfl s_ Tryz.func6 aHe
  (of_decide_eq_true s_) (by unfold Func.isWrapper;first|(rw[if_pos si];kernel_rfl)|(rw[if_neg si];exact⟨rfl,rfl⟩))
  (λc a H b _=>aHf c a H b)
def aLX:false=Rows.authRowRow.goesBy Tryz.prog:=s_
theorem row_holds:Rows.AuthRowCardSaid :=
 Claim7.holds_tied_plain_at .later [] [.funcs,.data] true (true, "e278b99b6cbde8b1fc06b4767408f574c9e29fc80c523951a4f1542dace31e79") false
  aJG (λ_ h=>by cases h) s_ (λ_ h=>by cases h) authRow_row_tie rfl ⟨rfl,rfl⟩ aKT rfl
  (λf e d a=>by
   obtain rfl:f=6:=Option.some.inj ((s_:Tryz.prog.funcNamed "huddle/huddlelaw16.AuthRow" = some 6).symm.trans d) |>.symm;obtain rfl:e=Tryz.f6:=(Option.some.inj (Tryz.func6.symm.trans a)).symm
   exact⟨aIU,λj t b=>by
    rw[Tryz.params6]at b;have c:t∈[22]:=by simpa using Array.mem_of_getElem? b
    exact aGs c⟩)
  aLX
end Go.Proofs.YtdichbeaekjibaaGreatDoor
