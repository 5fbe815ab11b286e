/- ReconMeets: behind a Meet both graphs have all that either had, each got what it lacked, and they meet again for nothing: proved whatever the input; the one package-level variable on the road is tied to the program's text. -/
import Derived.Test.YtfbnbkidnmhhoaaGreatDoorLib25
set_option linter.all false
namespace Go.Proofs.YtfbnbkidnmhhoaaGreatDoor
open Go Go.RowKit Go.WideShapes Go.ChangeShapes Go.ChangeAt Hud
def aVR:(Rows.reconMeetsRow.inPlace==Tryz.prog.inPlace 7)=true:=r_
def aVS:(Rows.reconMeetsRow.unfollowed==Tryz.prog.unfollowed 7)=true:=r_
def aVT:(Rows.reconMeetsRow.recurses==Tryz.prog.recurses 7)=true:=r_
def aVU:(Rows.reconMeetsRow.named==Tryz.prog.varsNamed 7)=true:=r_
def aVV:(Rows.reconMeetsRow.lifted==Tryz.prog.liftsFinal)=true:=r_
def aVW:(Tryz.prog.make==some Rows.reconMeetsRow.make)=true:=r_
def aVX:(Rows.reconMeetsRow.plainKeys==Tryz.prog.plainKeys)=true:=r_
def aS5:joinedFacts Tryz.prog 7 Tryz.f7 Rows.reconMeetsSpec Rows.reconMeetsRow=true:=by unfold joinedFacts;rw[Tryz.laidOut,aKS,aVR,aVS,aVT,aVU,aVV,aVW,aVX,aIT,aO4];kernel_rfl
set_option maxRecDepth 100000 in
def aS6(os:Os)(c:os.Started)(H:Type)(enc:TypeId×Value->H):
 ReturnsInHanded {} Tryz.checked os 7 .any (λw a=>(Rows.reconMeetsSpec.pre enc Tryz.prog Tryz.f7 [] false w a/\laidMetH Tryz.prog G4 w)/\sizedMet enc Tryz.prog Tryz.f7 (OpenSpec.ofChange Rows.reconMeetsSpec) false w a)
  (Rows.reconMeetsSpec.post enc Tryz.prog Tryz.f7 false true false false):=by
 refine returnsInHanded_of_change_and (C:=Tryz.checked) (X:=λw _=>laidMetH Tryz.prog G4 w) (λ_ _ _ G h=>h.of_heap G) Tryz.own c r_ Tryz.func7
  (ChangeSpec.witness_shaped (enc:=enc) (C:=Tryz.checked) (os:=os) (X:=λw _=>laidMetH Tryz.prog G4 w) false (World.doorLaid Tryz.prog 400 os) #[.slice none 0 0,.slice none 0 0,.slice none 0 0] 8 rfl (Vn os _) r_ r_ r_ (aEE os _)) ?_
 intro W e a ds Q f d D _ _ K _;have b:∀(j:Nat) t v,Tryz.f7.params[j]?=some t->a[j]?=some v->Value.okWide Tryz.prog W .any e t v:=d;have u:=D;obtain⟨p,q,x,J,rfl,I,F⟩:=D;have hA:DataW.TrodAll enc Tryz.prog W 0 (λ_=>true) true Tryz.f7.params.toList a.toList ds p:=x;rw[Tryz.params7]at hA b;obtain⟨v0,E,v2,T,S,R,P,O,N,rfl,rfl,rfl,M,L,h2⟩:=trodAll_three hA;obtain⟨rfl,rfl⟩:=trodVars_none J;obtain⟨A,s,n,k⟩:=Zc (b 0 23 v0 rfl rfl) M;obtain⟨z,r,m,i⟩:=Zc (b 1 23 E rfl rfl) L;obtain⟨y,o,l,g⟩:=Zc (b 2 23 v2 rfl rfl) h2;refine aBm (φ:=λ_=>undef) (avs:=[rG A,rG z,rG y]) Tryz.laidOut u rfl rfl ?_ r_ Tryz.underlying4 (enters_of Tryz.func7 r_ rfl _ _) (aGk K) (aWY aRi aU0 A z y n s m r l o) ?_;rw[Tryz.params7];intro t B;simp only[cS,pP,or_false]at B;rcases B with rfl|rfl|rfl<;>exact⟨r_,of_decide_eq_true r_⟩;simp only[kR];exact⟨_,_,rfl,k,_,_,rfl,i,_,_,rfl,g,rfl⟩
def aTd:Rows.ReconMeetsSaid :=
 OpenClaim.holds_of_wide 7 Tryz.f7 rfl rfl rfl rfl rfl rfl rfl ⟨rfl,rfl,rfl,rfl,rfl⟩ rfl rfl rfl rfl rfl r_ Tryz.func7 aS5
  (of_decide_eq_true r_) D_
  (λc a H b _=>aS6 c a H b)
def aVY:false=Rows.reconMeetsRow.goesBy Tryz.prog:=r_
theorem meets_holds:Rows.ReconMeetsCardSaid :=
 Claim7.holds_tied_plain_at .later [] [.data] true (true, "427766fe125cc6b9d7714f8bc96132ffbb6f2fb923eeede660d1a1ecfcbceb1c") false
  aTd (λ_ h=>by cases h) r_ (λ_ h=>by cases h) reconMeets_row_tie rfl ⟨rfl,rfl⟩ aKT rfl
  (λf g d a=>by
   obtain rfl:f=7:=Option.some.inj ((r_:Tryz.prog.funcNamed "huddle/huddlelaw30.ReconMeets" = some 7).symm.trans d) |>.symm;obtain rfl:g=Tryz.f7:=(Option.some.inj (Tryz.func7.symm.trans a)).symm
   exact⟨aIU,λj t b=>by
    rw[Tryz.params7]at b;have c:t∈[23,23,23]:=by simpa using Array.mem_of_getElem? b
    have e:∀u∈([23,23,23]:List TypeId),u∈([3,22,23,46]:List TypeId):=s_
    exact aGs (e t c)⟩)
  aVY
end Go.Proofs.YtfbnbkidnmhhoaaGreatDoor
