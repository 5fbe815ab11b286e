/- ReconSpreads: of three graphs that meet one behind the other, all have what each had: proved whatever the input; the one package-level variable on the road is tied to the program's text. -/
import Derived.Test.YtfbnbkidnmhhoaaGreatDoorLib26
set_option linter.all false
namespace Go.Proofs.YtfbnbkidnmhhoaaGreatDoor
open Go Go.RowKit Go.WideShapes Go.ChangeShapes Go.ChangeAt Hud
def aTe:(Rows.reconSpreadsRow.inPlace==Tryz.prog.inPlace 8)=true:=r_
def aTf:(Rows.reconSpreadsRow.unfollowed==Tryz.prog.unfollowed 8)=true:=r_
def aTg:(Rows.reconSpreadsRow.recurses==Tryz.prog.recurses 8)=true:=r_
def aTh:(Rows.reconSpreadsRow.named==Tryz.prog.varsNamed 8)=true:=r_
def aTi:(Rows.reconSpreadsRow.lifted==Tryz.prog.liftsFinal)=true:=r_
def aTj:(Tryz.prog.make==some Rows.reconSpreadsRow.make)=true:=r_
def aTk:(Rows.reconSpreadsRow.plainKeys==Tryz.prog.plainKeys)=true:=r_
def aR5:joinedFacts Tryz.prog 8 Tryz.f8 Rows.reconSpreadsSpec Rows.reconSpreadsRow=true:=by unfold joinedFacts;rw[Tryz.laidOut,aKS,aTe,aTf,aTg,aTh,aTi,aTj,aTk,aIT,aO4];kernel_rfl
set_option maxRecDepth 100000 in
def aR6(os:Os)(c:os.Started)(H:Type)(enc:TypeId×Value->H):
 ReturnsInHanded {} Tryz.checked os 8 .any (λw b=>(Rows.reconSpreadsSpec.pre enc Tryz.prog Tryz.f8 [] false w b/\laidMetH Tryz.prog G4 w)/\sizedMet enc Tryz.prog Tryz.f8 (OpenSpec.ofChange Rows.reconSpreadsSpec) false w b)
  (Rows.reconSpreadsSpec.post enc Tryz.prog Tryz.f8 false true false false):=by
 refine returnsInHanded_of_change_and (C:=Tryz.checked) (X:=λw _=>laidMetH Tryz.prog G4 w) (λ_ _ _ M h=>h.of_heap M) Tryz.own c r_ Tryz.func8
  (ChangeSpec.witness_shaped (enc:=enc) (C:=Tryz.checked) (os:=os) (X:=λw _=>laidMetH Tryz.prog G4 w) false (World.doorLaid Tryz.prog 400 os) #[.slice none 0 0,.slice none 0 0,.slice none 0 0,.slice none 0 0] 8 rfl (Vn os _) r_ r_ r_ (aEE os _)) ?_
 intro W e b ds Z f d I _ _ P _;have a:∀(j:Nat) t v,Tryz.f8.params[j]?=some t->b[j]?=some v->Value.okWide Tryz.prog W .any e t v:=d;have z:=I;obtain⟨p,q,A,O,rfl,N,L⟩:=I;have hA:DataW.TrodAll enc Tryz.prog W 0 (λ_=>true) true Tryz.f8.params.toList b.toList ds p:=A;rw[Tryz.params8]at hA a;obtain⟨v0,K,v2,J,d0,d1,d2,d3,Y,V,U,T,rfl,rfl,rfl,S,R,h2,Q⟩:=trodAll_four hA;obtain⟨rfl,rfl⟩:=trodVars_none O;obtain⟨F,y,r,l⟩:=Zc (a 0 23 v0 rfl rfl) S;obtain⟨E,x,o,k⟩:=Zc (a 1 23 K rfl rfl) R;obtain⟨D,u,n,i⟩:=Zc (a 2 23 v2 rfl rfl) h2;obtain⟨B,s,m,g⟩:=Zc (a 3 23 J rfl rfl) Q;refine aBm (φ:=λ_=>undef) (avs:=[rG F,rG E,rG D,rG B]) Tryz.laidOut z rfl rfl ?_ r_ Tryz.underlying4 (enters_of Tryz.func8 r_ rfl _ _) (aGk P) (aUG aRi aU0 F E D B r y o x n u m s) ?_;rw[Tryz.params8];intro t G;simp only[cS,pP,or_false]at G;rcases G with rfl|rfl|rfl|rfl<;>exact⟨r_,of_decide_eq_true r_⟩;simp only[kR];exact⟨_,_,rfl,l,_,_,rfl,k,_,_,rfl,i,_,_,rfl,g,rfl⟩
def aS7:Rows.ReconSpreadsSaid :=
 OpenClaim.holds_of_wide 8 Tryz.f8 rfl rfl rfl rfl rfl rfl rfl ⟨rfl,rfl,rfl,rfl,rfl⟩ rfl rfl rfl rfl rfl r_ Tryz.func8 aR5
  (of_decide_eq_true r_) D_
  (λc a H b _=>aR6 c a H b)
def aTl:false=Rows.reconSpreadsRow.goesBy Tryz.prog:=r_
theorem spreads_holds:Rows.ReconSpreadsCardSaid :=
 Claim7.holds_tied_plain_at .later [] [.data] true (true, "427766fe125cc6b9d7714f8bc96132ffbb6f2fb923eeede660d1a1ecfcbceb1c") false
  aS7 (λ_ h=>by cases h) r_ (λ_ h=>by cases h) reconSpreads_row_tie rfl ⟨rfl,rfl⟩ aKT rfl
  (λf g d a=>by
   obtain rfl:f=8:=Option.some.inj ((r_:Tryz.prog.funcNamed "huddle/huddlelaw30.ReconSpreads" = some 8).symm.trans d) |>.symm;obtain rfl:g=Tryz.f8:=(Option.some.inj (Tryz.func8.symm.trans a)).symm
   exact⟨aIU,λj t b=>by
    rw[Tryz.params8]at b;have c:t∈[23,23,23,23]:=by simpa using Array.mem_of_getElem? b
    have e:∀u∈([23,23,23,23]:List TypeId),u∈([3,22,23,46]:List TypeId):=s_
    exact aGs (e t c)⟩)
  aTl
end Go.Proofs.YtfbnbkidnmhhoaaGreatDoor
