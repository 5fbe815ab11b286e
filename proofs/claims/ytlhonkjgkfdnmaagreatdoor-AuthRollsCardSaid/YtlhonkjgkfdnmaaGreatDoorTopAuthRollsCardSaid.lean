/- AuthRolls: the program's roll of what counts is the one that did the document's Counts, one behind the other: proved whatever the input; the two package-level variables on the road are tied to the program's text. -/
import Derived.Test.YtlhonkjgkfdnmaaGreatDoorLib44
import Derived.Test.YtlhonkjgkfdnmaaGreatDoorLib46
import Derived.Test.YtlhonkjgkfdnmaaGreatDoorLib47
set_option linter.all false
namespace Go.Proofs.YtlhonkjgkfdnmaaGreatDoor
open Go Go.RowKit Go.WideShapes Go.ChangeShapes Go.ChangeAt Hud
def Vn(os:Os)(args:Array Value):((World.doorLaid Tryz.prog 400 os).forCall (λ_ _=>0) ⟨#[],args,[]⟩).Shaped Tryz.prog:=World.shaped_of_RefB g_ g_
def aKS:mapsRowed Tryz.prog=true:=g_
def aIT:Tryz.prog.stopsHeard=true:=g_
def aO4:Tryz.prog.mayEnter=true:=g_
def aKT:Tryz.prog.mainIs=some (true, "b2ce23ef5bba4d1007c86cda1094af1b95a3a62d882fdcbeec2d9dfce993f3b1".toList):=g_
def aIU:false=Tryz.prog.looks []:=g_
def aIV:([22].all λu=>!Tryz.prog.wantsStandIn u)=true:=g_
def aGs{t:TypeId}(h:t∈[22]):Tryz.prog.wantsStandIn t=false:=by simpa using oD.1 aIV t h
def aQv:(Rows.authRollsRow.inPlace==Tryz.prog.inPlace 8)=true:=g_
def aQw:(Rows.authRollsRow.unfollowed==Tryz.prog.unfollowed 8)=true:=g_
def aQx:(Rows.authRollsRow.recurses==Tryz.prog.recurses 8)=true:=g_
def aQy:(Rows.authRollsRow.named==Tryz.prog.varsNamed 8)=true:=g_
def aQz:(Rows.authRollsRow.lifted==Tryz.prog.liftsFinal)=true:=g_
def aQA:(Tryz.prog.make==some Rows.authRollsRow.make)=true:=g_
def aQB:(Rows.authRollsRow.plainKeys==Tryz.prog.plainKeys)=true:=g_
def aOU:joinedFacts Tryz.prog 8 Tryz.f8 Rows.authRollsSpec Rows.authRollsRow=true:=by unfold joinedFacts;rw[Tryz.laidOut,aKS,aQv,aQw,aQx,aQy,aQz,aQA,aQB,aIT,aO4];kernel_rfl
set_option maxRecDepth 100000 in
def aOV(os:Os)(b:os.Started)(H:Type)(enc:TypeId×Value->H):
 ReturnsInHanded {} Tryz.checked os 8 .any (λw a=>(Rows.authRollsSpec.pre enc Tryz.prog Tryz.f8 [] false w a/\laidMetH Tryz.prog G4 w)/\sizedMet enc Tryz.prog Tryz.f8 (OpenSpec.ofChange Rows.authRollsSpec) false w a)
  (Rows.authRollsSpec.post enc Tryz.prog Tryz.f8 false true false false):=by
 refine returnsInHanded_of_change_and (C:=Tryz.checked) (X:=λw _=>laidMetH Tryz.prog G4 w) (λ_ _ _ B h=>h.of_heap B) Tryz.own b g_ Tryz.func8
  (ChangeSpec.witness_shaped (enc:=enc) (C:=Tryz.checked) (os:=os) (X:=λw _=>laidMetH Tryz.prog G4 w) false (World.doorLaid Tryz.prog 400 os) #[.slice none 0 0,.slice none 0 0] 8 rfl (Vn os _) g_ g_ g_ (aEE os _)) ?_
 intro W e a ds J f d y _ _ F _;have c:∀(j:Nat) t v,Tryz.f8.params[j]?=some t->a[j]?=some v->Value.okWide Tryz.prog W .any e t v:=d;have o:=y;obtain⟨p,q,r,E,rfl,D,A⟩:=y;have z:DataW.TrodAll enc Tryz.prog W 0 (λ_=>true) true Tryz.f8.params.toList a.toList ds p:=r;rw[Tryz.params8]at z c;obtain⟨v0,v1,L,K,I,G,rfl,rfl,rfl,h0,h1⟩:=trodAll_two z;obtain⟨rfl,rfl⟩:=trodVars_none E;obtain⟨u,n,l,i⟩:=Zc (c 0 22 v0 rfl rfl) h0;obtain⟨s,m,k,g⟩:=Zc (c 1 22 v1 rfl rfl) h1;refine aBm (φ:=λ_=>undef) (avs:=[rG u,rG s]) Tryz.laidOut o rfl rfl ?_ g_ Tryz.underlying4 (enters_of Tryz.func8 g_ rfl _ _) (aGk F) (aPp aPq aIJ aKK u s l n k m) ?_;rw[Tryz.params8];intro t x;simp only[cS,pP,or_false]at x;rcases x with rfl|rfl<;>exact⟨g_,of_decide_eq_true g_⟩;simp only[cC];exact⟨_,_,rfl,i,_,_,rfl,g,rfl⟩
def aPH:Rows.AuthRollsSaid :=
 OpenClaim.holds_of_wide 8 Tryz.f8 rfl rfl rfl rfl rfl rfl rfl ⟨rfl,rfl,rfl,rfl,rfl⟩ rfl rfl rfl rfl rfl g_ Tryz.func8 aOU
  (of_decide_eq_true g_) (by unfold Func.isWrapper;first|(rw[if_pos kr];kernel_rfl)|(rw[if_neg kr];exact⟨rfl,rfl⟩))
  (λc a H b _=>aOV c a H b)
theorem noGoes {P : Program} (h : P.funcs.any Func.goes = false) (c : OpenClaim) : false = c.goesBy P := by
  have h2 : ∀ g : Nat, (P.funcs[g]?).any Func.goes = false := fun g => by
    cases e : P.funcs[g]? with
    | none => rfl
    | some fn =>
      obtain ⟨hg, rfl⟩ := Array.getElem?_eq_some_iff.1 e
      simpa using Array.any_eq_false.1 h g hg
  have h1 : P.goes = fun _ => false := funext fun f => by
    simp [Program.goes, h, h2]
  unfold OpenClaim.goesBy Program.goesAt Program.goesFrom
  rw [h1]
  cases P.funcNamed c.func <;> cases c.start <;> simp
def aQC:false=Rows.authRollsRow.goesBy Tryz.prog:=noGoes g_ _
theorem rolls_holds:Rows.AuthRollsCardSaid :=
 Claim7.holds_tied_plain_at .later [] [.funcs,.data] true (true, "b2ce23ef5bba4d1007c86cda1094af1b95a3a62d882fdcbeec2d9dfce993f3b1") false
  aPH (λ_ h=>by cases h) g_ (λ_ h=>by cases h) authRolls_row_tie rfl ⟨rfl,rfl⟩ aKT rfl
  (λf e d a=>by
   obtain rfl:f=8:=Option.some.inj ((g_:Tryz.prog.funcNamed "huddle/huddlelaw16.AuthRolls" = some 8).symm.trans d) |>.symm;obtain rfl:e=Tryz.f8:=(Option.some.inj (Tryz.func8.symm.trans a)).symm
   exact⟨aIU,λj t b=>by
    rw[Tryz.params8]at b;have c:t∈[22]:=by simpa using Array.mem_of_getElem? b
    exact aGs c⟩)
  aQC
end Go.Proofs.YtlhonkjgkfdnmaaGreatDoor
