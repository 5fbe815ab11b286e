/- TalkRefs: names of chunks rise, each once, each is one of a message that is not erased, and all of these are there: proved whatever the input; the two package-level variables on the road are tied to the program's text. -/
import Derived.Test.YtlhonkjgkfdnmaaGreatDoorLib41
import Derived.Test.YtlhonkjgkfdnmaaGreatDoorLib42
set_option linter.all false
namespace Go.Proofs.YtlhonkjgkfdnmaaGreatDoor
open Go Go.RowKit Go.WideShapes Go.ChangeShapes Go.ChangeAt Hud
def Vn(os:Os)(args:Array Value):((World.doorLaid Tryz.prog 400 os).forCall (λ_ _=>0) ⟨#[],args,[]⟩).Shaped Tryz.prog:=World.shaped_of_RefB k_ k_
def aKS:mapsRowed Tryz.prog=true:=k_
def aIT:Tryz.prog.stopsHeard=true:=k_
def aO4:Tryz.prog.mayEnter=true:=k_
def aKT:Tryz.prog.mainIs=some (true, "b2ce23ef5bba4d1007c86cda1094af1b95a3a62d882fdcbeec2d9dfce993f3b1".toList):=k_
def aIU:false=Tryz.prog.looks []:=k_
def aIV:([22].all λu=>!Tryz.prog.wantsStandIn u)=true:=k_
def aGs{t:TypeId}(h:t∈[22]):Tryz.prog.wantsStandIn t=false:=by simpa using oD.1 aIV t h
def aPG:(Rows.talkRefsRow.inPlace==Tryz.prog.inPlace 10)=true:=k_
def aPH:(Rows.talkRefsRow.unfollowed==Tryz.prog.unfollowed 10)=true:=k_
def aPI:(Rows.talkRefsRow.recurses==Tryz.prog.recurses 10)=true:=k_
def aPJ:(Rows.talkRefsRow.named==Tryz.prog.varsNamed 10)=true:=k_
def aPK:(Rows.talkRefsRow.lifted==Tryz.prog.liftsFinal)=true:=k_
def aPL:(Tryz.prog.make==some Rows.talkRefsRow.make)=true:=k_
def aPM:(Rows.talkRefsRow.plainKeys==Tryz.prog.plainKeys)=true:=k_
def aN6:joinedFacts Tryz.prog 10 Tryz.f10 Rows.talkRefsSpec Rows.talkRefsRow=true:=by unfold joinedFacts;rw[Tryz.laidOut,aKS,aPG,aPH,aPI,aPJ,aPK,aPL,aPM,aIT,aO4];kernel_rfl
set_option maxRecDepth 100000 in
def aN7(os:Os)(b:os.Started)(H:Type)(enc:TypeId×Value->H):
 ReturnsInHanded {} Tryz.checked os 10 .any (λw a=>(Rows.talkRefsSpec.pre enc Tryz.prog Tryz.f10 [] false w a/\laidMetH Tryz.prog G4 w)/\sizedMet enc Tryz.prog Tryz.f10 (OpenSpec.ofChange Rows.talkRefsSpec) false w a)
  (Rows.talkRefsSpec.post enc Tryz.prog Tryz.f10 false true false false):=by
 refine returnsInHanded_of_change_and (C:=Tryz.checked) (X:=λw _=>laidMetH Tryz.prog G4 w) (λ_ _ _ D h=>h.of_heap D) Tryz.own b k_ Tryz.func10
  (ChangeSpec.witness_shaped (enc:=enc) (C:=Tryz.checked) (os:=os) (X:=λw _=>laidMetH Tryz.prog G4 w) false (World.doorLaid Tryz.prog 400 os) #[.slice none 0 0,.slice none 0 0] 8 rfl (Vn os _) k_ k_ k_ (aEE os _)) ?_
 intro W e a ds K f d y _ _ G _;have c:∀(j:Nat) t v,Tryz.f10.params[j]?=some t->a[j]?=some v->Value.okWide Tryz.prog W .any e t v:=d;have o:=y;obtain⟨p,q,r,F,rfl,E,B⟩:=y;have z:DataW.TrodAll enc Tryz.prog W 0 (λ_=>true) true Tryz.f10.params.toList a.toList ds p:=r;rw[Tryz.params10]at z c;obtain⟨v0,A,M,L,J,I,rfl,rfl,rfl,h0,h1⟩:=trodAll_two z;obtain⟨rfl,rfl⟩:=trodVars_none F;obtain⟨u,n,l,i⟩:=Zc (c 0 22 v0 rfl rfl) h0;obtain⟨s,m,k,g⟩:=Zc (c 1 22 A rfl rfl) h1;refine aBm (φ:=λ_=>undef) (avs:=[rG u,rG s]) Tryz.laidOut o rfl rfl ?_ k_ Tryz.underlying4 (enters_of Tryz.func10 k_ rfl _ _) (aGk G) (aNR aIJ aKK u s l n k m) ?_;rw[Tryz.params10];intro t x;simp only[cS,pP,or_false]at x;rcases x with rfl|rfl<;>exact⟨k_,of_decide_eq_true k_⟩;simp only[cC];exact⟨_,_,rfl,i,_,_,rfl,g,rfl⟩
def aOz:Rows.TalkRefsSaid :=
 OpenClaim.holds_of_wide 10 Tryz.f10 rfl rfl rfl rfl rfl rfl rfl ⟨rfl,rfl,rfl,rfl,rfl⟩ rfl rfl rfl rfl rfl k_ Tryz.func10 aN6
  (of_decide_eq_true k_) H_
  (λc a H b _=>aN7 c a H b)
def aNP{P:Program}(h:P.funcs.any Func.goes=false)(c:OpenClaim):false=c.goesBy P:=by
 have h2:∀g:Nat,(P.funcs[g]?).any Func.goes=false:=λg=>by
  cases e:P.funcs[g]? with
  |none=>rfl|some b=>
   obtain⟨a,rfl⟩:=aGI.1 e;simpa using Array.any_eq_false.1 h g a
 have h1:P.goes=λ_=>false:=funext λf=>by simp[Program.goes,h,h2]
 unfold OpenClaim.goesBy Program.goesAt Program.goesFrom;rw[h1];cases P.funcNamed c.func<;>cases c.start<;>simp
def aPN:false=Rows.talkRefsRow.goesBy Tryz.prog:=aNP k_ _
theorem refs_holds:Rows.TalkRefsCardSaid :=
 Claim7.holds_tied_plain_at .later [] [.funcs,.data] true (true, "b2ce23ef5bba4d1007c86cda1094af1b95a3a62d882fdcbeec2d9dfce993f3b1") false
  aOz (λ_ h=>by cases h) k_ (λ_ h=>by cases h) talkRefs_row_tie rfl ⟨rfl,rfl⟩ aKT rfl
  (λf e d a=>by
   obtain rfl:f=10:=Option.some.inj ((k_:Tryz.prog.funcNamed "huddle/huddlelaw17.TalkRefs" = some 10).symm.trans d) |>.symm;obtain rfl:e=Tryz.f10:=(Option.some.inj (Tryz.func10.symm.trans a)).symm
   exact⟨aIU,λj t b=>by
    rw[Tryz.params10]at b;have c:t∈[22]:=by simpa using Array.mem_of_getElem? b
    exact aGs c⟩)
  aPN
end Go.Proofs.YtlhonkjgkfdnmaaGreatDoor
