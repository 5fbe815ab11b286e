/- TalkRow: the row of a closed list is nothing, and what else the graph has neither; a message that is ahead of another one stands ahead of it: proved whatever the input; the two package-level variables on the road are tied to the program's text. -/
import Derived.Test.YtlhonkjgkfdnmaaGreatDoorLib40
import Derived.Test.YtlhonkjgkfdnmaaGreatDoorLib43
set_option linter.all false
namespace Go.Proofs.YtlhonkjgkfdnmaaGreatDoor
open Go Go.RowKit Go.WideShapes Go.ChangeShapes Go.ChangeAt Hud
def Vn(os:Os)(args:Array Value):((World.doorLaid Tryz.prog 400 os).forCall (λ_ _=>0) ⟨#[],args,[]⟩).Shaped Tryz.prog:=World.shaped_of_RefB k_ k_
def aKS:mapsRowed Tryz.prog=true:=k_
def aIT:Tryz.prog.stopsHeard=true:=k_
def aO4:Tryz.prog.mayEnter=true:=k_
def aKT:Tryz.prog.mainIs=some (true, "b2ce23ef5bba4d1007c86cda1094af1b95a3a62d882fdcbeec2d9dfce993f3b1".toList):=k_
def aIU:false=Tryz.prog.looks []:=k_
def aIV:([22,3].all λu=>!Tryz.prog.wantsStandIn u)=true:=k_
def aGs{t:TypeId}(h:t∈[22,3]):Tryz.prog.wantsStandIn t=false:=by simpa using oD.1 aIV t h
def aQq:(Rows.talkRowRow.inPlace==Tryz.prog.inPlace 5)=true:=k_
def aQr:(Rows.talkRowRow.unfollowed==Tryz.prog.unfollowed 5)=true:=k_
def aQs:(Rows.talkRowRow.recurses==Tryz.prog.recurses 5)=true:=k_
def aQt:(Rows.talkRowRow.named==Tryz.prog.varsNamed 5)=true:=k_
def aQu:(Rows.talkRowRow.lifted==Tryz.prog.liftsFinal)=true:=k_
def aQv:(Tryz.prog.make==some Rows.talkRowRow.make)=true:=k_
def aQw:(Rows.talkRowRow.plainKeys==Tryz.prog.plainKeys)=true:=k_
def aOg:joinedFacts Tryz.prog 5 Tryz.f5 Rows.talkRowSpec Rows.talkRowRow=true:=by unfold joinedFacts;rw[Tryz.laidOut,aKS,aQq,aQr,aQs,aQt,aQu,aQv,aQw,aIT,aO4];kernel_rfl
set_option maxRecDepth 100000 in
def aOh(os:Os)(c:os.Started)(H:Type)(enc:TypeId×Value->H):
 ReturnsInHanded {} Tryz.checked os 5 .any (λw a=>(Rows.talkRowSpec.pre enc Tryz.prog Tryz.f5 [] false w a/\laidMetH Tryz.prog G4 w)/\sizedMet enc Tryz.prog Tryz.f5 (OpenSpec.ofChange Rows.talkRowSpec) false w a)
  (Rows.talkRowSpec.post enc Tryz.prog Tryz.f5 false true false false):=by
 refine returnsInHanded_of_change_and (C:=Tryz.checked) (X:=λw _=>laidMetH Tryz.prog G4 w) (λ_ _ _ D h=>h.of_heap D) Tryz.own c k_ Tryz.func5
  (ChangeSpec.witness_shaped (enc:=enc) (C:=Tryz.checked) (os:=os) (X:=λw _=>laidMetH Tryz.prog G4 w) false (World.doorLaid Tryz.prog 400 os) #[.slice none 0 0,.slice none 0 0,.int .i64 0] 8 rfl (Vn os _) k_ k_ k_ (aEE os _)) ?_
 intro W e a ds L f d z _ _ G _;have b:∀(j:Nat) t v,Tryz.f5.params[j]?=some t->a[j]?=some v->Value.okWide Tryz.prog W .any e t v:=d;have o:=z;obtain⟨p,q,r,F,rfl,E,B⟩:=z;have A:DataW.TrodAll enc Tryz.prog W 0 (λ_=>true) true Tryz.f5.params.toList a.toList ds p:=r;rw[Tryz.params5]at A b;obtain⟨v0,v1,v2,O,N,M,K,J,I,rfl,rfl,rfl,h0,h1,h2⟩:=trodAll_three A;obtain⟨rfl,rfl⟩:=trodVars_none F;obtain⟨x,n,l,i⟩:=Zc (b 0 22 v0 rfl rfl) h0;obtain⟨u,m,k,g⟩:=Zc (b 1 22 v1 rfl rfl) h1;obtain⟨s,rfl,rfl,rfl,w2⟩:=open_int Tryz.underlying3 (b 2 3 v2 rfl rfl) h2;refine aBm (φ:=λ_=>undef) (avs:=[rG x,rG u,iv s]) Tryz.laidOut o rfl rfl ?_ k_ Tryz.underlying4 (enters_of Tryz.func5 k_ rfl _ _) (aGk G) (aOH aIJ aKK x u s l n k m (wfI w2)) ?_;rw[Tryz.params5];intro t y;simp only[cS,pP,or_false]at y;rcases y with rfl|rfl|rfl<;>exact⟨k_,of_decide_eq_true k_⟩;simp only[cC];exact⟨_,_,rfl,i,_,_,rfl,g,_,_,rfl,by simp only[Rp],rfl⟩
def aPj:Rows.TalkRowSaid :=
 OpenClaim.holds_of_wide 5 Tryz.f5 rfl rfl rfl rfl rfl rfl rfl ⟨rfl,rfl,rfl,rfl,rfl⟩ rfl rfl rfl rfl rfl k_ Tryz.func5 aOg
  (of_decide_eq_true k_) A_
  (λc a H b _=>aOh c a H b)
def aLY{P:Program}(h:P.funcs.any Func.goes=false)(c:OpenClaim):false=c.goesBy P:=by
 have h2:∀g:Nat,(P.funcs[g]?).any Func.goes=false:=λg=>by
  cases e:P.funcs[g]? with
  |none=>rfl|some b=>
   obtain⟨a,rfl⟩:=aGI.1 e;simpa using Array.any_eq_false.1 h g a
 have h1:P.goes=λ_=>false:=funext λf=>by simp[Program.goes,h,h2]
 unfold OpenClaim.goesBy Program.goesAt Program.goesFrom;rw[h1];cases P.funcNamed c.func<;>cases c.start<;>simp
def aQx:false=Rows.talkRowRow.goesBy Tryz.prog:=aLY k_ _
theorem row_holds:Rows.TalkRowCardSaid :=
 Claim7.holds_tied_plain_at .later [] [.funcs,.data] true (true, "b2ce23ef5bba4d1007c86cda1094af1b95a3a62d882fdcbeec2d9dfce993f3b1") false
  aPj (λ_ h=>by cases h) k_ (λ_ h=>by cases h) talkRow_row_tie rfl ⟨rfl,rfl⟩ aKT rfl
  (λf e d a=>by
   obtain rfl:f=5:=Option.some.inj ((k_:Tryz.prog.funcNamed "huddle/huddlelaw17.TalkRow" = some 5).symm.trans d) |>.symm;obtain rfl:e=Tryz.f5:=(Option.some.inj (Tryz.func5.symm.trans a)).symm
   exact⟨aIU,λj t b=>by
    rw[Tryz.params5]at b;have c:t∈[22,3]:=s8
    exact aGs c⟩)
  aQx
end Go.Proofs.YtlhonkjgkfdnmaaGreatDoor
