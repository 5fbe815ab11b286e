/- TalkErases: an Erase that counts erases its message, and nothing else: proved whatever the input; the two package-level variables on the road are tied to the program's text. -/
import Derived.Test.YtlhonkjgkfdnmaaGreatDoorLib40
import Derived.Test.YtlhonkjgkfdnmaaGreatDoorLib43
set_option linter.all false
namespace Go.Proofs.YtlhonkjgkfdnmaaGreatDoor
open Go Go.RowKit Go.WideShapes Go.ChangeShapes Go.ChangeAt Hud
def Vn(os:Os)(args:Array Value):((World.doorLaid Tryz.prog 400 os).forCall (λ_ _=>0) ⟨#[],args,[]⟩).Shaped Tryz.prog:=World.shaped_of_RefB k_ k_
def aKS:mapsRowed Tryz.prog=true:=k_
def aIT:Tryz.prog.stopsHeard=true:=k_
def aO4:Tryz.prog.mayEnter=true:=k_
def aKT:Tryz.prog.mainIs=some (true, "b2ce23ef5bba4d1007c86cda1094af1b95a3a62d882fdcbeec2d9dfce993f3b1".toList):=k_
def aIU:false=Tryz.prog.looks []:=k_
def aIV:([22,3].all λu=>!Tryz.prog.wantsStandIn u)=true:=k_
def aGs{t:TypeId}(h:t∈[22,3]):Tryz.prog.wantsStandIn t=false:=by simpa using oD.1 aIV t h
def aOp:(Rows.talkErasesRow.inPlace==Tryz.prog.inPlace 7)=true:=k_
def aOq:(Rows.talkErasesRow.unfollowed==Tryz.prog.unfollowed 7)=true:=k_
def aOr:(Rows.talkErasesRow.recurses==Tryz.prog.recurses 7)=true:=k_
def aOs:(Rows.talkErasesRow.named==Tryz.prog.varsNamed 7)=true:=k_
def aOt:(Rows.talkErasesRow.lifted==Tryz.prog.liftsFinal)=true:=k_
def aOu:(Tryz.prog.make==some Rows.talkErasesRow.make)=true:=k_
def aOv:(Rows.talkErasesRow.plainKeys==Tryz.prog.plainKeys)=true:=k_
def aM1:joinedFacts Tryz.prog 7 Tryz.f7 Rows.talkErasesSpec Rows.talkErasesRow=true:=by unfold joinedFacts;rw[Tryz.laidOut,aKS,aOp,aOq,aOr,aOs,aOt,aOu,aOv,aIT,aO4];kernel_rfl
set_option maxRecDepth 100000 in
def aM2(os:Os)(c:os.Started)(H:Type)(enc:TypeId×Value->H):
 ReturnsInHanded {} Tryz.checked os 7 .any (λw a=>(Rows.talkErasesSpec.pre enc Tryz.prog Tryz.f7 [] false w a/\laidMetH Tryz.prog G4 w)/\sizedMet enc Tryz.prog Tryz.f7 (OpenSpec.ofChange Rows.talkErasesSpec) false w a)
  (Rows.talkErasesSpec.post enc Tryz.prog Tryz.f7 false true false false):=by
 refine returnsInHanded_of_change_and (C:=Tryz.checked) (X:=λw _=>laidMetH Tryz.prog G4 w) (λ_ _ _ A h=>h.of_heap A) Tryz.own c k_ Tryz.func7
  (ChangeSpec.witness_shaped (enc:=enc) (C:=Tryz.checked) (os:=os) (X:=λw _=>laidMetH Tryz.prog G4 w) false (World.doorLaid Tryz.prog 400 os) #[.slice none 0 0,.int .i64 0,.int .i64 0] 8 rfl (Vn os _) k_ k_ k_ (aEE os _)) ?_
 intro W e a ds J f d u _ _ E _;have b:∀(j:Nat) t v,Tryz.f7.params[j]?=some t->a[j]?=some v->Value.okWide Tryz.prog W .any e t v:=d;have l:=u;obtain⟨p,q,m,D,rfl,B,z⟩:=u;have x:DataW.TrodAll enc Tryz.prog W 0 (λ_=>true) true Tryz.f7.params.toList a.toList ds p:=m;rw[Tryz.params7]at x b;obtain⟨v0,y,v2,M,L,K,I,G,F,rfl,rfl,rfl,h0,h1,h2⟩:=trodAll_three x;obtain⟨rfl,rfl⟩:=trodVars_none D;obtain⟨r,k,i,g⟩:=Zc (b 0 22 v0 rfl rfl) h0;obtain⟨o,rfl,rfl,rfl,w1⟩:=open_int Tryz.underlying3 (b 1 3 y rfl rfl) h1;obtain⟨n,rfl,rfl,rfl,w2⟩:=open_int Tryz.underlying3 (b 2 3 v2 rfl rfl) h2;refine aBm (φ:=λ_=>undef) (avs:=[rG r,iv o,iv n]) Tryz.laidOut l rfl rfl ?_ k_ Tryz.underlying4 (enters_of Tryz.func7 k_ rfl _ _) (aGk E) (aMr aIJ aKK r o n i k (wfI w1) (wfI w2)) ?_;rw[Tryz.params7];intro t s;simp only[cS,pP,or_false]at s;rcases s with rfl|rfl|rfl<;>exact⟨k_,of_decide_eq_true k_⟩;simp only[cC];exact⟨_,_,rfl,g,_,_,rfl,by simp only[Rp],_,_,rfl,by simp only[Rp],rfl⟩
def aN4:Rows.TalkErasesSaid :=
 OpenClaim.holds_of_wide 7 Tryz.f7 rfl rfl rfl rfl rfl rfl rfl ⟨rfl,rfl,rfl,rfl,rfl⟩ rfl rfl rfl rfl rfl k_ Tryz.func7 aM1
  (of_decide_eq_true k_) H_
  (λc a H b _=>aM2 c a H b)
def aNP{P:Program}(h:P.funcs.any Func.goes=false)(c:OpenClaim):false=c.goesBy P:=by
 have h2:∀g:Nat,(P.funcs[g]?).any Func.goes=false:=λg=>by
  cases e:P.funcs[g]? with
  |none=>rfl|some b=>
   obtain⟨a,rfl⟩:=aGI.1 e;simpa using Array.any_eq_false.1 h g a
 have h1:P.goes=λ_=>false:=funext λf=>by simp[Program.goes,h,h2]
 unfold OpenClaim.goesBy Program.goesAt Program.goesFrom;rw[h1];cases P.funcNamed c.func<;>cases c.start<;>simp
def aOw:false=Rows.talkErasesRow.goesBy Tryz.prog:=aNP k_ _
theorem erases_holds:Rows.TalkErasesCardSaid :=
 Claim7.holds_tied_plain_at .later [] [.funcs,.data] true (true, "b2ce23ef5bba4d1007c86cda1094af1b95a3a62d882fdcbeec2d9dfce993f3b1") false
  aN4 (λ_ h=>by cases h) k_ (λ_ h=>by cases h) talkErases_row_tie rfl ⟨rfl,rfl⟩ aKT rfl
  (λf e d a=>by
   obtain rfl:f=7:=Option.some.inj ((k_:Tryz.prog.funcNamed "huddle/huddlelaw17.TalkErases" = some 7).symm.trans d) |>.symm;obtain rfl:e=Tryz.f7:=(Option.some.inj (Tryz.func7.symm.trans a)).symm
   exact⟨aIU,λj t b=>by
    rw[Tryz.params7]at b;have c:t∈[22,3]:=by simpa using Array.mem_of_getElem? b
    exact aGs c⟩)
  aOw
end Go.Proofs.YtlhonkjgkfdnmaaGreatDoor
