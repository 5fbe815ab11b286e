/- TalkLast: the last ones of so many begin, from the end, those of more: proved whatever the input; the two package-level variables on the road are tied to the program's text. -/
import Derived.Test.YtlhonkjgkfdnmaaGreatDoorLib42
import Derived.Test.YtlhonkjgkfdnmaaGreatDoorLib43
set_option linter.all false
namespace Go.Proofs.YtlhonkjgkfdnmaaGreatDoor
open Go Go.RowKit Go.WideShapes Go.ChangeShapes Go.ChangeAt Hud
def Vn(os:Os)(args:Array Value):((World.doorLaid Tryz.prog 400 os).forCall (λ_ _=>0) ⟨#[],args,[]⟩).Shaped Tryz.prog:=World.shaped_of_RefB a_ a_
def aKS:mapsRowed Tryz.prog=true:=a_
def aIT:Tryz.prog.stopsHeard=true:=a_
def aO4:Tryz.prog.mayEnter=true:=a_
def aKT:Tryz.prog.mainIs=some (true, "b2ce23ef5bba4d1007c86cda1094af1b95a3a62d882fdcbeec2d9dfce993f3b1".toList):=a_
def aIU:false=Tryz.prog.looks []:=a_
def aIV:([22,3].all λu=>!Tryz.prog.wantsStandIn u)=true:=a_
def aGs{t:TypeId}(h:t∈[22,3]):Tryz.prog.wantsStandIn t=false:=by simpa using oD.1 aIV t h
def aNF:(Rows.talkLastRow.inPlace==Tryz.prog.inPlace 3)=true:=a_
def aNG:(Rows.talkLastRow.unfollowed==Tryz.prog.unfollowed 3)=true:=a_
def aNI:(Rows.talkLastRow.recurses==Tryz.prog.recurses 3)=true:=a_
def aNL:(Rows.talkLastRow.named==Tryz.prog.varsNamed 3)=true:=a_
def aNP:(Rows.talkLastRow.lifted==Tryz.prog.liftsFinal)=true:=a_
def aNQ:(Tryz.prog.make==some Rows.talkLastRow.make)=true:=a_
def aNR:(Rows.talkLastRow.plainKeys==Tryz.prog.plainKeys)=true:=a_
def aLJ:joinedFacts Tryz.prog 3 Tryz.f3 Rows.talkLastSpec Rows.talkLastRow=true:=by unfold joinedFacts;rw[Tryz.laidOut,aKS,aNF,aNG,aNI,aNL,aNP,aNQ,aNR,aIT,aO4];kernel_rfl
set_option maxRecDepth 100000 in
def aLK(os:Os)(c:os.Started)(H:Type)(enc:TypeId×Value->H):
 ReturnsInHanded {} Tryz.checked os 3 .any (λw a=>(Rows.talkLastSpec.pre enc Tryz.prog Tryz.f3 [] false w a/\laidMetH Tryz.prog G4 w)/\sizedMet enc Tryz.prog Tryz.f3 (OpenSpec.ofChange Rows.talkLastSpec) false w a)
  (Rows.talkLastSpec.post enc Tryz.prog Tryz.f3 false true false false):=by
 refine returnsInHanded_of_change_and (C:=Tryz.checked) (X:=λw _=>laidMetH Tryz.prog G4 w) (λ_ _ _ E h=>h.of_heap E) Tryz.own c a_ Tryz.func3
  (ChangeSpec.witness_shaped (enc:=enc) (C:=Tryz.checked) (os:=os) (X:=λw _=>laidMetH Tryz.prog G4 w) false (World.doorLaid Tryz.prog 400 os) #[.slice none 0 0,.slice none 0 0,.int .i64 0] 8 rfl (Vn os _) a_ a_ a_ (aEE os _)) ?_
 intro W e a ds M f d z _ _ I _;have b:∀(j:Nat) t v,Tryz.f3.params[j]?=some t->a[j]?=some v->Value.okWide Tryz.prog W .any e t v:=d;have o:=z;obtain⟨p,q,r,G,rfl,F,D⟩:=z;have A:DataW.TrodAll enc Tryz.prog W 0 (λ_=>true) true Tryz.f3.params.toList a.toList ds p:=r;rw[Tryz.params3]at A b;obtain⟨v0,B,v2,P,O,N,L,K,J,rfl,rfl,rfl,h0,h1,h2⟩:=trodAll_three A;obtain⟨rfl,rfl⟩:=trodVars_none G;obtain⟨x,n,l,i⟩:=Zc (b 0 22 v0 rfl rfl) h0;obtain⟨u,m,k,g⟩:=Zc (b 1 22 B rfl rfl) h1;obtain⟨s,rfl,rfl,rfl,w2⟩:=open_int Tryz.underlying3 (b 2 3 v2 rfl rfl) h2;refine aBm (φ:=λ_=>undef) (avs:=[rG x,rG u,iv s]) Tryz.laidOut o rfl rfl ?_ a_ Tryz.underlying4 (enters_of Tryz.func3 a_ rfl _ _) (aGk I) (aLS aIJ aKK x u s l n k m (wfI w2)) ?_;rw[Tryz.params3];intro t y;simp only[cS,pP,or_false]at y;rcases y with rfl|rfl|rfl<;>exact⟨a_,of_decide_eq_true a_⟩;simp only[cC];exact⟨_,_,rfl,i,_,_,rfl,g,_,_,rfl,by simp only[Rp],rfl⟩
def aMa:Rows.TalkLastSaid :=
 OpenClaim.holds_of_wide 3 Tryz.f3 rfl rfl rfl rfl rfl rfl rfl ⟨rfl,rfl,rfl,rfl,rfl⟩ rfl rfl rfl rfl rfl a_ Tryz.func3 aLJ
  (of_decide_eq_true a_) (by unfold Func.isWrapper;first|(rw[if_pos sy];kernel_rfl)|(rw[if_neg sy];exact⟨rfl,rfl⟩))
  (λc a H b _=>aLK c a H b)
def aOB{P:Program}(h:P.funcs.any Func.goes=false)(c:OpenClaim):false=c.goesBy P:=by
 have h2:∀g:Nat,(P.funcs[g]?).any Func.goes=false:=λg=>by
  cases e:P.funcs[g]? with
  |none=>rfl|some b=>
   obtain⟨a,rfl⟩:=aGI.1 e;simpa using Array.any_eq_false.1 h g a
 have h1:P.goes=λ_=>false:=funext λf=>by simp[Program.goes,h,h2]
 unfold OpenClaim.goesBy Program.goesAt Program.goesFrom;rw[h1];cases P.funcNamed c.func<;>cases c.start<;>simp
def aNS:false=Rows.talkLastRow.goesBy Tryz.prog:=aOB a_ _
theorem last_holds:Rows.TalkLastCardSaid :=
 Claim7.holds_tied_plain_at .later [] [.funcs,.data] true (true, "b2ce23ef5bba4d1007c86cda1094af1b95a3a62d882fdcbeec2d9dfce993f3b1") false
  aMa (λ_ h=>by cases h) a_ (λ_ h=>by cases h) talkLast_row_tie rfl ⟨rfl,rfl⟩ aKT rfl
  (λf e d a=>by
   obtain rfl:f=3:=Option.some.inj ((a_:Tryz.prog.funcNamed "huddle/huddlelaw17.TalkLast" = some 3).symm.trans d) |>.symm;obtain rfl:e=Tryz.f3:=(Option.some.inj (Tryz.func3.symm.trans a)).symm
   exact⟨aIU,λj t b=>by
    rw[Tryz.params3]at b;have c:t∈[22,3]:=by simpa using Array.mem_of_getElem? b
    exact aGs c⟩)
  aNS
end Go.Proofs.YtlhonkjgkfdnmaaGreatDoor
