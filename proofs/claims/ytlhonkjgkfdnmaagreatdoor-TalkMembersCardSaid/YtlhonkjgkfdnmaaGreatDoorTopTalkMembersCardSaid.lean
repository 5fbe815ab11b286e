/- TalkMembers: members' messages and reactions of three graphs, case by case: proved whatever the input; the two package-level variables on the road are tied to the program's text. -/
import Derived.Test.YtlhonkjgkfdnmaaGreatDoorLib41
import Derived.Test.YtlhonkjgkfdnmaaGreatDoorLib42
set_option linter.all false
namespace Go.Proofs.YtlhonkjgkfdnmaaGreatDoor
open Go Go.RowKit Go.WideShapes Go.ChangeShapes Go.ChangeAt Hud
def aMw{H:Type}{enc:TypeId×Value->H}{P:Program}{w:World}{c:Nat}{a:Nat->Bool}{b:Bool}{y t1 t2 x:TypeId}{args:Array Value}{ds:List (DataW H)}{ps:List MemPlace}(h:DataW.TrodAll enc P w c a b [y,t1,t2,x] args.toList ds ps):
 ∃v0 v1 v2 v3 A r o n z m l k,args=#[v0,v1,v2,v3]/\ds=[A,r,o,n]/\ps=z++m++l++k/\DataW.Trod enc P w c a b y v0 A z/\DataW.Trod enc P w c a b t1 v1 r m/\DataW.Trod enc P w c a b t2 v2 o l/\DataW.Trod enc P w c a b x v3 n k:=by
 obtain⟨v,K,d,J,p,q,j,rfl,rfl,E,i⟩:=trodAll_cons h;obtain⟨v1,D,r,I,m,M,rfl,rfl,rfl,u,g⟩:=trodAll_cons i;obtain⟨v2,C,o,G,l,q2,rfl,rfl,rfl,t,f⟩:=trodAll_cons g;obtain⟨v3,B,n,F,k,L,rfl,rfl,rfl,s,e⟩:=trodAll_cons f;obtain⟨rfl,rfl,rfl⟩:=trodAll_nil e;refine⟨v,v1,v2,v3,d,r,o,n,p,m,l,k,Array.ext' j,rfl,s_,E,u,t,s⟩
def Vn(os:Os)(args:Array Value):((World.doorLaid Tryz.prog 400 os).forCall (λ_ _=>0) ⟨#[],args,[]⟩).Shaped Tryz.prog:=World.shaped_of_RefB k_ k_
def aKS:mapsRowed Tryz.prog=true:=k_
def aIT:Tryz.prog.stopsHeard=true:=k_
def aO4:Tryz.prog.mayEnter=true:=k_
def aKT:Tryz.prog.mainIs=some (true, "b2ce23ef5bba4d1007c86cda1094af1b95a3a62d882fdcbeec2d9dfce993f3b1".toList):=k_
def aIU:false=Tryz.prog.looks []:=k_
def aIV:([3].all λu=>!Tryz.prog.wantsStandIn u)=true:=k_
def aGs{t:TypeId}(h:t∈[3]):Tryz.prog.wantsStandIn t=false:=by simpa using oD.1 aIV t h
def aNQ:(Rows.talkMembersRow.inPlace==Tryz.prog.inPlace 4)=true:=k_
def aNR:(Rows.talkMembersRow.unfollowed==Tryz.prog.unfollowed 4)=true:=k_
def aNS:(Rows.talkMembersRow.recurses==Tryz.prog.recurses 4)=true:=k_
def aNT:(Rows.talkMembersRow.named==Tryz.prog.varsNamed 4)=true:=k_
def aNU:(Rows.talkMembersRow.lifted==Tryz.prog.liftsFinal)=true:=k_
def aO0:(Tryz.prog.make==some Rows.talkMembersRow.make)=true:=k_
def aO5:(Rows.talkMembersRow.plainKeys==Tryz.prog.plainKeys)=true:=k_
def aLV:joinedFacts Tryz.prog 4 Tryz.f4 Rows.talkMembersSpec Rows.talkMembersRow=true:=by unfold joinedFacts;rw[Tryz.laidOut,aKS,aNQ,aNR,aNS,aNT,aNU,aO0,aO5,aIT,aO4];kernel_rfl
set_option maxRecDepth 100000 in
def aLX(os:Os)(c:os.Started)(H:Type)(enc:TypeId×Value->H):
 ReturnsInHanded {} Tryz.checked os 4 .any (λw b=>(Rows.talkMembersSpec.pre enc Tryz.prog Tryz.f4 [] false w b/\laidMetH Tryz.prog G4 w)/\sizedMet enc Tryz.prog Tryz.f4 (OpenSpec.ofChange Rows.talkMembersSpec) false w b)
  (Rows.talkMembersSpec.post enc Tryz.prog Tryz.f4 false true false false):=by
 refine returnsInHanded_of_change_and (C:=Tryz.checked) (X:=λw _=>laidMetH Tryz.prog G4 w) (λ_ _ _ x h=>h.of_heap x) Tryz.own c k_ Tryz.func4
  (ChangeSpec.witness_shaped (enc:=enc) (C:=Tryz.checked) (os:=os) (X:=λw _=>laidMetH Tryz.prog G4 w) false (World.doorLaid Tryz.prog 400 os) #[.int .i64 0,.int .i64 0,.int .i64 0,.int .i64 0] 8 rfl (Vn os _) k_ k_ k_ (aEE os _)) ?_
 intro W e b ds G f d r _ _ A _;have a:∀(j:Nat) t v,Tryz.f4.params[j]?=some t->b[j]?=some v->Value.okWide Tryz.prog W .any e t v:=d;have g:=r;obtain⟨p,q,i,z,rfl,y,u⟩:=r;have s:DataW.TrodAll enc Tryz.prog W 0 (λ_=>true) true Tryz.f4.params.toList b.toList ds p:=i;rw[Tryz.params4]at s a;obtain⟨v0,v1,v2,v3,L,K,J,I,F,E,D,B,rfl,rfl,rfl,h0,h1,h2,h3⟩:=aMw s;obtain⟨rfl,rfl⟩:=trodVars_none z;obtain⟨n,rfl,rfl,rfl,w0⟩:=open_int Tryz.underlying3 (a 0 3 v0 rfl rfl) h0;obtain⟨m,rfl,rfl,rfl,w1⟩:=open_int Tryz.underlying3 (a 1 3 v1 rfl rfl) h1;obtain⟨l,rfl,rfl,rfl,w2⟩:=open_int Tryz.underlying3 (a 2 3 v2 rfl rfl) h2;obtain⟨k,rfl,rfl,rfl,w3⟩:=open_int Tryz.underlying3 (a 3 3 v3 rfl rfl) h3;refine aBm (φ:=λ_=>undef) (avs:=[iv n,iv m,iv l,iv k]) Tryz.laidOut g rfl rfl ?_ k_ Tryz.underlying4 (enters_of Tryz.func4 k_ rfl _ _) (aGk A) (aM6 aIJ aKK n m l k (wfI w0) (wfI w1) (wfI w2) (wfI w3)) ?_;rw[Tryz.params4];intro t o;simp only[cS,pP,or_false]at o;rcases o with rfl|rfl|rfl|rfl<;>exact⟨k_,of_decide_eq_true k_⟩;simp only[cC];exact⟨_,_,rfl,by simp only[Rp],_,_,rfl,by simp only[Rp],_,_,rfl,by simp only[Rp],_,_,rfl,by simp only[Rp],rfl⟩
def aMx:Rows.TalkMembersSaid :=
 OpenClaim.holds_of_wide 4 Tryz.f4 rfl rfl rfl rfl rfl rfl rfl ⟨rfl,rfl,rfl,rfl,rfl⟩ rfl rfl rfl rfl rfl k_ Tryz.func4 aLV
  (of_decide_eq_true k_) A_
  (λc a H b _=>aLX c a H b)
def aLY{P:Program}(h:P.funcs.any Func.goes=false)(c:OpenClaim):false=c.goesBy P:=by
 have h2:∀g:Nat,(P.funcs[g]?).any Func.goes=false:=λg=>by
  cases e:P.funcs[g]? with
  |none=>rfl|some b=>
   obtain⟨a,rfl⟩:=aGI.1 e;simpa using Array.any_eq_false.1 h g a
 have h1:P.goes=λ_=>false:=funext λf=>by simp[Program.goes,h,h2]
 unfold OpenClaim.goesBy Program.goesAt Program.goesFrom;rw[h1];cases P.funcNamed c.func<;>cases c.start<;>simp
def aO8:false=Rows.talkMembersRow.goesBy Tryz.prog:=aLY k_ _
theorem members_holds:Rows.TalkMembersCardSaid :=
 Claim7.holds_tied_plain_at .later [] [.funcs,.data] true (true, "b2ce23ef5bba4d1007c86cda1094af1b95a3a62d882fdcbeec2d9dfce993f3b1") false
  aMx (λ_ h=>by cases h) k_ (λ_ h=>by cases h) talkMembers_row_tie rfl ⟨rfl,rfl⟩ aKT rfl
  (λf e d a=>by
   obtain rfl:f=4:=Option.some.inj ((k_:Tryz.prog.funcNamed "huddle/huddlelaw17.TalkMembers" = some 4).symm.trans d) |>.symm;obtain rfl:e=Tryz.f4:=(Option.some.inj (Tryz.func4.symm.trans a)).symm
   exact⟨aIU,λj t b=>by
    rw[Tryz.params4]at b;have c:t∈[3]:=s8
    exact aGs c⟩)
  aO8
end Go.Proofs.YtlhonkjgkfdnmaaGreatDoor
