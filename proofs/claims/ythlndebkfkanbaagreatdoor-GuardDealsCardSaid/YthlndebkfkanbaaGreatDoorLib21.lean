import Derived.Test.YthlndebkfkanbaaGreatDoorLib20
set_option linter.all false
namespace Hud
open Go
section
open Go.Proofs.Tryz
def arP (f:Nat) (args:List AV) (T:Tab):Option (AV×Tab):=match T,args with
 | [],[.v (.int .u64 (.ofNat x)),.v (.int .u64 (.ofNat y))] =>
  match Nat.blt x PP,Nat.beq f mF,Nat.blt y PP,Nat.beq f jD,Nat.blt y 18446744073709551616 with
  | true,true,true,_,_=>some (uv (x*y%PP),[])
  | true,false,_,true,true=>some (uv (pwm PP 64 x y 1%PP),[])
  | _,_,_,_,_=>none
 | _,_=>none
theorem bBw {G:Nat->Option (List AV)}:∀ f args T r T',arP f args T=some (r,T')->aD prog G f args T fun r' T''=>r'=r/\T''=T':=by
 intro f args T r T' h
 unfold arP at h
 split at h
 ·rename_i x y
  split at h
  ·rename_i h1 h2 h3
   simp only [Option.some.injEq,Prod.mk.injEq] at h
   obtain ⟨rfl,rfl⟩:=h
   rw [Nat.blt_eq] at h1 h3
   rw [Nat.eq_of_beq_eq_true h2]
   exact aMR (⟨x,h1⟩:Fq) ⟨y,h3⟩
  ·rename_i h1 h2 h4 h5
   simp only [Option.some.injEq,Prod.mk.injEq] at h
   obtain ⟨rfl,rfl⟩:=h
   rw [Nat.blt_eq] at h1 h5
   rw [Nat.eq_of_beq_eq_true h4]
   have e:=aPO (G:=G) (⟨x,h1⟩:Fq) y h5
   have e2:(((⟨x,h1⟩:Fq)^y).val)=pwm PP 64 x y 1%PP:=by
    rw [tY,aJn PP 64 x y 1 (by simpa using h5),Nat.one_mul]
   simp only [fu,e2] at e
   exact e
  ·simp at h
 ·simp at h
def evQ (l:List (Nat×HFun)) (ps:List (Nat×List AV×AV)):EvT:=⟨lkF l,fun f args T=>match prF ps f args T with | some x=>some x | none=>arP f args T⟩
theorem sD {G:Nat->Option (List AV)} {l:List (Nat×HFun)} {ps:List (Nat×List AV×AV)} (h:TOk prog l) (hp:aEZ prog G ps):(evQ l ps).Ok prog G:=⟨aXC h,fun f args T r T' e=>by
 simp only [evQ] at e
 split at e
 ·rename_i x hx
  injection e with e
  subst e
  exact aXD hp f args T r T' hx
 ·exact bBw f args T r T' e⟩
end
section
section
variable {G:Nat->Option (List AV)}
set_option maxHeartbeats 4000000
theorem aNq (I:List Id) (x:Id):lU I x<I.length/\-1<=lU I x:=by
 unfold lU aCr
 cases h:I.findIdx? (fun y=>decide (y=x)) with
 | none=>simp;omega
 | some i =>
  obtain ⟨h1,_⟩:=List.findIdx?_eq_some_iff_getElem.1 h
  simp;omega
def aKV (g:GM) (o:OpM) (up:List Nat):Int×List Nat:=if aSe g o up=false then (6,[]) else if aSd g.L o (pY g up)=false then (11,[]) else (0,up)
def aDJ (g:GM) (o:OpM):Int×List Nat:=match aVf g.I o.Past with
 | none=>(10,[])
 | some up=>aKV g o up
def aDK (g:GM) (o:OpM):Int×List Nat :=
 if 0<=lU g.I (idM o) then (5,[])
 else if 200<=g.L.length then (3,[])
 else if (aV g.Cards o.By).2=false then (17,[])
 else if aES (aV g.Cards o.By).1.Sign o.B o.SR o.SS=false then (12,[])
 else if (o.Kind==1&&decide (0<g.L.length))=true then (1,[])
 else aDJ g o
def kH (g:GM) (o:OpM):Int×List Nat:=if aBH o≠0 then (aBH o,[]) else aDK g o
theorem aKW {o:OpM} (h:aBH o=0):1<=o.Seq/\1<=o.By/\o.By<=12/\0<=o.At:=by
 unfold aBH at h
 split at h
 ·simp at h
 split at h
 ·simp at h
 split at h
 ·simp at h
 ·rename_i hn
  have:yH o=true:=by cases e:yH o<;>simp_all
  unfold yH inM at this
  simp only [Bool.and_eq_true,decide_eq_true_eq] at this
  omega
theorem aXF {cs:List CardM} {d:Int} (h:∀ c∈cs,c.ok):(aV cs d).1.Sign<18446744073709551616:=by
 unfold aV
 split
 ·rename_i c e;exact (h c (List.mem_of_find?_eq_some e)).2.2.2.2
 ·decide
end
end
section
def aBL (g:GM) (o:OpM):GM×Int :=
 if (kH g o).1≠0 then (g,(kH g o).1)
 else (⟨g.Cards,g.L++[o],g.I++[idM o],g.Up++[(kH g o).2],(g.In.map fun r=>r++[false])++[pY g (kH g o).2++[false]]⟩,0)
theorem aQw (g:GM) (o:OpM):(kH g o).2=[]\/(kH g o).2=o.Past.map fun x=>(lU g.I x).toNat:=by
 unfold kH aDK aDJ aKV aVf
 repeat' (first | split | (exact .inl rfl) | (exact .inr rfl))
 all_goals simp_all
theorem aVi (g:GM) (o:OpM):(kH g o).2.length<=o.Past.length:=by
 rcases aQw g o with h | h<;>simp [h]
section
variable {G:Nat->Option (List AV)}
set_option maxHeartbeats 4000000
theorem aZz {g:GM} {o:OpM} (hg:g.ok) (ho:o.ok) (hn:g.L.length<1000) (hid:(idM o).ok):(aBL g o).1.ok:=by
 unfold aBL
 split
 ·exact hg
 ·refine ⟨by simp;omega,hg.cn,hg.cs,?_,by simp [hg.i],?_,by simp [hg.un],?_,by simp [hg.inn],?_⟩
  ·intro x hx
   rcases List.mem_append.1 hx with h | h
   ·exact hg.ops x h
   ·rw [List.mem_singleton.1 h];exact ho
  ·intro x hx
   rcases List.mem_append.1 hx with h | h
   ·exact hg.is x h
   ·rw [List.mem_singleton.1 h];exact hid
  ·intro u hu
   simp only [List.length_append,List.length_cons,List.length_nil]
   rcases List.mem_append.1 hu with h | h
   ·exact ⟨(hg.up u h).1,fun k hk=>by have:=(hg.up u h).2 k hk;omega⟩
   ·rw [List.mem_singleton.1 h]
    refine ⟨Nat.le_trans (aVi g o) ho.past.1,fun k hk=>?_⟩
    rcases aQw g o with e | e
    ·rw [e] at hk;simp at hk
    ·rw [e] at hk
     obtain ⟨x,_,rfl⟩:=List.mem_map.1 hk
     have:=aNq g.I x
     have:=hg.i
     omega
  ·intro r hr
   simp only [List.length_append,List.length_cons,List.length_nil]
   rcases List.mem_append.1 hr with h | h
   ·obtain ⟨r',h1,rfl⟩:=List.mem_map.1 h
    simp [hg.ins r' h1]
   ·rw [List.mem_singleton.1 h]
    simp [aNk]
theorem aKX {o:OpM} (ho:o.ok):(idM o).ok:=by
 refine ⟨ho.ints o.By (by simp),ho.ints o.Seq (by simp),?_,?_⟩
 ·simp only [idM];omega
 ·simp only [idM];have:=aX9 (aTx lOp o.B);omega
end
end
section
def yK (d m:Nat):CardM:=⟨d,m,((37:Fq)^nU aTG d).val,((37:Fq)^nU yF d).val,((37:Fq)^nU uL d).val⟩
theorem iK (lab:List Nat) (d:Nat):nU lab d<18446744073709551616:=aNb _ _
theorem aSm (s:Nat) (b:List Nat):aHe s b<18446744073709551616:=aNb _ _
theorem aXG (d m:Nat):yK d m=⟨d,m,pwm PP 64 37 (nU aTG d) 1%PP,pwm PP 64 37 (nU yF d) 1%PP,pwm PP 64 37 (nU uL d) 1%PP⟩:=by
 unfold yK
 rw [aM3 _ (iK _ _),aM3 _ (iK _ _),aM3 _ (iK _ _)]
def aON:List CardM:=[yK 1 1,yK 2 2,yK 3 3,yK 4 1,yK 5 2,yK 6 3]
def aJ:List CardM:=[⟨1,1,1858807316446646070,2294458496254976924,1058522930688824048⟩,⟨2,2,1810974450540283748,732551293757751401,86482453431610406⟩,⟨3,3,490180086995058983,1441871927598236410,1783630545573332436⟩,⟨4,1,1953319703317080786,881125215762738857,1828901513722737251⟩,⟨5,2,603255930034390424,1128020181934541352,1855458293155442097⟩,⟨6,3,681465322610182208,1458595129815633359,1877287273825605593⟩]
theorem aNr:aON=aJ:=by
 unfold aON
 simp only [aXG]
 kernel_rfl
theorem uR (o:OpM):dD o={ o with SR:=pwm PP 64 37 (aHe (nU uL o.By.toNat) o.B) 1%PP,SS:=(aHe (nU uL o.By.toNat) o.B+aRY (aQb (pwm PP 64 37 (aHe (nU uL o.By.toNat) o.B) 1%PP) (pwm PP 64 37 (nU uL o.By.toNat) 1%PP) o.B).val (nU uL o.By.toNat))%aOt }:=by
 unfold dD aHf aET
 rw [aM3 _ (aSm _ _),aM3 _ (iK _ _)]
theorem aSn (pub:Nat) (o:OpM) (h:pub=((37:Fq)^nU uL o.By.toNat).val):aES pub (dD o).B (dD o).SR (dD o).SS=true:=by
 subst h
 have e1:(dD o).SR=(aET (nU uL o.By.toNat) o.B).val:=by simp only [dD]
 have e2:(dD o).SS=aHf (nU uL o.By.toNat) o.B:=by simp only [dD]
 rw [aVb,e1,e2,bBh]
theorem aKY {g g':GM} {p o:OpM} {c:CardM} {up:List Nat} (ho:dD p=o) (hc:aV g.Cards o.By=(c,true)) (hs:c.Sign=((37:Fq)^nU uL p.By.toNat).val) (h1:aBH o=0) (h2:lU g.I (idM o)=-1) (h3:g.L.length<200)
  (h4:(o.Kind==1&&decide (0<g.L.length))=false) (h5:aDJ g o=(0,up)) (h6:(⟨g.Cards,g.L++[o],g.I++[idM o],g.Up++[up],(g.In.map fun r=>r++[false])++[pY g up++[false]]⟩:GM)=g'):aBL g (dD p)=(g',0):=by
 have hsig:=aSn c.Sign p hs
 rw [ho] at hsig ⊢
 have hw:kH g o=(0,up):=by
  unfold kH aDK
  rw [if_neg (by simp [h1]),h2,if_neg (by decide),if_neg (by omega),hc,if_neg (by simp),hsig,if_neg (by simp),h4,if_neg (by simp),h5]
 unfold aBL
 rw [hw,if_neg (by simp),<-h6]
def sBL:List BoxM:=[⟨732551293757751401,32651966888573293,1141867272264217946,651378572187880583⟩,⟨1441871927598236410,1083844842504320732,1781110135044043487,979127909182195024⟩,⟨1128020181934541352,1108944146583870446,567351526826948665,64752403788970038⟩]
def sG0:GM:=⟨aJ,[],[],[],[]⟩
def sP1:OpM:=⟨1,1,1,0,[],0,0,0,0,[⟨1000,[]⟩],⟨0,0,0⟩,0,[],[],⟨0,0,0⟩,[],0,0,[],0,[],0,0⟩
def sO1:OpM:=⟨1,1,1,0,[],0,0,0,0,[⟨1000,[]⟩],⟨0,0,0⟩,0,[],[],⟨0,0,0⟩,[],0,0,[],0,[],1695899507400157853,644682306613698331⟩
def sG1:GM:=⟨aJ,[sO1],[⟨1,1,2121501834213576595⟩],[[]],[[false]]⟩
theorem sS1:dD sP1=sO1:=by
 rw [uR]
 kernel_rfl
theorem sA1:aBL sG0 (dD sP1)=(sG1,0):=by
 refine aKY (c:=⟨1,1,1858807316446646070,2294458496254976924,1058522930688824048⟩) (up:=[]) sS1 (by kernel_rfl) ?_ (by kernel_rfl) (by kernel_rfl) (by decide) (by kernel_rfl) (by kernel_rfl) (by kernel_rfl)
 rw [show sP1.By.toNat=1 from rfl,aM3 _ (iK _ _)]
 kernel_rfl
def sP2:OpM:=⟨1,2,2,0,[⟨1,1,2121501834213576595⟩],2,0,0,3,[⟨1010,[]⟩,⟨1011,[]⟩],⟨0,0,0⟩,0,[],[],⟨0,0,0⟩,[],0,0,[],0,[],0,0⟩
def sO2:OpM:=⟨1,2,2,0,[⟨1,1,2121501834213576595⟩],2,0,0,3,[⟨1010,[]⟩,⟨1011,[]⟩],⟨0,0,0⟩,0,[],[],⟨0,0,0⟩,[],0,0,[],0,[],1479892474240941217,404158722206669652⟩
def sG2:GM:=⟨aJ,[sO1,sO2],[⟨1,1,2121501834213576595⟩,⟨1,2,1178938091502474893⟩],[[],[0]],[[false,false],[true,false]]⟩
theorem sS2:dD sP2=sO2:=by
 rw [uR]
 kernel_rfl
theorem sA2:aBL sG1 (dD sP2)=(sG2,0):=by
 refine aKY (c:=⟨1,1,1858807316446646070,2294458496254976924,1058522930688824048⟩) (up:=[0]) sS2 (by kernel_rfl) ?_ (by kernel_rfl) (by kernel_rfl) (by decide) (by kernel_rfl) (by kernel_rfl) (by kernel_rfl)
 rw [show sP2.By.toNat=1 from rfl,aM3 _ (iK _ _)]
 kernel_rfl
def sP3:OpM:=⟨1,3,2,0,[⟨1,2,1178938091502474893⟩],3,0,0,2,[⟨1020,[]⟩,⟨1021,[]⟩,⟨1022,[]⟩],⟨0,0,0⟩,0,[],[],⟨0,0,0⟩,[],0,0,[],0,[],0,0⟩
def sO3:OpM:=⟨1,3,2,0,[⟨1,2,1178938091502474893⟩],3,0,0,2,[⟨1020,[]⟩,⟨1021,[]⟩,⟨1022,[]⟩],⟨0,0,0⟩,0,[],[],⟨0,0,0⟩,[],0,0,[],0,[],1315423369662900772,342081693338455349⟩
def sG3:GM:=⟨aJ,[sO1,sO2,sO3],[⟨1,1,2121501834213576595⟩,⟨1,2,1178938091502474893⟩,⟨1,3,1760267547356689185⟩],[[],[0],[1]],[[false,false,false],[true,false,false],[true,true,false]]⟩
theorem sS3:dD sP3=sO3:=by
 rw [uR]
 kernel_rfl
theorem sA3:aBL sG2 (dD sP3)=(sG3,0):=by
 refine aKY (c:=⟨1,1,1858807316446646070,2294458496254976924,1058522930688824048⟩) (up:=[1]) sS3 (by kernel_rfl) ?_ (by kernel_rfl) (by kernel_rfl) (by decide) (by kernel_rfl) (by kernel_rfl) (by kernel_rfl)
 rw [show sP3.By.toNat=1 from rfl,aM3 _ (iK _ _)]
 kernel_rfl
def sP4:OpM:=⟨2,1,2,0,[⟨1,3,1760267547356689185⟩],5,0,0,1,[⟨1030,[]⟩,⟨1031,[]⟩,⟨1032,[]⟩],⟨0,0,0⟩,0,[],[],⟨0,0,0⟩,[],0,0,[],0,[],0,0⟩
def sO4:OpM:=⟨2,1,2,0,[⟨1,3,1760267547356689185⟩],5,0,0,1,[⟨1030,[]⟩,⟨1031,[]⟩,⟨1032,[]⟩],⟨0,0,0⟩,0,[],[],⟨0,0,0⟩,[],0,0,[],0,[],1342582507085670039,1535016580749604811⟩
def sG4:GM:=⟨aJ,[sO1,sO2,sO3,sO4],[⟨1,1,2121501834213576595⟩,⟨1,2,1178938091502474893⟩,⟨1,3,1760267547356689185⟩,⟨2,1,533371032110822859⟩],[[],[0],[1],[2]],[[false,false,false,false],[true,false,false,false],[true,true,false,false],[true,true,true,false]]⟩
theorem sS4:dD sP4=sO4:=by
 rw [uR]
 kernel_rfl
theorem sA4:aBL sG3 (dD sP4)=(sG4,0):=by
 refine aKY (c:=⟨2,2,1810974450540283748,732551293757751401,86482453431610406⟩) (up:=[2]) sS4 (by kernel_rfl) ?_ (by kernel_rfl) (by kernel_rfl) (by decide) (by kernel_rfl) (by kernel_rfl) (by kernel_rfl)
 rw [show sP4.By.toNat=2 from rfl,aM3 _ (iK _ _)]
 kernel_rfl
def sP5:OpM:=⟨1,4,9,0,[⟨2,1,533371032110822859⟩],0,0,0,0,[],⟨0,0,0⟩,0,[],[],⟨0,0,0⟩,[2,3,5],1,0,sBL,356236859940272499,[],0,0⟩
def sO5:OpM:=⟨1,4,9,0,[⟨2,1,533371032110822859⟩],0,0,0,0,[],⟨0,0,0⟩,0,[],[],⟨0,0,0⟩,[2,3,5],1,0,sBL,356236859940272499,[],1273844906994945945,709410509792394451⟩
def sG5:GM:=⟨aJ,[sO1,sO2,sO3,sO4,sO5],[⟨1,1,2121501834213576595⟩,⟨1,2,1178938091502474893⟩,⟨1,3,1760267547356689185⟩,⟨2,1,533371032110822859⟩,⟨1,4,1541447031150677054⟩],[[],[0],[1],[2],[3]],[[false,false,false,false,false],[true,false,false,false,false],[true,true,false,false,false],[true,true,true,false,false],[true,true,true,true,false]]⟩
theorem sS5:dD sP5=sO5:=by
 rw [uR]
 kernel_rfl
theorem sA5:aBL sG4 (dD sP5)=(sG5,0):=by
 refine aKY (c:=⟨1,1,1858807316446646070,2294458496254976924,1058522930688824048⟩) (up:=[3]) sS5 (by kernel_rfl) ?_ (by kernel_rfl) (by kernel_rfl) (by decide) (by kernel_rfl) (by kernel_rfl) (by kernel_rfl)
 rw [show sP5.By.toNat=1 from rfl,aM3 _ (iK _ _)]
 kernel_rfl
end
section
open Go.Proofs.Tryz
def yL:HFun:=⟨148,[(10,none)],zQ (zr [zo 10 (.mov zF)] [10]) (zQ (zr [zc 29 qA [.const (zS)],zm 28 29,ze 30 28 0,ze 31 28 1,zo 12 (.alloc [zS,zS,zS,zS,zS]),zm 11 30,zs (.st 5 (zt 12) (zt 31))] [12,31,30,28,29]) (zQ (zQ (zr [zm 32 11,zo 33 (.nilS false 0 (zt 32))] [32]) (zC 33 (zK [11,0,3,1,4,2,33] (zE [zo 10 (.mov zF)] .ret)) (zK [33] .skip))) (zQ (zQ (zr [zo 34 (.bsl 1 [z0,z0,z0,z0,z0,z0] [(0,(1,zw 1)),(1,(1,zw 2)),(2,(1,zw 3)),(3,(1,zw 4)),(4,(1,zw 5)),(5,(1,zw 6))] 6),zm 13 34] [34]) (.shut 13)) (zQ (zr [zm 35 2,zc 36 fY [zt 35,zw 6],zo 37 (.bin .add (zw 1) (zt 36)),zm 14 37] [2,37,36,35]) (zQ (zr [zm 39 11,zm 40 0,zc 41 fZ [zt 40],zm 42 13,zm 43 14,zm 44 3,zc 45 kA [zt 44,.const (zS)],zc 46 jZ [zt 39,zt 41,zt 42,zt 43,zt 45],zm 38 46,ze 47 38 0,ze 48 38 1,zm 15 47,zm 16 48] [11,0,3,48,47,38,46,45,44,43,42,41,40,39]) (zQ (zr [zm 50 13,zm 51 15,zc 52 iN [zt 50,zt 51],zm 49 52,ze 53 49 0,ze 54 49 1,zm 17 53,zm 18 54] [13,15,54,53,49,52,51,50]) (zQ (zQ (zr [zm 55 16,zj 56 .neq 55 0,zm 57 56,zh 58 18 57 false,zg 59 (.un .not (zt 58)) 57 false,zo 60 (.pick (zt 57) zT (zt 59))] [16,18,59,58,57,56,55]) (zC 60 (zK [1,14,4,17,60] (zE [zo 10 (.mov zF)] .ret)) (zK [60] .skip))) (zQ (zr [zm 61 1,zc 62 fZ [zt 61],zm 19 62] [1,62,61]) (zQ (zr [zm 63 17,zm 64 4,zm 65 14,zj 66 .sub 65 1,zc 67 nQ [zt 63,zt 64,zt 66],zm 20 67] [17,4,67,66,65,64,63]) (zQ (zr [zo 68 (.bsl 1 [zU] [(0,(1,zu 0))] 1),zm 21 68] [68]) (zQ (zr [zm 69 19,zo 70 (.bsl 1 [zU] [(0,(1,zt 69))] 1),zm 22 70] [70,69]) (zQ (zE [zk 23 0] (zP 0 (zQ (zQ (zr [zm 71 23,zm 72 20,zn 73 72,zb 74 .lss 71 73] [73,72,71]) (zC 74 (zK [74] .skip) (zK [23,74] (.exit 0)))) (zQ (.block 1 (zQ (zr [zm 77 21,zm 78 20,zm 79 23,zi 80 78 79 2,zf 81 80 0,zl 82 81,zo 83 (.bsl 1 [zU] [(0,(1,zt 82))] 1),zo 84 (.app (zt 77) (zt 83) 1 8),zm 21 84] [84,83,82,81,80,79,78,77]) (zr [zm 85 22,zm 86 20,zm 87 23,zi 88 86 87 2,zf 89 88 1,zl 90 89,zo 91 (.bsl 1 [zU] [(0,(1,zt 90))] 1),zo 92 (.app (zt 85) (zt 91) 1 8),zm 22 92] [92,91,90,89,88,87,86,85]))) (zr [zm 75 23,zj 76 .add 75 1,zm 23 76] [76,75]))))) (zQ (zr [zm 93 21,zm 94 22,zc 95 vD [zt 93,zt 94],zm 24 95] [21,22,95,94,93]) (zQ (zQ (zr [zm 96 24,zn 97 96,zj 98 .eql 97 0,zm 99 98,zh 100 24 99 false,zg 101 (.lenL (zt 100)) 99 false,zh 102 14 99 false,zg 103 (.bin .gtr (zt 101) (zt 102)) 99 false,zo 104 (.pick (zt 99) zT (zt 103)),zm 105 104,zh 106 24 105 false,zg 107 (.iad (zt 106) (zw 0) 1) 105 false,zg 108 (.ld none (zt 107)) 105 false,zh 109 19 105 false,zg 110 (.bin .neq (zt 108) (zt 109)) 105 false,zo 111 (.pick (zt 105) zT (zt 110))] [14,110,109,108,107,106,105,104,103,102,101,100,99,98,97,96]) (zC 111 (zK [19,24,20,111] (zE [zo 10 (.mov zF)] .ret)) (zK [111] .skip))) (zQ (zr [zm 112 19,zm 113 24,zo 114 (.slc (zt 113) (some (zw 1)) none 1),zc 115 mY [zt 112,zt 114,zw 6],zm 25 115] [19,24,115,114,113,112]) (zQ (zQ (zr [zm 116 25,zn 117 116,zj 118 .neq 117 6] [117,116]) (zC 118 (zK [25,20,118] (zE [zo 10 (.mov zF)] .ret)) (zK [118] .skip))) (zQ (zE [zk 26 0] (zP 2 (zQ (zQ (zr [zm 119 26,zm 120 20,zn 121 120,zb 122 .lss 119 121] [121,120,119]) (zC 122 (zK [122] .skip) (zK [20,26,25,122] (.exit 2)))) (zQ (.block 3 (zQ (zr [zm 125 20,zm 126 26,zi 127 125 126 2,zv 128 2 127,zo 27 (.alloc [zU,zU]),zs (.st 2 (zt 27) (zt 128))] [128,127,126,125]) (zQ (zR (zq (zf 129 27 0) (zq (zl 130 129) (zq (zo 131 (.bin .lss (zt 130) (zu 1))) (zq (zm 132 131) (zq (zg 133 (.fad (zt 27) 0) 132 false) (zq (zg 134 (.ld none (zt 133)) 132 false) (zq (zg 135 (.bin .gtr (zt 134) (zu 6)) 132 false) (zq (zo 136 (.pick (zt 132) zT (zt 135))) (zq (zm 137 136) (zq (zh 138 25 137 false) (zq (zg 139 (.fad (zt 27) 0) 137 false) (zq (zg 140 (.ld none (zt 139)) 137 false) (zq (zg 141 (.bin .sub (zt 140) (zu 1)) 137 false) (zq (zg 142 (.iad (zt 138) (zt 141) 2) 137 false) (zq (zg 143 (.ld (some 2) (zt 142)) 137 false) (zq (zg 144 (.ld (some 2) (zt 27)) 137 false) (zq (zg 145 (.eqa true [.int .u64,.int .u64] (zt 143) (zt 144)) 137 false) (zq (zo 146 (.pick (zt 137) zT (zt 145))) (.done false))))))))))))))))))) [27,145,144,143,142,141,140,139,138,137,136,135,134,133,132,131,130,129]) (zC 146 (zK [26,25,20,146] (zE [zo 10 (.mov zF)] .ret)) (zK [146] .skip))))) (zr [zm 123 26,zj 124 .add 123 1,zm 26 124] [124,123]))))) (zQ (zr [zc 147 qZ [],zm 10 147] [147]) .ret))))))))))))))))))⟩
theorem aCt:aB prog xR [(13,none,0)]=some yL:=by kernel_rfl
def yM:HFun:=⟨124,[(10,none)],zQ (zr [zo 10 (.mov zF)] [10]) (zQ (zr [zc 29 qA [.const (zS)],zm 28 29,ze 30 28 0,ze 31 28 1,zo 12 (.alloc [zS,zS,zS,zS,zS]),zm 11 30,zs (.st 5 (zt 12) (zt 31))] [31,30,28,29]) (zQ (zQ (zr [zm 32 11,zo 33 (.nilS false 0 (zt 32))] [32]) (zC 33 (zK [0,4,3,11,12,1,2,33] (zE [zo 10 (.mov zF)] .ret)) (zK [33] .skip))) (zQ (zr [zm 34 0,zc 35 zD [zt 34],zm 13 35] [0,35,34]) (zQ (zr [zm 36 2,zc 37 fZ [zt 36],zm 14 37] [2,37,36]) (zQ (zr [zm 38 4,zc 39 zG [zt 38,zw 4],zm 15 39] [4,39,38]) (zQ (zr [zm 40 1,zc 41 fY [zt 40,zw 9],zm 16 41] [1,41,40]) (zQ (zr [zm 42 3,zm 43 15,zc 44 kA [zt 42,zt 43],zm 17 44] [44,43,42]) (zQ (zr [zm 45 3,zm 46 15,zc 47 kA [zt 45,zt 46],zm 18 47] [47,46,45]) (zQ (zr [zm 49 11,zm 50 14,zm 51 13,zm 52 16,zm 53 17,zc 54 jZ [zt 49,zt 50,zt 51,zt 52,zt 53],zm 48 54,ze 55 48 0,ze 56 48 1,zm 19 55,zm 20 56] [56,55,48,54,53,52,51,50,49]) (zQ (zr [zm 58 11,zm 59 13,zm 60 16,zm 61 18,zc 62 mZ [zt 58,zt 59,zt 60,zt 61],zm 57 62,ze 63 57 0,ze 64 57 1,zm 21 63,zm 22 64] [11,64,63,57,62,61,60,59,58]) (zQ (zr [zv 66 5 12,zm 67 14,zm 68 13,zm 69 16,zm 70 3,zm 71 15,zc 72 iX [zt 66,zt 67,zt 68,zt 69,zt 70,zt 71],zm 65 72,ze 73 65 0,ze 74 65 1,zm 23 73,zm 24 74] [14,74,73,65,72,71,70,69,68,67,66]) (zQ (zr [zv 76 5 12,zm 77 13,zm 78 16,zm 79 3,zm 80 15,zc 81 iX [zt 76,zu 0,zt 77,zt 78,zt 79,zt 80],zm 75 81,ze 82 75 0,ze 83 75 1,zm 25 82,zm 26 83] [12,3,15,83,82,75,81,80,79,78,77,76]) (zQ (zQ (zr [zm 84 20,zm 85 24,zb 86 .neq 84 85,zm 87 86,zh 88 22 87 false,zh 89 26 87 false,zg 90 (.bin .neq (zt 88) (zt 89)) 87 false,zo 91 (.pick (zt 87) zT (zt 90)),zm 92 91,zh 93 19 92 false,zh 94 23 92 false,zg 95 (.call (.func nJ) [zt 93,zt 94]) 92 false,zg 96 (.un .not (zt 95)) 92 false,zo 97 (.pick (zt 92) zT (zt 96)),zm 98 97,zh 99 21 98 false,zh 100 25 98 false,zg 101 (.call (.func nJ) [zt 99,zt 100]) 98 false,zg 102 (.un .not (zt 101)) 98 false,zo 103 (.pick (zt 98) zT (zt 102))] [24,22,26,19,23,21,25,102,101,100,99,98,97,96,95,94,93,92,91,90,89,88,87,86,85,84]) (zC 103 (zK [17,18,13,16,20,103] (zE [zo 10 (.mov zF)] .ret)) (zK [103] .skip))) (zE [zk 27 0] (zQ (zQ (zr [zm 104 20,zj 105 .eql 104 0] [20,104]) (zC 105 (zK [27,105] (zr [zm 106 16,zj 107 .sub 106 1,zm 108 13,zn 109 108,zb 110 .add 107 109,zm 27 110] [16,13,110,109,108,107,106])) (zK [16,13,105] .skip))) (zQ (zr [zm 111 17,zc 112 kZ [zt 111],zm 113 27,zb 114 .eql 112 113,zm 115 114,zh 116 18 115 true,zg 117 (.call (.func kZ) [zt 116]) 115 true,zh 118 27 115 true,zg 119 (.bin .eql (zt 117) (zt 118)) 115 true,zo 120 (.pick (zt 115) (zt 119) zF),zm 121 120,zg 122 (.call (.func qZ) []) 121 true,zo 123 (.pick (zt 121) (zt 122) zF),zm 10 123] [17,27,18,123,122,121,120,119,118,117,116,115,114,113,112,111]) .ret))))))))))))))))⟩
theorem aCu:aB prog xS []=some yM:=by kernel_rfl
def wL:HFun:=⟨164,[(10,none)],zQ (zr [zo 10 (.mov zF)] [10]) (zQ (zr [zc 35 qA [.const (zS)],zm 34 35,ze 36 34 0,ze 37 34 1,zo 12 (.alloc [zS,zS,zS,zS,zS]),zm 11 36,zs (.st 5 (zt 12) (zt 37))] [12,37,36,34,35]) (zQ (zQ (zr [zm 38 11,zo 39 (.nilS false 0 (zt 38))] [38]) (zC 39 (zK [1,3,4,2,11,0,39] (zE [zo 10 (.mov zF)] .ret)) (zK [39] .skip))) (zQ (zQ (zr [zo 40 (.bsl 1 [z0,z0,z0,z0,z0,z0] [(0,(1,zw 1)),(1,(1,zw 2)),(2,(1,zw 3)),(3,(1,zw 4)),(4,(1,zw 5)),(5,(1,zw 6))] 6),zm 13 40] [40]) (.shut 13)) (zQ (zr [zm 41 0,zc 42 fZ [zt 41],zm 14 42] [0,42,41]) (zQ (zr [zm 43 1,zc 44 fY [zt 43,zw 6],zo 45 (.bin .add (zw 1) (zt 44)),zm 15 45] [1,45,44,43]) (zQ (zr [zm 47 11,zm 48 14,zm 49 13,zm 50 15,zm 51 2,zc 52 kA [zt 51,.const (zS)],zc 53 jZ [zt 47,zt 48,zt 49,zt 50,zt 52],zm 46 53,ze 54 46 0,ze 55 46 1,zm 16 54,zm 17 55] [2,55,54,46,53,52,51,50,49,48,47]) (zQ (zr [zm 57 11,zm 58 13,zm 59 15,zm 60 3,zc 61 kA [zt 60,.const (zS)],zc 62 mZ [zt 57,zt 58,zt 59,zt 61],zm 56 62,ze 63 56 0,ze 64 56 1,zm 18 63,zm 19 64] [11,3,64,63,56,62,61,60,59,58,57]) (zQ (zr [zm 66 13,zm 67 16,zc 68 iN [zt 66,zt 67],zm 65 68,ze 69 65 0,ze 70 65 1,zm 20 69,zm 21 70] [16,70,69,65,68,67,66]) (zQ (zr [zm 72 13,zm 73 18,zc 74 iN [zt 72,zt 73],zm 71 74,ze 75 71 0,ze 76 71 1,zm 22 75,zm 23 76] [13,18,76,75,71,74,73,72]) (zQ (zQ (zr [zm 77 17,zj 78 .neq 77 0,zm 79 78,zh 80 19 79 false,zg 81 (.bin .neq (zt 80) (zw 0)) 79 false,zo 82 (.pick (zt 79) zT (zt 81)),zm 83 82,zh 84 21 83 false,zg 85 (.un .not (zt 84)) 83 false,zo 86 (.pick (zt 83) zT (zt 85)),zm 87 86,zh 88 23 87 false,zg 89 (.un .not (zt 88)) 87 false,zo 90 (.pick (zt 87) zT (zt 89))] [17,19,21,23,89,88,87,86,85,84,83,82,81,80,79,78,77]) (zC 90 (zK [4,15,14,20,22,90] (zE [zo 10 (.mov zF)] .ret)) (zK [90] .skip))) (zQ (zE [zN 24] (.own 24 none 2)) (zQ (zE [zk 25 0] (zP 0 (zQ (zQ (zr [zm 91 25,zj 92 .lss 91 6] [91]) (zC 92 (zK [92] .skip) (zK [25,92] (.exit 0)))) (zQ (.block 1 (zQ (zR (zq (zm 96 20) (zq (zm 97 25) (zq (zi 98 96 97 2) (zq (zv 99 2 98) (zq (zm 100 22) (zq (zm 101 25) (zq (zi 102 100 101 2) (zq (zv 103 2 102) (zA (zc 104 vE [zt 99,zt 103]) [] (zq (zm 95 104) (zq (ze 105 95 0) (zq (ze 106 95 1) (zA (zo 26 (.alloc [zU,zU])) [ze 106 95 1,ze 105 95 0,zm 95 104] (zA (zs (.st 2 (zt 26) (zt 105))) [ze 106 95 1] (zq (zm 27 106) (.done true)) .no) .no)))) (zA (zo 26 (.alloc [zU,zU])) [zv 103 2 102,zi 102 100 101 2,zm 101 25,zm 100 22,zv 99 2 98,zi 98 96 97 2,zm 97 25,zm 96 20] (zA (zc 104 vE [zt 99,zt 103]) [] (zq (zm 95 104) (zq (ze 105 95 0) (zq (ze 106 95 1) (zA (zs (.st 2 (zt 26) (zt 105))) [ze 106 95 1] (zq (zm 27 106) (.done true)) .no)))) .no) .no)))))))))) [106,105,95,104,103,102,101,100,99,98,97,96]) (zQ (zQ (zr [zm 107 27,zj 108 .neq 107 0] [27,107]) (zC 108 (zK [24,26,4,15,14,20,22,25,108] (zE [zo 10 (.mov zF)] .ret)) (zK [108] .skip))) (zQ (zr [zm 109 24,zv 110 2 26,zo 111 (.bsl 2 [zU,zU] [(0,(2,zt 110))] 1),zo 112 (.app (zt 109) (zt 111) 2 16),zm 24 112] [26,112,111,110,109]) (.own 24 none 2))))) (zr [zm 93 25,zj 94 .add 93 1,zm 25 94] [94,93]))))) (zQ (zr [zm 114 20,zm 115 4,zm 116 15,zc 117 nQ [zt 114,zt 115,zt 116],zc 118 dW [zt 117],zm 113 118,ze 119 113 0,ze 120 113 1,zm 28 119,zm 29 120] [20,120,119,113,118,117,116,115,114]) (zQ (zr [zm 122 24,zm 123 4,zm 124 15,zc 125 nQ [zt 122,zt 123,zt 124],zc 126 dW [zt 125],zm 121 126,ze 127 121 0,ze 128 121 1,zm 30 127,zm 31 128] [24,128,127,121,126,125,124,123,122]) (zQ (zr [zm 130 22,zm 131 4,zm 132 15,zc 133 nQ [zt 130,zt 131,zt 132],zc 134 dW [zt 133],zm 129 134,ze 135 129 0,ze 136 129 1,zm 32 135,zm 33 136] [22,4,15,136,135,129,134,133,132,131,130]) (zQ (zr [zm 137 29,zj 138 .eql 137 0,zm 139 138,zh 140 31 139 true,zg 141 (.bin .eql (zt 140) (zw 0)) 139 true,zo 142 (.pick (zt 139) (zt 141) zF),zm 143 142,zh 144 33 143 true,zg 145 (.bin .eql (zt 144) (zw 0)) 143 true,zo 146 (.pick (zt 143) (zt 145) zF),zm 147 146,zh 148 28 147 true,zh 149 14 147 true,zg 150 (.bin .eql (zt 148) (zt 149)) 147 true,zo 151 (.pick (zt 147) (zt 150) zF),zm 152 151,zh 153 30 152 true,zh 154 14 152 true,zg 155 (.bin .eql (zt 153) (zt 154)) 152 true,zo 156 (.pick (zt 152) (zt 155) zF),zm 157 156,zh 158 32 157 true,zg 159 (.bin .eql (zt 158) (zu 0)) 157 true,zo 160 (.pick (zt 157) (zt 159) zF),zm 161 160,zg 162 (.call (.func qZ) []) 161 true,zo 163 (.pick (zt 161) (zt 162) zF),zm 10 163] [29,31,33,28,14,30,32,163,162,161,160,159,158,157,156,155,154,153,152,151,150,149,148,147,146,145,144,143,142,141,140,139,138,137]) .ret))))))))))))))))⟩
theorem aBM:aB prog vC [(24,none,2),(13,none,0)]=some wL:=by kernel_rfl
def aKZ:HFun:=⟨10,[(2,none),(3,some (some 5))],zQ (zr [zo 2 (.mov (.const (.pointer none))),zo 3 (.alloc [zS,zS,zS,zS,zS])] [2]) (zQ (zr [zm 5 0,zc 6 tO [zt 5],zo 4 (.alloc [zS,zS,zS,zS,zS]),zs (.st 5 (zt 4) (zt 6))] [0,6,5]) (zQ (zR (zq (zv 7 5 4) (zq (zv 9 5 4) (zA (zc 8 aEh [zt 7]) [zv 9 5 4] (zq (zm 2 8) (zA (zs (.st 5 (zt 3) (zt 9))) [] (.done false) .no)) .no))) [4,9,8,7]) .ret))⟩
theorem aM8:aB prog qA []=some aKZ:=by kernel_rfl
def aF0:HFun:=⟨51,[(4,none),(5,none)],zQ (zr [zN 4,zo 5 (.mov zF)] [5,4]) (zQ (zE [zN 6] (.own 6 none 2)) (zQ (zE [zk 7 0] (zP 0 (zQ (zQ (zr [zm 10 7,zm 11 0,zn 12 11,zb 13 .lss 10 12,zm 14 13,zh 15 7 14 true,zh 16 1 14 true,zg 17 (.lenL (zt 16)) 14 true,zg 18 (.bin .lss (zt 15) (zt 17)) 14 true,zo 19 (.pick (zt 14) (zt 18) zF)] [18,17,16,15,14,13,12,11,10]) (zC 19 (zK [19] .skip) (zK [7,1,19] (.exit 0)))) (zQ (.block 1 (zQ (zR (zq (zm 23 0) (zq (zm 24 7) (zq (zi 25 23 24 1) (zq (zl 26 25) (zq (zm 28 1) (zq (zm 29 7) (zq (zi 30 28 29 4) (zq (zv 31 4 30) (zA (zc 27 aDa [zt 26]) [zv 31 4 30,zi 30 28 29 4,zm 29 7,zm 28 1] (zA (zc 32 aD9 [zt 27,zt 31]) [] (zq (zm 22 32) (zq (ze 33 22 0) (zq (ze 34 22 1) (zq (zm 8 33) (zq (zm 9 34) (.done false)))))) .no) .no))))))))) [34,33,22,32,31,30,29,28,27,26,25,24,23]) (zQ (zQ (zr [zm 35 9,zj 36 .neq 35 0] [9,35]) (zC 36 (zK [6,7,8,0,1,36] (zQ (zE [zN 4,zo 5 (.mov zF)] (.own 4 none 2)) .ret)) (zK [36] .skip))) (zQ (zr [zm 37 6,zm 38 7,zj 39 .add 38 1,zo 40 (.conv .u64 (zt 39)),zm 41 8,zo 42 (.bld [zU,zU] [(0,(1,zt 40)),(1,(1,zt 41))]),zo 43 (.bsl 2 [zU,zU] [(0,(2,zt 42))] 1),zo 44 (.app (zt 37) (zt 43) 2 16),zm 6 44] [8,44,43,42,41,40,39,38,37]) (.own 6 none 2))))) (zr [zm 20 7,zj 21 .add 20 1,zm 7 21] [21,20]))))) (zQ (zQ (zr [zm 45 6,zm 46 6,zn 47 46,zm 48 0,zn 49 48,zb 50 .eql 47 49,zm 4 45,zm 5 50] [6,0,50,49,48,47,46,45]) (.own 4 none 2)) .ret)))⟩
theorem aHN:aB prog iN [(4,none,2),(6,none,2)]=some aF0:=by kernel_rfl
def aHk:HFun:=⟨78,[(0,none)],zQ (zr [zo 0 (.mov zF)] [0]) (zQ (zr [zc 13 qA [.const (zS)],zm 12 13,ze 14 12 0,ze 15 12 1,zo 2 (.alloc [zS,zS,zS,zS,zS]),zm 1 14,zs (.st 5 (zt 2) (zt 15))] [2,15,14,12,13]) (zQ (zr [zc 16 kA [zu 1,.const (zS)],zm 3 16] [16]) (zQ (zQ (zr [zm 17 1,zo 18 (.nilS false 0 (zt 17)),zm 19 18,zh 20 3 19 false,zg 21 (.nilS false 0 (zt 20)) 19 false,zo 22 (.pick (zt 19) zT (zt 21))] [21,20,19,18,17]) (zC 22 (zK [1,3,22] (zE [zo 0 (.mov zF)] .ret)) (zK [22] .skip))) (zQ (zQ (zQ (zE [zm 24 1,zo 25 (.bsl 1 [z0,z0,z0] [(0,(1,zw 1)),(1,(1,zw 2)),(2,(1,zw 3))] 3)] (.shut 25)) (.reg [zm 26 3,zc 27 jZ [zt 24,zu 9,zt 25,zw 2,zt 26],zm 23 27,ze 28 23 0,ze 29 23 1,zm 4 28,zm 5 29])) (.kill [1,3,29,28,23,27,26,25,24])) (zQ (zQ (zQ (zE [zo 31 (.bsl 1 [z0,z0,z0] [(0,(1,zw 1)),(1,(1,zw 2)),(2,(1,zw 3))] 3)] (.shut 31)) (.reg [zm 32 4,zc 33 iN [zt 31,zt 32],zm 30 33,ze 34 30 0,ze 35 30 1,zm 6 34,zm 7 35])) (.kill [4,35,34,30,33,32,31])) (zQ (zQ (zr [zm 36 5,zj 37 .neq 36 0,zm 38 37,zh 39 7 38 false,zg 40 (.un .not (zt 39)) 38 false,zo 41 (.pick (zt 38) zT (zt 40)),zm 42 41,zh 43 6 42 false,zg 44 (.lenL (zt 43)) 42 false,zg 45 (.bin .neq (zt 44) (zw 3)) 42 false,zo 46 (.pick (zt 42) zT (zt 45))] [5,7,45,44,43,42,41,40,39,38,37,36]) (zC 46 (zK [6,46] (zE [zo 0 (.mov zF)] .ret)) (zK [46] .skip))) (zQ (zR (zq (zm 48 6) (zq (zo 49 (.iad (zt 48) (zw 0) 2)) (zq (zv 50 2 49) (zq (zm 51 6) (zq (zo 52 (.iad (zt 51) (zw 2) 2)) (zq (zv 53 2 52) (zA (zo 54 (.bsl 2 [zU,zU,zU,zU] [(0,(2,zt 50)),(2,(2,zt 53))] 2)) [] (zA (zc 55 dW [zt 54]) [] (zq (zm 47 55) (zq (ze 56 47 0) (zq (ze 57 47 1) (zq (zm 8 56) (zq (zm 9 57) (.done false)))))) .no) .no))))))) [57,56,47,55,54,53,52,51,50,49,48]) (zQ (zr [zm 59 6,zo 60 (.slc (zt 59) (some (zw 1)) none 2),zc 61 dW [zt 60],zm 58 61,ze 62 58 0,ze 63 58 1,zm 10 62,zm 11 63] [6,63,62,58,61,60,59]) (zQ (zr [zm 64 9,zj 65 .eql 64 0,zm 66 65,zh 67 11 66 true,zg 68 (.bin .eql (zt 67) (zw 0)) 66 true,zo 69 (.pick (zt 66) (zt 68) zF),zm 70 69,zh 71 8 70 true,zg 72 (.bin .eql (zt 71) (zu 9)) 70 true,zo 73 (.pick (zt 70) (zt 72) zF),zm 74 73,zh 75 10 74 true,zg 76 (.bin .eql (zt 75) (zu 9)) 74 true,zo 77 (.pick (zt 74) (zt 76) zF),zm 0 77] [9,11,8,10,77,76,75,74,73,72,71,70,69,68,67,66,65,64]) .ret)))))))))⟩
theorem aL0:aB prog qZ [(25,none,1000),(31,none,1000)]=some aHk:=by kernel_rfl
def aL1:HFun:=⟨24,[(2,none)],zQ (zr [zN 2] [2]) (zQ (zE [zN 3] (.own 3 none 1)) (zQ (zE [zk 4 0] (zP 0 (zQ (zQ (zr [zm 5 4,zm 6 0,zn 7 6,zb 8 .lss 5 7,zm 9 8,zh 10 4 9 true,zg 11 (.bin .lss (zt 10) (zw 7)) 9 true,zo 12 (.pick (zt 9) (zt 11) zF)] [11,10,9,8,7,6,5]) (zC 12 (zK [12] .skip) (zK [0,4,12] (.exit 0)))) (zQ (.block 1 (zQ (zr [zm 15 3,zm 16 0,zm 17 4,zi 18 16 17 1,zl 19 18,zc 20 fY [zt 19,zw 8],zo 21 (.bsl 1 [z0] [(0,(1,zt 20))] 1),zo 22 (.app (zt 15) (zt 21) 1 8),zm 3 22] [22,21,20,19,18,17,16,15]) (.own 3 none 1))) (zr [zm 13 4,zj 14 .add 13 1,zm 4 14] [14,13]))))) (zQ (zQ (zr [zm 23 3,zm 2 23] [3,23]) (.own 2 none 1)) .ret)))⟩
theorem aM9:aB prog zD [(2,none,1),(3,none,1)]=some aL1:=by kernel_rfl
def aDL:HFun:=⟨79,[(12,none),(13,none)],zQ (zr [zo 6 (.box (zt 0)),zN 12,zk 13 0] [0,13,12]) (zQ (zr [zv 22 5 6,zm 23 2,zm 24 3,zc 25 vG [zt 22,zt 23,zt 24],zm 14 25] [25,24,23,22]) (zQ (zQ (zr [zm 26 14,zj 27 .neq 26 0] [26]) (zC 27 (zK [3,1,2,6,4,5,27] (zQ (zQ (zr [zm 28 14,zN 12,zm 13 28] [14,28]) (.own 12 none 4)) .ret)) (zK [14,27] .skip))) (zQ (zE [zN 15] (.own 15 none 1)) (zQ (zE [zk 16 1] (zP 0 (zQ (zQ (zr [zm 29 16,zm 30 3,zb 31 .lss 29 30] [30,29]) (zC 31 (zK [31] .skip) (zK [16,31] (.exit 0)))) (zQ (.block 1 (zQ (zr [zm 34 15,zm 35 4,zm 36 5,zm 37 16,zc 38 oV [zt 35,zt 36,zt 37],zo 39 (.bsl 1 [zU] [(0,(1,zt 38))] 1),zo 40 (.app (zt 34) (zt 39) 1 8),zm 15 40] [40,39,38,37,36,35,34]) (.own 15 none 1))) (zr [zm 32 16,zj 33 .add 32 1,zm 16 33] [33,32]))))) (zQ (zr [zm 41 1,zm 42 15,zm 43 2,zn 44 43,zc 45 rC [zt 41,zt 42,zt 44],zm 17 45] [1,15,45,44,43,42,41]) (zQ (zE [zN 18] (.own 18 none 4)) (zQ (zE [zk 19 0] (zP 2 (zQ (zQ (zr [zm 46 19,zm 47 2,zn 48 47,zb 49 .lss 46 48] [48,47,46]) (zC 49 (zK [49] .skip) (zK [6,2,19,17,3,5,4,49] (.exit 2)))) (zQ (.block 3 (zQ (zR (zq (zv 53 5 6) (zq (zm 54 2) (zq (zm 55 19) (zq (zi 56 54 55 1) (zq (zl 57 56) (zA (zc 58 kC [zt 53,zt 57]) [] (zq (zm 52 58) (zq (ze 59 52 0) (zq (ze 60 52 1) (zA (zo 20 (.alloc [z0,z0,zU,zU,zU])) [ze 60 52 1,ze 59 52 0,zm 52 58] (zA (zs (.st 5 (zt 20) (zt 59))) [ze 60 52 1] (zq (zm 21 60) (.done true)) .no) .no)))) (zA (zo 20 (.alloc [z0,z0,zU,zU,zU])) [zl 57 56,zi 56 54 55 1,zm 55 19,zm 54 2,zv 53 5 6] (zA (zc 58 kC [zt 53,zt 57]) [] (zq (zm 52 58) (zq (ze 59 52 0) (zq (ze 60 52 1) (zA (zs (.st 5 (zt 20) (zt 59))) [ze 60 52 1] (zq (zm 21 60) (.done true)) .no)))) .no) .no))))))) [21,60,59,52,58,57,56,55,54,53]) (zQ (zR (zq (zm 61 18) (zq (zf 62 20 3) (zq (zl 63 62) (zq (zm 64 4) (zq (zm 65 5) (zq (zm 66 3) (zq (zm 67 19) (zq (zb 68 .add 66 67) (zq (zm 70 17) (zq (zm 71 19) (zq (zi 72 70 71 2) (zq (zf 73 72 1) (zq (zl 74 73) (zA (zc 69 oV [zt 64,zt 65,zt 68]) [zl 74 73,zf 73 72 1,zi 72 70 71 2,zm 71 19,zm 70 17,zl 63 62,zf 62 20 3,zm 61 18] (zA (zc 75 tR [zt 63,zt 69,zt 74]) [zm 61 18] (zA (zo 76 (.bsl 4 [zU,zU,zU,zU] [(0,(4,zt 75))] 1)) [zm 61 18] (zA (zo 77 (.app (zt 61) (zt 76) 4 32)) [] (zA (zm 18 77) [] (.done false) .no) .no) .no) .no) .no)))))))))))))) [20,77,76,75,74,73,72,71,70,69,68,67,66,65,64,63,62,61]) (.own 18 none 4)))) (zr [zm 50 19,zj 51 .add 50 1,zm 19 51] [51,50]))))) (zQ (zQ (zr [zm 78 18,zm 12 78,zk 13 0] [18,78]) (.own 12 none 4)) .ret))))))))⟩
theorem aCV:aB prog iX [(12,none,4),(15,none,1),(18,none,4)]=some aDL:=by kernel_rfl
def aAI:HFun:=⟨26,[(4,none)],zQ (zr [zo 4 (.mov zF)] [4]) (zQ (zQ (zr [zm 6 0,zn 7 6,zm 8 1,zn 9 8,zb 10 .neq 7 9] [9,8,7,6]) (zC 10 (zK [1,0,10] (zE [zo 4 (.mov zF)] .ret)) (zK [10] .skip))) (zQ (zE [zk 5 0] (zP 0 (zQ (zQ (zr [zm 11 5,zm 12 0,zn 13 12,zb 14 .lss 11 13] [13,12,11]) (zC 14 (zK [14] .skip) (zK [0,5,1,14] (.exit 0)))) (zQ (.block 1 (zQ (zR (zq (zm 17 0) (zq (zm 18 5) (zq (zi 19 17 18 4) (zq (zv 20 4 19) (zq (zm 21 1) (zq (zm 22 5) (zq (zi 23 21 22 4) (zq (zv 24 4 23) (zq (zo 25 (.eqa true [.int .u64,.int .u64,.int .u64,.int .u64] (zt 20) (zt 24))) (.done false)))))))))) [24,23,22,21,20,19,18,17]) (zC 25 (zK [5,1,0,25] (zE [zo 4 (.mov zF)] .ret)) (zK [25] .skip)))) (zr [zm 15 5,zj 16 .add 15 1,zm 5 16] [16,15]))))) (zE [zo 4 (.mov zT)] .ret)))⟩
theorem aDM:aB prog nJ []=some aAI:=by kernel_rfl
def aL2:HFun:=⟨184,[(2,some (some 5))],zE [zo 2 (.alloc [zS,zS,zS,zS,zS])] (zQ (zr [zc 22 oX [],zc 23 lO [zt 22],zc 24 aFz [zt 23],zo 3 (.alloc [zS,zS,zS,zS,zS]),zs (.st 5 (zt 3) (zt 24))] [24,23,22]) (zQ (zr [zv 25 5 3,zo 26 (.bld [z0,z0,z0,z0,zS,z0,z0,z0,z0,zS,z0,z0,zU,z0,zS,zS,z0,z0,zU,zS,z0,z0,zS,zU,zS,zU,zU] [(0,(1,zw 1)),(2,(1,zw 1))]),zc 27 cN [zt 25,zt 26,.const (zS)],zs (.st 5 (zt 3) (zt 27))] [27,26,25]) (zQ (zR (zq (zv 28 5 3) (zq (zo 29 (.bld [z0,z0,z0,z0,zS,z0,z0,z0,z0,zS,z0,z0,zU,z0,zS,zS,z0,z0,zU,zS,z0,z0,zS,zU,zS,zU,zU] [(0,(1,zw 1)),(2,(1,zw 2)),(5,(1,zw 2)),(8,(1,zw 3))])) (zq (zv 30 5 3) (zA (zc 31 fJ [zt 30]) [zo 29 (.bld [z0,z0,z0,z0,zS,z0,z0,z0,z0,zS,z0,z0,zU,z0,zS,zS,z0,z0,zU,zS,z0,z0,zS,zU,zS,zU,zU] [(0,(1,zw 1)),(2,(1,zw 2)),(5,(1,zw 2)),(8,(1,zw 3))]),zv 28 5 3] (zA (zc 32 cN [zt 28,zt 29,zt 31]) [] (zA (zs (.st 5 (zt 3) (zt 32))) [] (.done false) .no) .no) .no)))) [32,31,30,29,28]) (zQ (zR (zq (zv 33 5 3) (zq (zo 34 (.bld [z0,z0,z0,z0,zS,z0,z0,z0,z0,zS,z0,z0,zU,z0,zS,zS,z0,z0,zU,zS,z0,z0,zS,zU,zS,zU,zU] [(0,(1,zw 1)),(2,(1,zw 2)),(5,(1,zw 3)),(8,(1,zw 2))])) (zq (zv 35 5 3) (zA (zc 36 fJ [zt 35]) [zo 34 (.bld [z0,z0,z0,z0,zS,z0,z0,z0,z0,zS,z0,z0,zU,z0,zS,zS,z0,z0,zU,zS,z0,z0,zS,zU,zS,zU,zU] [(0,(1,zw 1)),(2,(1,zw 2)),(5,(1,zw 3)),(8,(1,zw 2))]),zv 33 5 3] (zA (zc 37 cN [zt 33,zt 34,zt 36]) [] (zA (zs (.st 5 (zt 3) (zt 37))) [] (.done false) .no) .no) .no)))) [37,36,35,34,33]) (zQ (zR (zq (zv 38 5 3) (zq (zo 39 (.bld [z0,z0,z0,z0,zS,z0,z0,z0,z0,zS,z0,z0,zU,z0,zS,zS,z0,z0,zU,zS,z0,z0,zS,zU,zS,zU,zU] [(0,(1,zw 2)),(2,(1,zw 2)),(5,(1,zw 5)),(8,(1,zw 1))])) (zq (zv 40 5 3) (zA (zc 41 fJ [zt 40]) [zo 39 (.bld [z0,z0,z0,z0,zS,z0,z0,z0,z0,zS,z0,z0,zU,z0,zS,zS,z0,z0,zU,zS,z0,z0,zS,zU,zS,zU,zU] [(0,(1,zw 2)),(2,(1,zw 2)),(5,(1,zw 5)),(8,(1,zw 1))]),zv 38 5 3] (zA (zc 42 cN [zt 38,zt 39,zt 41]) [] (zA (zs (.st 5 (zt 3) (zt 42))) [] (.done false) .no) .no) .no)))) [42,41,40,39,38]) (zQ (zr [zm 43 0,zc 44 oY [zt 43,zw 0],zm 4 44] [44,43]) (zQ (zQ (zr [zo 45 (.bsl 1 [z0,z0,z0] [(0,(1,zw 2)),(1,(1,zw 3)),(2,(1,zw 5))] 3),zo 46 (.bsl 1 [z0,z0] [(0,(1,zw 2)),(1,(1,zw 3))] 2),zo 47 (.bsl 1 [z0,z0,z0,z0] [(0,(1,zw 1)),(1,(1,zw 2)),(2,(1,zw 3)),(3,(1,zw 5))] 4),zo 48 (.bsl 1 [z0] [(0,(1,zw 3))] 1),zo 49 (.bsl 1 [z0,z0] [(0,(1,zw 2)),(1,(1,zw 5))] 2),zo 50 (.bsl 1 [zS,zS,zS,zS,zS] [(0,(1,zt 45)),(1,(1,zt 46)),(2,(1,zt 47)),(3,(1,zt 48)),(4,(1,zt 49))] 5),zm 51 4,zj 52 .rem 51 5,zi 53 50 52 1,zl 54 53,zm 5 54] [54,53,52,51,50,49,48,47,46,45]) (.shut 5)) (zQ (zr [zm 55 4,zj 56 .quo 55 5,zm 57 5,zn 58 57,zb 59 .rem 56 58,zo 60 (.bin .add (zw 1) (zt 59)),zm 6 60] [60,59,58,57,56,55]) (zQ (zR (zq (zv 62 5 3) (zq (zm 64 5) (zq (zm 65 6) (zq (zm 66 4) (zq (zo 67 (.conv .u64 (zt 66))) (zA (zc 63 nY []) [zo 67 (.conv .u64 (zt 66)),zm 66 4,zm 65 6,zm 64 5,zv 62 5 3] (zA (zc 68 iX [zt 62,zt 63,zt 64,zt 65,zt 67,.const (zS)]) [] (zq (zm 61 68) (zq (ze 69 61 0) (zq (ze 70 61 1) (zq (zm 7 69) (zq (zm 8 70) (.done false)))))) .no) .no)))))) [8,70,69,61,68,67,66,65,64,63,62]) (zQ (zR (zq (zv 71 5 3) (zq (zm 72 5) (zq (zm 73 6) (zq (zm 74 4) (zq (zj 75 .quo 74 25) (zq (zj 76 .rem 75 3) (zq (zm 79 7) (zq (zv 81 5 3) (zA (zc 77 nY []) [zv 81 5 3,zm 79 7,zj 76 .rem 75 3,zj 75 .quo 74 25,zm 74 4,zm 73 6,zm 72 5,zv 71 5 3] (zA (zc 78 xT [zt 77]) [zv 81 5 3,zm 79 7,zj 76 .rem 75 3,zj 75 .quo 74 25,zm 74 4,zm 73 6,zm 72 5,zv 71 5 3] (zq (zo 80 (.bld [z0,z0,z0,z0,zS,z0,z0,z0,z0,zS,z0,z0,zU,z0,zS,zS,z0,z0,zU,zS,z0,z0,zS,zU,zS,zU,zU] [(0,(1,zw 1)),(2,(1,zw 9)),(19,(1,zt 72)),(20,(1,zt 73)),(21,(1,zt 76)),(23,(1,zt 78)),(22,(1,zt 79))])) (zA (zc 82 fJ [zt 81]) [zo 80 (.bld [z0,z0,z0,z0,zS,z0,z0,z0,z0,zS,z0,z0,zU,z0,zS,zS,z0,z0,zU,zS,z0,z0,zS,zU,zS,zU,zU] [(0,(1,zw 1)),(2,(1,zw 9)),(19,(1,zt 72)),(20,(1,zt 73)),(21,(1,zt 76)),(23,(1,zt 78)),(22,(1,zt 79))]),zm 79 7,zj 76 .rem 75 3,zj 75 .quo 74 25,zm 74 4,zm 73 6,zm 72 5,zv 71 5 3] (zA (zc 83 cN [zt 71,zt 80,zt 82]) [] (zA (zs (.st 5 (zt 3) (zt 83))) [] (.done false) .no) .no) .no)) .no) .no))))))))) [4,7,83,82,81,80,79,78,77,76,75,74,73,72,71]) (zQ (zr [zv 85 5 3,zc 86 wS [zt 85],zm 84 86,ze 87 84 0,ze 88 84 1,zo 9 (.alloc [z0,z0,zU]),zs (.st 3 (zt 9) (zt 87)),zm 10 88] [10,88,87,84,86,85]) (zQ (zE [zk 11 0] (zP 0 (zQ (zQ (zr [zm 89 11,zj 90 .lss 89 9,zm 91 90,zh 92 11 91 true,zg 93 (.bin .mul (zw 2) (zt 92)) 91 true,zg 94 (.bin .add (zw 1) (zt 93)) 91 true,zh 95 0 91 true,zg 96 (.lenL (zt 95)) 91 true,zg 97 (.bin .lss (zt 94) (zt 96)) 91 true,zo 98 (.pick (zt 91) (zt 97) zF)] [97,96,95,94,93,92,91,90,89]) (zC 98 (zK [98] .skip) (zK [0,11,5,6,9,98] (.exit 0)))) (zQ (.block 1 (zQ (zr [zm 101 0,zm 102 11,zo 103 (.bin .mul (zw 2) (zt 102)),zo 104 (.bin .add (zw 1) (zt 103)),zc 105 oY [zt 101,zt 104],zm 12 105] [105,104,103,102,101]) (zQ (zr [zm 106 0,zm 107 11,zo 108 (.bin .mul (zw 2) (zt 107)),zo 109 (.bin .add (zw 2) (zt 108)),zc 110 oY [zt 106,zt 109],zm 13 110] [110,109,108,107,106]) (zQ (zQ (zr [zm 111 12,zj 112 .rem 111 4,zj 113 .eql 112 0] [112,111]) (zC 113 (zK [113] (zQ (zr [zv 115 5 3,zm 116 5,zm 117 6,zm 118 12,zo 119 (.conv .u64 (zt 118)),zo 120 (.bin .add (zt 119) (zu 5)),zc 121 iX [zt 115,zu 0,zt 116,zt 117,zt 120,.const (zS)],zm 114 121,ze 122 114 0,ze 123 114 1,zm 14 122,zm 15 123] [12,15,123,122,114,121,120,119,118,117,116,115]) (zQ (zR (zq (zv 124 5 3) (zq (zv 125 3 9) (zq (zm 126 14) (zq (zo 127 (.bld [z0,z0,z0,z0,zS,z0,z0,z0,z0,zS,z0,z0,zU,z0,zS,zS,z0,z0,zU,zS,z0,z0,zS,zU,zS,zU,zU] [(0,(1,zw 1)),(2,(1,zw 10)),(16,(3,zt 125)),(22,(1,zt 126))])) (zq (zv 128 5 3) (zq (zm 129 13) (zA (zc 130 aJa [zt 128,zw 1,zt 129]) [zo 127 (.bld [z0,z0,z0,z0,zS,z0,z0,z0,z0,zS,z0,z0,zU,z0,zS,zS,z0,z0,zU,zS,z0,z0,zS,zU,zS,zU,zU] [(0,(1,zw 1)),(2,(1,zw 10)),(16,(3,zt 125)),(22,(1,zt 126))]),zm 126 14,zv 125 3 9,zv 124 5 3] (zA (zc 131 cN [zt 124,zt 127,zt 130]) [] (zA (zs (.st 5 (zt 3) (zt 131))) [] (.done false) .no) .no) .no))))))) [14,13,131,130,129,128,127,126,125,124]) (.exit 1)))) (zK [113] .skip))) (zQ (zr [zm 132 5,zm 133 12,zj 134 .quo 133 4,zm 135 5,zn 136 135,zb 137 .rem 134 136,zi 138 132 137 1,zl 139 138,zm 16 139] [12,139,138,137,136,135,134,133,132]) (zQ (zr [zv 140 5 3,zm 141 16,zm 142 13,zc 143 aJa [zt 140,zt 141,zt 142],zm 17 143] [143,142,141,140]) (zQ (zR (zq (zv 145 5 3) (zq (zm 146 17) (zq (zv 147 3 9) (zq (zm 148 16) (zq (zm 149 16) (zA (zc 150 fC [.const (.string (Hud.bs [107,101,101,112])),zt 149]) [zm 148 16,zv 147 3 9,zm 146 17,zv 145 5 3] (zA (zc 151 aDd [zt 145,zt 146,zt 147,zt 148,zt 150]) [] (zq (zm 144 151) (zq (ze 152 144 0) (zq (ze 153 144 1) (zA (zo 18 (.alloc [zU,zU])) [ze 153 144 1,ze 152 144 0,zm 144 151] (zA (zs (.st 2 (zt 18) (zt 152))) [ze 153 144 1] (zq (zm 19 153) (.done true)) .no) .no)))) (zA (zo 18 (.alloc [zU,zU])) [zm 148 16,zv 147 3 9,zm 146 17,zv 145 5 3] (zA (zc 151 aDd [zt 145,zt 146,zt 147,zt 148,zt 150]) [] (zq (zm 144 151) (zq (ze 152 144 0) (zq (ze 153 144 1) (zA (zs (.st 2 (zt 18) (zt 152))) [ze 153 144 1] (zq (zm 19 153) (.done true)) .no)))) .no) .no)) (zA (zo 18 (.alloc [zU,zU])) [zm 149 16,zm 148 16,zv 147 3 9,zm 146 17,zv 145 5 3] (zA (zc 150 fC [.const (.string (Hud.bs [107,101,101,112])),zt 149]) [zm 148 16,zv 147 3 9,zm 146 17,zv 145 5 3] (zA (zc 151 aDd [zt 145,zt 146,zt 147,zt 148,zt 150]) [] (zq (zm 144 151) (zq (ze 152 144 0) (zq (ze 153 144 1) (zA (zs (.st 2 (zt 18) (zt 152))) [ze 153 144 1] (zq (zm 19 153) (.done true)) .no)))) .no) .no) .no))))))) [153,152,144,151,150,149,148,147,146,145]) (zQ (zQ (zr [zm 154 19,zj 155 .neq 154 0] [19,154]) (zC 155 (zK [13,18,16,17,155] (.exit 1)) (zK [155] .skip))) (zQ (zQ (zr [zm 156 13,zj 157 .rem 156 23,zj 158 .eql 157 7] [157,156]) (zC 158 (zK [158] (zr [zf 159 18 1,zl 160 159,zc 161 nZ [zt 160,zu 1],zf 162 18 1,zs (.st 1 (zt 162) (zt 161))] [162,161,160,159])) (zK [158] .skip))) (zQ (zr [zv 164 5 3,zc 165 kC [zt 164,zw 4],zm 163 165,ze 166 163 0,ze 167 163 1,zo 20 (.alloc [z0,z0,zU,zU,zU]),zs (.st 5 (zt 20) (zt 166)),zm 21 167] [21,167,166,163,165,164]) (zR (zq (zv 168 5 3) (zq (zm 169 16) (zq (zv 170 3 9) (zq (zf 171 20 3) (zq (zl 172 171) (zq (zm 173 13) (zq (zo 174 (.conv .u64 (zt 173))) (zq (zf 176 18 1) (zq (zl 177 176) (zq (zm 181 17) (zA (zc 175 fZ [zt 174]) [zm 181 17,zl 177 176,zf 176 18 1,zl 172 171,zf 171 20 3,zv 170 3 9,zm 169 16,zv 168 5 3] (zA (zc 178 tR [zt 172,zt 175,zt 177]) [zm 181 17,zv 170 3 9,zm 169 16,zv 168 5 3] (zA (zo 179 (.bsl 4 [zU,zU,zU,zU] [(0,(4,zt 178))] 1)) [zm 181 17,zv 170 3 9,zm 169 16,zv 168 5 3] (zq (zo 180 (.bld [z0,z0,z0,z0,zS,z0,z0,z0,z0,zS,z0,z0,zU,z0,zS,zS,z0,z0,zU,zS,z0,z0,zS,zU,zS,zU,zU] [(0,(1,zt 169)),(2,(1,zw 11)),(16,(3,zt 170)),(5,(1,zw 4)),(22,(1,zt 179))])) (zA (zc 182 cN [zt 168,zt 180,zt 181]) [] (zA (zs (.st 5 (zt 3) (zt 182))) [] (.done false) .no) .no)) .no) .no) .no))))))))))) [16,20,13,18,17,182,181,180,179,178,177,176,175,174,173,172,171,170,169,168]))))))))))) (zr [zm 99 11,zj 100 .add 99 1,zm 11 100] [100,99]))))) (zQ (zr [zv 183 5 3,zs (.st 5 (zt 2) (zt 183))] [3,183]) .ret)))))))))))))⟩
theorem aMa:aB prog tO [(5,none,0)]=some aL2:=by kernel_rfl
def aL3:HFun:=⟨5,[(2,none)],zQ (zr [zo 2 (.mov (zu 0))] [2]) (zQ (zr [zm 3 0,zc 4 fC [.const (.string (Hud.bs [107,101,101,112])),zt 3],zm 2 4] [0,4,3]) .ret)⟩
theorem aMb:aB prog aDa []=some aL3:=by kernel_rfl
def aBN:HFun:=⟨55,[(6,none)],zQ (zr [zo 3 (.box (zt 0)),zk 6 0] [0,6]) (zQ (zQ (zr [zm 11 2,zj 12 .lss 11 1,zm 13 12,zh 14 2 13 false,zh 15 1 13 false,zg 16 (.lenL (zt 15)) 13 false,zg 17 (.bin .gtr (zt 14) (zt 16)) 13 false,zo 18 (.pick (zt 13) zT (zt 17)),zm 19 18,zh 20 1 19 false,zg 21 (.lenL (zt 20)) 19 false,zg 22 (.bin .gtr (zt 21) (zw 12)) 19 false,zo 23 (.pick (zt 19) zT (zt 22))] [2,22,21,20,19,18,17,16,15,14,13,12,11]) (zC 23 (zK [3,1,23] (zE [zk 6 1] .ret)) (zK [23] .skip))) (zQ (zE [zk 7 0] (zP 0 (zQ (zQ (zr [zm 24 7,zm 25 1,zn 26 25,zb 27 .lss 24 26] [26,25,24]) (zC 27 (zK [27] .skip) (zK [7,27] (.exit 0)))) (zQ (.block 1 (zQ (zR (zq (zm 30 1) (zq (zm 31 7) (zq (zo 32 (.slc (zt 30) none (some (zt 31)) 1)) (zq (zm 33 1) (zq (zm 34 7) (zq (zi 35 33 34 1) (zq (zl 36 35) (zA (zc 37 cM [zt 32,zt 36]) [] (.done false) .no)))))))) [36,35,34,33,32,31,30]) (zC 37 (zK [7,3,1,37] (zE [zk 6 1] .ret)) (zK [37] .skip)))) (zr [zm 28 7,zj 29 .add 28 1,zm 7 29] [29,28]))))) (zQ (zE [zk 8 0] (zP 2 (zQ (zQ (zr [zm 38 8,zm 39 1,zn 40 39,zb 41 .lss 38 40] [40,39,38]) (zC 41 (zK [41] .skip) (zK [3,1,8,41] (.exit 2)))) (zQ (.block 3 (zQ (zR (zq (zv 45 5 3) (zq (zm 46 1) (zq (zm 47 8) (zq (zi 48 46 47 1) (zq (zl 49 48) (zA (zc 50 kC [zt 45,zt 49]) [] (zq (zm 44 50) (zq (ze 51 44 0) (zq (ze 52 44 1) (zA (zo 9 (.alloc [z0,z0,zU,zU,zU])) [ze 52 44 1,ze 51 44 0,zm 44 50] (zA (zs (.st 5 (zt 9) (zt 51))) [ze 52 44 1] (zq (zm 10 52) (.done true)) .no) .no)))) (zA (zo 9 (.alloc [z0,z0,zU,zU,zU])) [zl 49 48,zi 48 46 47 1,zm 47 8,zm 46 1,zv 45 5 3] (zA (zc 50 kC [zt 45,zt 49]) [] (zq (zm 44 50) (zq (ze 51 44 0) (zq (ze 52 44 1) (zA (zs (.st 5 (zt 9) (zt 51))) [ze 52 44 1] (zq (zm 10 52) (.done true)) .no)))) .no) .no))))))) [9,52,51,44,50,49,48,47,46,45]) (zQ (zr [zm 53 10,zo 54 (.un .not (zt 53))] [10,53]) (zC 54 (zK [8,3,1,54] (zE [zk 6 17] .ret)) (zK [54] .skip))))) (zr [zm 42 8,zj 43 .add 42 1,zm 8 43] [43,42]))))) (zE [zk 6 0] .ret))))⟩
theorem aBO:aB prog vG []=some aBN:=by kernel_rfl
def aNs:HFun:=⟨36,[(6,some (some 5))],zQ (zr [zo 3 (.box (zt 0)),zo 4 (.box (zt 1)),zo 6 (.alloc [zS,zS,zS,zS,zS])] [0,1]) (zQ (zr [zv 9 5 3,zm 10 2,zc 11 dI [zt 9,zt 10],zf 12 4 4,zs (.st 1 (zt 12) (zt 11))] [12,11,10,9]) (zQ (zr [zv 13 5 3,zm 14 2,zf 15 4 0,zl 16 15,zc 17 aFA [zt 13,zt 14,zt 16],zf 18 4 1,zs (.st 1 (zt 18) (zt 17))] [18,17,16,15,14,13]) (zQ (zr [zv 19 5 3,zm 20 2,zc 21 aDf [zt 19,zt 20],zf 22 4 3,zs (.st 1 (zt 22) (zt 21))] [2,22,21,20,19]) (zQ (zR (zq (zv 24 5 3) (zq (zv 25 5 3) (zq (zv 26 27 4) (zA (zc 27 dY [zt 25,zt 26]) [zv 24 5 3] (zA (zc 28 bN [zt 27]) [zv 24 5 3] (zA (zc 29 eE [zt 24,zt 28]) [] (zq (zm 23 29) (zq (ze 30 23 0) (zq (ze 31 23 1) (zA (zo 7 (.alloc [zS,zS,zS,zS,zS])) [ze 31 23 1,ze 30 23 0,zm 23 29] (zA (zs (.st 5 (zt 7) (zt 30))) [ze 31 23 1] (zq (zm 8 31) (.done true)) .no) .no)))) (zA (zo 7 (.alloc [zS,zS,zS,zS,zS])) [zv 24 5 3] (zA (zc 29 eE [zt 24,zt 28]) [] (zq (zm 23 29) (zq (ze 30 23 0) (zq (ze 31 23 1) (zA (zs (.st 5 (zt 7) (zt 30))) [ze 31 23 1] (zq (zm 8 31) (.done true)) .no)))) .no) .no)) (zA (zo 7 (.alloc [zS,zS,zS,zS,zS])) [zv 24 5 3] (zA (zc 28 bN [zt 27]) [zv 24 5 3] (zA (zc 29 eE [zt 24,zt 28]) [] (zq (zm 23 29) (zq (ze 30 23 0) (zq (ze 31 23 1) (zA (zs (.st 5 (zt 7) (zt 30))) [ze 31 23 1] (zq (zm 8 31) (.done true)) .no)))) .no) .no) .no)) (zA (zo 7 (.alloc [zS,zS,zS,zS,zS])) [zv 26 27 4,zv 25 5 3,zv 24 5 3] (zA (zc 27 dY [zt 25,zt 26]) [zv 24 5 3] (zA (zc 28 bN [zt 27]) [zv 24 5 3] (zA (zc 29 eE [zt 24,zt 28]) [] (zq (zm 23 29) (zq (ze 30 23 0) (zq (ze 31 23 1) (zA (zs (.st 5 (zt 7) (zt 30))) [ze 31 23 1] (zq (zm 8 31) (.done true)) .no)))) .no) .no) .no) .no))))) [4,31,30,23,29,28,27,26,25,24]) (zQ (zQ (zr [zm 32 8,zj 33 .neq 32 0] [8,32]) (zC 33 (zK [7,33] (zQ (zr [zv 34 5 3,zs (.st 5 (zt 6) (zt 34))] [3,34]) .ret)) (zK [3,33] .skip))) (zQ (zr [zv 35 5 7,zs (.st 5 (zt 6) (zt 35))] [7,35]) .ret))))))⟩
theorem aOO:aB prog cN []=some aNs:=by kernel_rfl
def aF1:HFun:=⟨14,[(4,none)],zQ (zr [zk 4 0] [4]) (zQ (zQ (zr [zm 5 1,zm 6 0,zn 7 6,zb 8 .geq 5 7] [7,6,5]) (zC 8 (zK [0,1,8] (zE [zk 4 0] .ret)) (zK [8] .skip))) (zQ (zr [zm 9 0,zm 10 1,zi 11 9 10 1,zl 12 11,zc 13 fY [zt 12,zw 1000000],zm 4 13] [0,1,13,12,11,10,9]) .ret))⟩
theorem aHO:aB prog oY []=some aF1:=by kernel_rfl
def aHl:HFun:=⟨2,[(0,none)],zQ (zr [zo 0 (.mov (zu 0))] [0]) (zQ (zr [zc 1 fZ [zu 77777],zm 0 1] [1]) .ret)⟩
theorem aL4:aB prog nY []=some aHl:=by kernel_rfl
def aCW:HFun:=⟨27,[(2,some (some 3)),(3,none)],zQ (zr [zo 1 (.box (zt 0)),zo 2 (.alloc [z0,z0,zU]),zo 3 (.mov (zu 0))] [0,3]) (zQ (zE [zk 4 0] (zP 0 (zQ (zQ (zr [zm 5 4,zf 6 1 1,zl 7 6,zn 8 7,zb 9 .lss 5 8] [8,7,6,5]) (zC 9 (zK [9] .skip) (zK [1,4,9] (.exit 0)))) (zQ (.block 1 (zQ (zr [zf 12 1 1,zl 13 12,zm 14 4,zi 15 13 14 27,zf 16 15 2,zl 17 16,zj 18 .eql 17 9] [17,16,15,14,13,12]) (zC 18 (zK [18] (zQ (zR (zq (zf 19 1 2) (zq (zl 20 19) (zq (zm 21 4) (zq (zi 22 20 21 3) (zq (zv 23 3 22) (zA (zc 24 nY []) [zv 23 3 22,zi 22 20 21 3,zm 21 4,zl 20 19,zf 19 1 2] (zA (zs (.st 3 (zt 2) (zt 23))) [] (zq (zm 3 24) (.done false)) .no) .no)))))) [1,4,24,23,22,21,20,19]) .ret)) (zK [18] .skip)))) (zr [zm 10 4,zj 11 .add 10 1,zm 4 11] [11,10]))))) (zQ (zr [zo 25 (.bld [z0,z0,zU] []),zc 26 nY [],zs (.st 3 (zt 2) (zt 25)),zm 3 26] [26,25]) .ret))⟩
theorem aG9:aB prog wS []=some aCW:=by kernel_rfl
end
end Hud
