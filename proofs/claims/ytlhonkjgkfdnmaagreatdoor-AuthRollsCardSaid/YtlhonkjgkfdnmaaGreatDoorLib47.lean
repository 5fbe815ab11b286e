import Derived.Test.YtlhonkjgkfdnmaaGreatDoorLib45
set_option linter.all false
set_option maxHeartbeats 40000000
namespace Hud
open Go
variable{G:L_}
section
variable{g:GM}{x:Nat}
end
def opD(b k d m:Int):OpM:=⟨b,0,k,0,[],d,0,m,0,[],⟨0,0,0⟩,0,[],[],⟨0,0,0⟩,[],0,0,[],0,[],0,0⟩
structure Cir(X Y:OpM)(a b:Int)(s:Nat)(f:Bool)(g5 g6 g7 g8:GM):Prop where
 h5:bhM lG4 (if f=true then X else Y) [3]=g5
 h6:bhM g5 (if f=true then Y else X) [3]=g6
 h7:bhM g6 (opD a 4 0 0) [s]=g7
 h8:bhM g7 (opD b 4 0 0) [9-s]=g8
 n:g8.I.length=8
 c1:g8.I.getD s default∈kW (AM bQ g8.L) g8.I
 c2:g8.I.getD (9-s) default∉kW (AM bQ g8.L) g8.I
 c3:a∈(aMG (AM bQ g8.L) (kW (AM bQ g8.L) g8.I)).In
 c4:b∉(aMG (AM bQ g8.L) (kW (AM bQ g8.L) g8.I)).In
 c5:g8.I.getD 6 default∈kW (AM bQ g8.L) g8.I
 c6:g8.I.getD 7 default∉kW (AM bQ g8.L) g8.I
 r5:Reach bQ g5
 r6:Reach bQ g6
 r7:Reach bQ g7
 r8:Reach bQ g8
def aPq:uE bQ=bQ:=(congrArg PGM.cards lQ0).trans (show(lQ 0).cards=bQ by rw[C5];rfl)
end Hud
