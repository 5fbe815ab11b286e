import Derived.Test.YtdichbeaekjibaaGreatDoorLib20
set_option linter.all false
set_option maxHeartbeats 40000000
namespace Hud
open Go
variable{G:L_}
def pw(x i:Fq):Prop:=(x+i)^(NN/2)=1
instance (x i:Fq):Decidable (pw x i):=inferInstanceAs (Decidable (_=_))
def aPR{l:V_}(h:SR 0 l.length l):l.Pairwise (· <= ·):=by rw[QD];intro i j c a b;have:=h i j (pR _) o_ a;simp_all
end Hud
