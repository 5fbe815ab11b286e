import Derived.Test.YthlndebkfkanbaaGreatDoorLib31
set_option linter.all false
namespace Hud
open Go Go.Proofs.Tryz
section
def bAn:List (Nat×List AV×AV):=[(lO,[nns [1,2,3,1,2,3]],.ls 5 (aJ.map CardM.A)),(cN,[tG0,(tOp 1 0 1 0 0 0 0 bE bE bE 0),bE],.ag sG1.A),(cN,[(.ag sG1.A),(tOp 1 0 2 0 2 3 0 bE bE bE 0),(ids (oL sG1.I))],.ag sG2.A),(fJ,[.ag sG1.A],ids (oL sG1.I)),(cN,[(.ag sG2.A),(tOp 1 0 2 0 3 2 0 bE bE bE 0),(ids (oL sG2.I))],.ag sG3.A),(fJ,[.ag sG2.A],ids (oL sG2.I)),(cN,[(.ag sG3.A),(tOp 2 0 2 0 5 1 0 bE bE bE 0),(ids (oL sG3.I))],.ag sG4.A),(fJ,[.ag sG3.A],ids (oL sG3.I)),(cN,[(.ag sG4.A),(tOp 1 0 9 0 0 0 1 bE (nts [2,3,5]) (bxs sBL) 356236859940272499),(ids (oL sG4.I))],.ag sG5.A),(fJ,[.ag sG4.A],ids (oL sG4.I)),(oX,[],nns [1,2,3,1,2,3]),(iX,[.ag sG4.A,uv 77778,nts [2,3,5],iv 1,uv 0,bE],.tup [bxs sBL,iv 0])]
theorem bDG (G:Nat->Option (List AV)):evF G (evQ kI bAn) 300 tO [.ls 1 []] []=some (.ag [.ls 5 (aJ.map CardM.A),.ls 27 [sO1.A,sO2.A,sO3.A,sO4.A,sO5.A],.ls 3 [[iv 1,iv 1,uv 2121501834213576595],[iv 1,iv 2,uv 1178938091502474893],[iv 1,iv 3,uv 1760267547356689185],[iv 2,iv 1,uv 533371032110822859],[iv 1,iv 4,uv 1541447031150677054]],.ls 1 [[.ls 1 []],[.ls 1 [[iv 0]]],[.ls 1 [[iv 1]]],[.ls 1 [[iv 2]]],[.ls 1 [[iv 3]]]],.ls 1 [[.ls 1 [[.v (.bool false)],[.v (.bool false)],[.v (.bool false)],[.v (.bool false)],[.v (.bool false)]]],[.ls 1 [[.v (.bool true)],[.v (.bool false)],[.v (.bool false)],[.v (.bool false)],[.v (.bool false)]]],[.ls 1 [[.v (.bool true)],[.v (.bool true)],[.v (.bool false)],[.v (.bool false)],[.v (.bool false)]]],[.ls 1 [[.v (.bool true)],[.v (.bool true)],[.v (.bool true)],[.v (.bool false)],[.v (.bool false)]]],[.ls 1 [[.v (.bool true)],[.v (.bool true)],[.v (.bool true)],[.v (.bool true)],[.v (.bool false)]]]]],[]):=by kernel_rfl
section
variable {G:Nat->Option (List AV)}
theorem aYi:aD prog G lO [nns [1,2,3,1,2,3]] [] fun r T=>r=.ls 5 (aJ.map CardM.A)/\T=[]:=by
 have hc:=aZH (G:=G) [1,2,3,1,2,3] (by decide)
 rwa [aYb] at hc
theorem aYj:aEZ prog G bAn:=⟨aYi,bZ (sD nN (bBH G)) (bDo G) (by kernel_rfl),bZ (sD nN (bBI G)) (bDq G) (by kernel_rfl),bZ tQ0 (bDr G) (by kernel_rfl),bZ (sD nN (bBJ G)) (bDt G) (by kernel_rfl),bZ tQ0 (bDu G) (by kernel_rfl),bZ (sD nN (bBK G)) (bDw G) (by kernel_rfl),bZ tQ0 (bDx G) (by kernel_rfl),bZ (sD nN (bBL G)) (bDz G) (by kernel_rfl),bZ tQ0 (bDA G) (by kernel_rfl),bZ tQ0 (bFM G) (by kernel_rfl),bZ tQ0 (bDm G) (by kernel_rfl),trivial⟩
theorem bBV:aD prog G tO [.ls 1 []] [] fun r T=>∃ g,Reach aJ g/\r=.ag g.A/\T=[] :=
 (bZ (r:=.ag sG5.A) (sD nN aYj) (bDG G) (by kernel_rfl)).mono fun r T h=>⟨sG5,sR5,h.1,h.2⟩
end
end
end Hud
