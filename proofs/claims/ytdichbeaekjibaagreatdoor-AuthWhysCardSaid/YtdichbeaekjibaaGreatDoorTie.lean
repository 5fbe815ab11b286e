/-
  DERIVED. GIVEN WITH THE SEED: THE PROGRAM's TIES (one call each: nine closed facts by the kernel) AND EACH ROW's TIE, after the 31st guide's Derived/Test/Toyas{Tie, Card}.lean. No idea stands in it: it is a product of the set-up. Laid BY PROGRAM, IN A SANDBOX (cutbox-door.mjs). By AI agents, Wed Nov 11 2026. No macro, syntax, notation, axiom, sorry.
-/
import Derived.Test.YtdichbeaekjibaaGreatDoorRows
import Derived.LaidByTextLater
import Derived.SevenTiedAt
import Derived.LaidSub
import Derived.LaidOnce
namespace Go.Proofs.YtdichbeaekjibaaGreatDoor
open Go
set_option maxRecDepth 100000
theorem seatTie1 : Tryz.prog.laidByTextLater [("huddle/roll.asks", Rows.laid_huddle_roll_asks), ("huddle/op.kinds", Rows.laid_huddle_op_kinds)] [.funcs, .data] true :=
  Program.laidByTextLater_by_one 19 8 15 (by kernel_rfl) (by kernel_rfl) (by kernel_rfl) (by kernel_rfl) (by kernel_rfl) (by kernel_rfl) (fun _ _ => by kernel_rfl)
theorem noOwnUnsafe : Tryz.pinned.checked.prog.headLifts.contains "ownunsafe" = false := by kernel_rfl
theorem tie : Tryz.prog.laidByTextLater [("huddle/roll.asks", Rows.laid_huddle_roll_asks), ("huddle/op.kinds", Rows.laid_huddle_op_kinds)] [.funcs, .data] true :=
  Program.laidByTextLater.sub seatTie1 ["huddle/roll.asks", "huddle/op.kinds"] (by kernel_rfl) (by kernel_rfl)
theorem authKills_row_tie : Rows.authKillsRow.laidByTextAt .later Tryz.pinned [.funcs, .data] true :=
  OpenClaim.laidByTextAt_later rfl rfl tie noOwnUnsafe
theorem authCounts_row_tie : Rows.authCountsRow.laidByTextAt .later Tryz.pinned [.funcs, .data] true :=
  OpenClaim.laidByTextAt_later rfl rfl tie noOwnUnsafe
theorem authWhys_row_tie : Rows.authWhysRow.laidByTextAt .later Tryz.pinned [.funcs, .data] true :=
  OpenClaim.laidByTextAt_later rfl rfl tie noOwnUnsafe
theorem authRow_row_tie : Rows.authRowRow.laidByTextAt .later Tryz.pinned [.funcs, .data] true :=
  OpenClaim.laidByTextAt_later rfl rfl tie noOwnUnsafe
theorem authPlain_row_tie : Rows.authPlainRow.laidByTextAt .later Tryz.pinned [.funcs, .data] true :=
  OpenClaim.laidByTextAt_later rfl rfl tie noOwnUnsafe
theorem authBeside_row_tie : Rows.authBesideRow.laidByTextAt .later Tryz.pinned [.funcs, .data] true :=
  OpenClaim.laidByTextAt_later rfl rfl tie noOwnUnsafe
theorem authForks_row_tie : Rows.authForksRow.laidByTextAt .later Tryz.pinned [.funcs, .data] true :=
  OpenClaim.laidByTextAt_later rfl rfl tie noOwnUnsafe
theorem authWins_row_tie : Rows.authWinsRow.laidByTextAt .later Tryz.pinned [.funcs, .data] true :=
  OpenClaim.laidByTextAt_later rfl rfl tie noOwnUnsafe
theorem authCircles_row_tie : Rows.authCirclesRow.laidByTextAt .later Tryz.pinned [.funcs, .data] true :=
  OpenClaim.laidByTextAt_later rfl rfl tie noOwnUnsafe
theorem authRolls_row_tie : Rows.authRollsRow.laidByTextAt .later Tryz.pinned [.funcs, .data] true :=
  OpenClaim.laidByTextAt_later rfl rfl tie noOwnUnsafe
theorem authKillsUpto_row_tie : Rows.authKillsUptoRow.laidByTextAt .later Tryz.pinned [.funcs, .data] true :=
  OpenClaim.laidByTextAt_later rfl rfl tie noOwnUnsafe
theorem authCountsUpto_row_tie : Rows.authCountsUptoRow.laidByTextAt .later Tryz.pinned [.funcs, .data] true :=
  OpenClaim.laidByTextAt_later rfl rfl tie noOwnUnsafe
theorem authWhysUpto_row_tie : Rows.authWhysUptoRow.laidByTextAt .later Tryz.pinned [.funcs, .data] true :=
  OpenClaim.laidByTextAt_later rfl rfl tie noOwnUnsafe
theorem authRowUpto_row_tie : Rows.authRowUptoRow.laidByTextAt .later Tryz.pinned [.funcs, .data] true :=
  OpenClaim.laidByTextAt_later rfl rfl tie noOwnUnsafe
theorem authPlainUpto_row_tie : Rows.authPlainUptoRow.laidByTextAt .later Tryz.pinned [.funcs, .data] true :=
  OpenClaim.laidByTextAt_later rfl rfl tie noOwnUnsafe
theorem authBesideUpto_row_tie : Rows.authBesideUptoRow.laidByTextAt .later Tryz.pinned [.funcs, .data] true :=
  OpenClaim.laidByTextAt_later rfl rfl tie noOwnUnsafe
theorem authForksUpto_row_tie : Rows.authForksUptoRow.laidByTextAt .later Tryz.pinned [.funcs, .data] true :=
  OpenClaim.laidByTextAt_later rfl rfl tie noOwnUnsafe
theorem authWinsUpto_row_tie : Rows.authWinsUptoRow.laidByTextAt .later Tryz.pinned [.funcs, .data] true :=
  OpenClaim.laidByTextAt_later rfl rfl tie noOwnUnsafe
theorem authCirclesUpto_row_tie : Rows.authCirclesUptoRow.laidByTextAt .later Tryz.pinned [.funcs, .data] true :=
  OpenClaim.laidByTextAt_later rfl rfl tie noOwnUnsafe
theorem authRollsUpto_row_tie : Rows.authRollsUptoRow.laidByTextAt .later Tryz.pinned [.funcs, .data] true :=
  OpenClaim.laidByTextAt_later rfl rfl tie noOwnUnsafe
end Go.Proofs.YtdichbeaekjibaaGreatDoor
