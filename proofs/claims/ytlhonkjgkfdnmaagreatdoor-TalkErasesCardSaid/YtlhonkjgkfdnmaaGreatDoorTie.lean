/-
  DERIVED. GIVEN WITH THE SEED: THE PROGRAM's TIES (one call each: nine closed facts by the kernel) AND EACH ROW's TIE, after the 31st guide's Derived/Test/Toyas{Tie, Card}.lean. No idea stands in it: it is a product of the set-up. Laid BY PROGRAM, IN A SANDBOX (cutbox-door.mjs). By AI agents, Wed Nov 11 2026. No macro, syntax, notation, axiom, sorry.
-/
import Derived.Test.YtlhonkjgkfdnmaaGreatDoorRows
import Derived.LaidByTextLater
import Derived.SevenTiedAt
import Derived.LaidSub
import Derived.LaidOnce
namespace Go.Proofs.YtlhonkjgkfdnmaaGreatDoor
open Go
set_option maxRecDepth 100000
theorem seatTie1 : Tryz.prog.laidByTextLater [("huddle/roll.asks", Rows.laid_huddle_roll_asks), ("huddle/op.kinds", Rows.laid_huddle_op_kinds)] [.funcs, .data] true :=
  Program.laidByTextLater_by_one 19 8 15 (by kernel_rfl) (by kernel_rfl) (by kernel_rfl) (by kernel_rfl) (by kernel_rfl) (by kernel_rfl) (fun _ _ => by kernel_rfl)
theorem noOwnUnsafe : Tryz.pinned.checked.prog.headLifts.contains "ownunsafe" = false := by kernel_rfl
theorem tie : Tryz.prog.laidByTextLater [("huddle/roll.asks", Rows.laid_huddle_roll_asks), ("huddle/op.kinds", Rows.laid_huddle_op_kinds)] [.funcs, .data] true :=
  Program.laidByTextLater.sub seatTie1 ["huddle/roll.asks", "huddle/op.kinds"] (by kernel_rfl) (by kernel_rfl)
theorem talkLast_row_tie : Rows.talkLastRow.laidByTextAt .later Tryz.pinned [.funcs, .data] true :=
  OpenClaim.laidByTextAt_later rfl rfl tie noOwnUnsafe
theorem talkMembers_row_tie : Rows.talkMembersRow.laidByTextAt .later Tryz.pinned [.funcs, .data] true :=
  OpenClaim.laidByTextAt_later rfl rfl tie noOwnUnsafe
theorem talkRow_row_tie : Rows.talkRowRow.laidByTextAt .later Tryz.pinned [.funcs, .data] true :=
  OpenClaim.laidByTextAt_later rfl rfl tie noOwnUnsafe
theorem talkVoid_row_tie : Rows.talkVoidRow.laidByTextAt .later Tryz.pinned [.funcs, .data] true :=
  OpenClaim.laidByTextAt_later rfl rfl tie noOwnUnsafe
theorem talkErases_row_tie : Rows.talkErasesRow.laidByTextAt .later Tryz.pinned [.funcs, .data] true :=
  OpenClaim.laidByTextAt_later rfl rfl tie noOwnUnsafe
theorem authRolls_row_tie : Rows.authRollsRow.laidByTextAt .later Tryz.pinned [.funcs, .data] true :=
  OpenClaim.laidByTextAt_later rfl rfl tie noOwnUnsafe
theorem talkTells_row_tie : Rows.talkTellsRow.laidByTextAt .later Tryz.pinned [.funcs, .data] true :=
  OpenClaim.laidByTextAt_later rfl rfl tie noOwnUnsafe
theorem talkRefs_row_tie : Rows.talkRefsRow.laidByTextAt .later Tryz.pinned [.funcs, .data] true :=
  OpenClaim.laidByTextAt_later rfl rfl tie noOwnUnsafe
theorem talkLastUpto_row_tie : Rows.talkLastUptoRow.laidByTextAt .later Tryz.pinned [.funcs, .data] true :=
  OpenClaim.laidByTextAt_later rfl rfl tie noOwnUnsafe
theorem talkMembersUpto_row_tie : Rows.talkMembersUptoRow.laidByTextAt .later Tryz.pinned [.funcs, .data] true :=
  OpenClaim.laidByTextAt_later rfl rfl tie noOwnUnsafe
theorem talkRowUpto_row_tie : Rows.talkRowUptoRow.laidByTextAt .later Tryz.pinned [.funcs, .data] true :=
  OpenClaim.laidByTextAt_later rfl rfl tie noOwnUnsafe
theorem talkVoidUpto_row_tie : Rows.talkVoidUptoRow.laidByTextAt .later Tryz.pinned [.funcs, .data] true :=
  OpenClaim.laidByTextAt_later rfl rfl tie noOwnUnsafe
theorem talkErasesUpto_row_tie : Rows.talkErasesUptoRow.laidByTextAt .later Tryz.pinned [.funcs, .data] true :=
  OpenClaim.laidByTextAt_later rfl rfl tie noOwnUnsafe
theorem authRollsUpto_row_tie : Rows.authRollsUptoRow.laidByTextAt .later Tryz.pinned [.funcs, .data] true :=
  OpenClaim.laidByTextAt_later rfl rfl tie noOwnUnsafe
theorem talkTellsUpto_row_tie : Rows.talkTellsUptoRow.laidByTextAt .later Tryz.pinned [.funcs, .data] true :=
  OpenClaim.laidByTextAt_later rfl rfl tie noOwnUnsafe
theorem talkRefsUpto_row_tie : Rows.talkRefsUptoRow.laidByTextAt .later Tryz.pinned [.funcs, .data] true :=
  OpenClaim.laidByTextAt_later rfl rfl tie noOwnUnsafe
end Go.Proofs.YtlhonkjgkfdnmaaGreatDoor
