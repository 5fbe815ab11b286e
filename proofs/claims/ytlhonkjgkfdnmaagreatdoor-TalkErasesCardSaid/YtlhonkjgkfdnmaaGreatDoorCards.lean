/-
  DERIVED. GIVEN WITH THE SEED: THE CARDS: each row of YtlhonkjgkfdnmaaGreatDoorRows.lean that lists a variable, with what it lists TIED to the program's text (the seventh form; the later family's looks); each row that meets fmt, with fmt's text TOLD by the authors' own Lean function (tested against real Go, not proved from fmt's source: count such statements apart). THE CARD IS WHAT COUNTS. Prove the row's statement (the work); the ties are given (YtlhonkjgkfdnmaaGreatDoorTie.lean); close each card by the builder's one call (the guide's Derived/Test/ToyasCard.lean, 'card_holds'). Laid BY PROGRAM, IN A SANDBOX (cutbox-door.mjs). By AI agents, Wed Nov 11 2026. No macro, syntax, notation, axiom, sorry.
-/
import Derived.Test.YtlhonkjgkfdnmaaGreatDoorRows
import GoSem.ClaimSeven
namespace Go.Proofs.YtlhonkjgkfdnmaaGreatDoor
namespace Rows

/-- THE TIED CARD OF 'huddlelaw17.TalkLast'. -/
def talkLastCard : Claim7 := { stood := { row := talkLastRow, standIns := [], harness := (true, "b2ce23ef5bba4d1007c86cda1094af1b95a3a62d882fdcbeec2d9dfce993f3b1"), looks := false }, kinds := [], alts := [], laidByText := true, laidKinds := [.funcs, .data], laidTests := true, laidLooks := .later }
def TalkLastCardSaid : Prop := Claim7.holds Tryz.pinned (.plain (OpenSpec.ofChange talkLastSpec)) talkLastCard

/-- THE TIED CARD OF 'huddlelaw17.TalkMembers'. -/
def talkMembersCard : Claim7 := { stood := { row := talkMembersRow, standIns := [], harness := (true, "b2ce23ef5bba4d1007c86cda1094af1b95a3a62d882fdcbeec2d9dfce993f3b1"), looks := false }, kinds := [], alts := [], laidByText := true, laidKinds := [.funcs, .data], laidTests := true, laidLooks := .later }
def TalkMembersCardSaid : Prop := Claim7.holds Tryz.pinned (.plain (OpenSpec.ofChange talkMembersSpec)) talkMembersCard

/-- THE TIED CARD OF 'huddlelaw17.TalkRow'. -/
def talkRowCard : Claim7 := { stood := { row := talkRowRow, standIns := [], harness := (true, "b2ce23ef5bba4d1007c86cda1094af1b95a3a62d882fdcbeec2d9dfce993f3b1"), looks := false }, kinds := [], alts := [], laidByText := true, laidKinds := [.funcs, .data], laidTests := true, laidLooks := .later }
def TalkRowCardSaid : Prop := Claim7.holds Tryz.pinned (.plain (OpenSpec.ofChange talkRowSpec)) talkRowCard

/-- THE TIED CARD OF 'huddlelaw17.TalkVoid'. -/
def talkVoidCard : Claim7 := { stood := { row := talkVoidRow, standIns := [], harness := (true, "b2ce23ef5bba4d1007c86cda1094af1b95a3a62d882fdcbeec2d9dfce993f3b1"), looks := false }, kinds := [], alts := [], laidByText := true, laidKinds := [.funcs, .data], laidTests := true, laidLooks := .later }
def TalkVoidCardSaid : Prop := Claim7.holds Tryz.pinned (.plain (OpenSpec.ofChange talkVoidSpec)) talkVoidCard

/-- THE TIED CARD OF 'huddlelaw17.TalkErases'. -/
def talkErasesCard : Claim7 := { stood := { row := talkErasesRow, standIns := [], harness := (true, "b2ce23ef5bba4d1007c86cda1094af1b95a3a62d882fdcbeec2d9dfce993f3b1"), looks := false }, kinds := [], alts := [], laidByText := true, laidKinds := [.funcs, .data], laidTests := true, laidLooks := .later }
def TalkErasesCardSaid : Prop := Claim7.holds Tryz.pinned (.plain (OpenSpec.ofChange talkErasesSpec)) talkErasesCard

/-- THE TIED CARD OF 'huddlelaw16.AuthRolls'. -/
def authRollsCard : Claim7 := { stood := { row := authRollsRow, standIns := [], harness := (true, "b2ce23ef5bba4d1007c86cda1094af1b95a3a62d882fdcbeec2d9dfce993f3b1"), looks := false }, kinds := [], alts := [], laidByText := true, laidKinds := [.funcs, .data], laidTests := true, laidLooks := .later }
def AuthRollsCardSaid : Prop := Claim7.holds Tryz.pinned (.plain (OpenSpec.ofChange authRollsSpec)) authRollsCard

/-- THE TIED CARD OF 'huddlelaw17.TalkTells'. -/
def talkTellsCard : Claim7 := { stood := { row := talkTellsRow, standIns := [], harness := (true, "b2ce23ef5bba4d1007c86cda1094af1b95a3a62d882fdcbeec2d9dfce993f3b1"), looks := false }, kinds := [], alts := [], laidByText := true, laidKinds := [.funcs, .data], laidTests := true, laidLooks := .later }
def TalkTellsCardSaid : Prop := Claim7.holds Tryz.pinned (.plain (OpenSpec.ofChange talkTellsSpec)) talkTellsCard

/-- THE TIED CARD OF 'huddlelaw17.TalkRefs'. -/
def talkRefsCard : Claim7 := { stood := { row := talkRefsRow, standIns := [], harness := (true, "b2ce23ef5bba4d1007c86cda1094af1b95a3a62d882fdcbeec2d9dfce993f3b1"), looks := false }, kinds := [], alts := [], laidByText := true, laidKinds := [.funcs, .data], laidTests := true, laidLooks := .later }
def TalkRefsCardSaid : Prop := Claim7.holds Tryz.pinned (.plain (OpenSpec.ofChange talkRefsSpec)) talkRefsCard

/-- THE SECOND FORM's CARD OF 'huddlelaw17.TalkLast'. -/
def talkLastUptoCard : Claim7 := { stood := { row := talkLastUptoRow, standIns := [], harness := (true, "b2ce23ef5bba4d1007c86cda1094af1b95a3a62d882fdcbeec2d9dfce993f3b1"), looks := false }, kinds := [], alts := [], laidByText := true, laidKinds := [.funcs, .data], laidTests := true, laidLooks := .later }
def TalkLastUptoCardSaid : Prop := Claim7.holds Tryz.pinned (.plain (OpenSpec.upto talkLastSpec)) talkLastUptoCard

/-- THE SECOND FORM's CARD OF 'huddlelaw17.TalkMembers'. -/
def talkMembersUptoCard : Claim7 := { stood := { row := talkMembersUptoRow, standIns := [], harness := (true, "b2ce23ef5bba4d1007c86cda1094af1b95a3a62d882fdcbeec2d9dfce993f3b1"), looks := false }, kinds := [], alts := [], laidByText := true, laidKinds := [.funcs, .data], laidTests := true, laidLooks := .later }
def TalkMembersUptoCardSaid : Prop := Claim7.holds Tryz.pinned (.plain (OpenSpec.upto talkMembersSpec)) talkMembersUptoCard

/-- THE SECOND FORM's CARD OF 'huddlelaw17.TalkRow'. -/
def talkRowUptoCard : Claim7 := { stood := { row := talkRowUptoRow, standIns := [], harness := (true, "b2ce23ef5bba4d1007c86cda1094af1b95a3a62d882fdcbeec2d9dfce993f3b1"), looks := false }, kinds := [], alts := [], laidByText := true, laidKinds := [.funcs, .data], laidTests := true, laidLooks := .later }
def TalkRowUptoCardSaid : Prop := Claim7.holds Tryz.pinned (.plain (OpenSpec.upto talkRowSpec)) talkRowUptoCard

/-- THE SECOND FORM's CARD OF 'huddlelaw17.TalkVoid'. -/
def talkVoidUptoCard : Claim7 := { stood := { row := talkVoidUptoRow, standIns := [], harness := (true, "b2ce23ef5bba4d1007c86cda1094af1b95a3a62d882fdcbeec2d9dfce993f3b1"), looks := false }, kinds := [], alts := [], laidByText := true, laidKinds := [.funcs, .data], laidTests := true, laidLooks := .later }
def TalkVoidUptoCardSaid : Prop := Claim7.holds Tryz.pinned (.plain (OpenSpec.upto talkVoidSpec)) talkVoidUptoCard

/-- THE SECOND FORM's CARD OF 'huddlelaw17.TalkErases'. -/
def talkErasesUptoCard : Claim7 := { stood := { row := talkErasesUptoRow, standIns := [], harness := (true, "b2ce23ef5bba4d1007c86cda1094af1b95a3a62d882fdcbeec2d9dfce993f3b1"), looks := false }, kinds := [], alts := [], laidByText := true, laidKinds := [.funcs, .data], laidTests := true, laidLooks := .later }
def TalkErasesUptoCardSaid : Prop := Claim7.holds Tryz.pinned (.plain (OpenSpec.upto talkErasesSpec)) talkErasesUptoCard

/-- THE SECOND FORM's CARD OF 'huddlelaw16.AuthRolls'. -/
def authRollsUptoCard : Claim7 := { stood := { row := authRollsUptoRow, standIns := [], harness := (true, "b2ce23ef5bba4d1007c86cda1094af1b95a3a62d882fdcbeec2d9dfce993f3b1"), looks := false }, kinds := [], alts := [], laidByText := true, laidKinds := [.funcs, .data], laidTests := true, laidLooks := .later }
def AuthRollsUptoCardSaid : Prop := Claim7.holds Tryz.pinned (.plain (OpenSpec.upto authRollsSpec)) authRollsUptoCard

/-- THE SECOND FORM's CARD OF 'huddlelaw17.TalkTells'. -/
def talkTellsUptoCard : Claim7 := { stood := { row := talkTellsUptoRow, standIns := [], harness := (true, "b2ce23ef5bba4d1007c86cda1094af1b95a3a62d882fdcbeec2d9dfce993f3b1"), looks := false }, kinds := [], alts := [], laidByText := true, laidKinds := [.funcs, .data], laidTests := true, laidLooks := .later }
def TalkTellsUptoCardSaid : Prop := Claim7.holds Tryz.pinned (.plain (OpenSpec.upto talkTellsSpec)) talkTellsUptoCard

/-- THE SECOND FORM's CARD OF 'huddlelaw17.TalkRefs'. -/
def talkRefsUptoCard : Claim7 := { stood := { row := talkRefsUptoRow, standIns := [], harness := (true, "b2ce23ef5bba4d1007c86cda1094af1b95a3a62d882fdcbeec2d9dfce993f3b1"), looks := false }, kinds := [], alts := [], laidByText := true, laidKinds := [.funcs, .data], laidTests := true, laidLooks := .later }
def TalkRefsUptoCardSaid : Prop := Claim7.holds Tryz.pinned (.plain (OpenSpec.upto talkRefsSpec)) talkRefsUptoCard
end Rows
end Go.Proofs.YtlhonkjgkfdnmaaGreatDoor
