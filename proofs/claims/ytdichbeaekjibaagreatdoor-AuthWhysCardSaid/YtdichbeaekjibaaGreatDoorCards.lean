/-
  DERIVED. GIVEN WITH THE SEED: THE CARDS: each row of YtdichbeaekjibaaGreatDoorRows.lean that lists a variable, with what it lists TIED to the program's text (the seventh form; the later family's looks); each row that meets fmt, with fmt's text TOLD by the authors' own Lean function (tested against real Go, not proved from fmt's source: count such statements apart). THE CARD IS WHAT COUNTS. Prove the row's statement (the work); the ties are given (YtdichbeaekjibaaGreatDoorTie.lean); close each card by the builder's one call (the guide's Derived/Test/ToyasCard.lean, 'card_holds'). Laid BY PROGRAM, IN A SANDBOX (cutbox-door.mjs). By AI agents, Wed Nov 11 2026. No macro, syntax, notation, axiom, sorry.
-/
import Derived.Test.YtdichbeaekjibaaGreatDoorRows
import GoSem.ClaimSeven
namespace Go.Proofs.YtdichbeaekjibaaGreatDoor
namespace Rows

/-- THE TIED CARD OF 'huddlelaw16.AuthKills'. -/
def authKillsCard : Claim7 := { stood := { row := authKillsRow, standIns := [], harness := (true, "e278b99b6cbde8b1fc06b4767408f574c9e29fc80c523951a4f1542dace31e79"), looks := false }, kinds := [], alts := [], laidByText := true, laidKinds := [.funcs, .data], laidTests := true, laidLooks := .later }
def AuthKillsCardSaid : Prop := Claim7.holds Tryz.pinned (.plain (OpenSpec.ofChange authKillsSpec)) authKillsCard

/-- THE TIED CARD OF 'huddlelaw16.AuthCounts'. -/
def authCountsCard : Claim7 := { stood := { row := authCountsRow, standIns := [], harness := (true, "e278b99b6cbde8b1fc06b4767408f574c9e29fc80c523951a4f1542dace31e79"), looks := false }, kinds := [], alts := [], laidByText := true, laidKinds := [.funcs, .data], laidTests := true, laidLooks := .later }
def AuthCountsCardSaid : Prop := Claim7.holds Tryz.pinned (.plain (OpenSpec.ofChange authCountsSpec)) authCountsCard

/-- THE TIED CARD OF 'huddlelaw16.AuthWhys'. -/
def authWhysCard : Claim7 := { stood := { row := authWhysRow, standIns := [], harness := (true, "e278b99b6cbde8b1fc06b4767408f574c9e29fc80c523951a4f1542dace31e79"), looks := false }, kinds := [], alts := [], laidByText := true, laidKinds := [.funcs, .data], laidTests := true, laidLooks := .later }
def AuthWhysCardSaid : Prop := Claim7.holds Tryz.pinned (.plain (OpenSpec.ofChange authWhysSpec)) authWhysCard

/-- THE TIED CARD OF 'huddlelaw16.AuthRow'. -/
def authRowCard : Claim7 := { stood := { row := authRowRow, standIns := [], harness := (true, "e278b99b6cbde8b1fc06b4767408f574c9e29fc80c523951a4f1542dace31e79"), looks := false }, kinds := [], alts := [], laidByText := true, laidKinds := [.funcs, .data], laidTests := true, laidLooks := .later }
def AuthRowCardSaid : Prop := Claim7.holds Tryz.pinned (.plain (OpenSpec.ofChange authRowSpec)) authRowCard

/-- THE TIED CARD OF 'huddlelaw16.AuthPlain'. -/
def authPlainCard : Claim7 := { stood := { row := authPlainRow, standIns := [], harness := (true, "e278b99b6cbde8b1fc06b4767408f574c9e29fc80c523951a4f1542dace31e79"), looks := false }, kinds := [], alts := [], laidByText := true, laidKinds := [.funcs, .data], laidTests := true, laidLooks := .later }
def AuthPlainCardSaid : Prop := Claim7.holds Tryz.pinned (.plain (OpenSpec.ofChange authPlainSpec)) authPlainCard

/-- THE TIED CARD OF 'huddlelaw16.AuthBeside'. -/
def authBesideCard : Claim7 := { stood := { row := authBesideRow, standIns := [], harness := (true, "e278b99b6cbde8b1fc06b4767408f574c9e29fc80c523951a4f1542dace31e79"), looks := false }, kinds := [], alts := [], laidByText := true, laidKinds := [.funcs, .data], laidTests := true, laidLooks := .later }
def AuthBesideCardSaid : Prop := Claim7.holds Tryz.pinned (.plain (OpenSpec.ofChange authBesideSpec)) authBesideCard

/-- THE TIED CARD OF 'huddlelaw16.AuthForks'. -/
def authForksCard : Claim7 := { stood := { row := authForksRow, standIns := [], harness := (true, "e278b99b6cbde8b1fc06b4767408f574c9e29fc80c523951a4f1542dace31e79"), looks := false }, kinds := [], alts := [], laidByText := true, laidKinds := [.funcs, .data], laidTests := true, laidLooks := .later }
def AuthForksCardSaid : Prop := Claim7.holds Tryz.pinned (.plain (OpenSpec.ofChange authForksSpec)) authForksCard

/-- THE TIED CARD OF 'huddlelaw16.AuthWins'. -/
def authWinsCard : Claim7 := { stood := { row := authWinsRow, standIns := [], harness := (true, "e278b99b6cbde8b1fc06b4767408f574c9e29fc80c523951a4f1542dace31e79"), looks := false }, kinds := [], alts := [], laidByText := true, laidKinds := [.funcs, .data], laidTests := true, laidLooks := .later }
def AuthWinsCardSaid : Prop := Claim7.holds Tryz.pinned (.plain (OpenSpec.ofChange authWinsSpec)) authWinsCard

/-- THE TIED CARD OF 'huddlelaw16.AuthCircles'. -/
def authCirclesCard : Claim7 := { stood := { row := authCirclesRow, standIns := [], harness := (true, "e278b99b6cbde8b1fc06b4767408f574c9e29fc80c523951a4f1542dace31e79"), looks := false }, kinds := [], alts := [], laidByText := true, laidKinds := [.funcs, .data], laidTests := true, laidLooks := .later }
def AuthCirclesCardSaid : Prop := Claim7.holds Tryz.pinned (.plain (OpenSpec.ofChange authCirclesSpec)) authCirclesCard

/-- THE TIED CARD OF 'huddlelaw16.AuthRolls'. -/
def authRollsCard : Claim7 := { stood := { row := authRollsRow, standIns := [], harness := (true, "e278b99b6cbde8b1fc06b4767408f574c9e29fc80c523951a4f1542dace31e79"), looks := false }, kinds := [], alts := [], laidByText := true, laidKinds := [.funcs, .data], laidTests := true, laidLooks := .later }
def AuthRollsCardSaid : Prop := Claim7.holds Tryz.pinned (.plain (OpenSpec.ofChange authRollsSpec)) authRollsCard

/-- THE SECOND FORM's CARD OF 'huddlelaw16.AuthKills'. -/
def authKillsUptoCard : Claim7 := { stood := { row := authKillsUptoRow, standIns := [], harness := (true, "e278b99b6cbde8b1fc06b4767408f574c9e29fc80c523951a4f1542dace31e79"), looks := false }, kinds := [], alts := [], laidByText := true, laidKinds := [.funcs, .data], laidTests := true, laidLooks := .later }
def AuthKillsUptoCardSaid : Prop := Claim7.holds Tryz.pinned (.plain (OpenSpec.upto authKillsSpec)) authKillsUptoCard

/-- THE SECOND FORM's CARD OF 'huddlelaw16.AuthCounts'. -/
def authCountsUptoCard : Claim7 := { stood := { row := authCountsUptoRow, standIns := [], harness := (true, "e278b99b6cbde8b1fc06b4767408f574c9e29fc80c523951a4f1542dace31e79"), looks := false }, kinds := [], alts := [], laidByText := true, laidKinds := [.funcs, .data], laidTests := true, laidLooks := .later }
def AuthCountsUptoCardSaid : Prop := Claim7.holds Tryz.pinned (.plain (OpenSpec.upto authCountsSpec)) authCountsUptoCard

/-- THE SECOND FORM's CARD OF 'huddlelaw16.AuthWhys'. -/
def authWhysUptoCard : Claim7 := { stood := { row := authWhysUptoRow, standIns := [], harness := (true, "e278b99b6cbde8b1fc06b4767408f574c9e29fc80c523951a4f1542dace31e79"), looks := false }, kinds := [], alts := [], laidByText := true, laidKinds := [.funcs, .data], laidTests := true, laidLooks := .later }
def AuthWhysUptoCardSaid : Prop := Claim7.holds Tryz.pinned (.plain (OpenSpec.upto authWhysSpec)) authWhysUptoCard

/-- THE SECOND FORM's CARD OF 'huddlelaw16.AuthRow'. -/
def authRowUptoCard : Claim7 := { stood := { row := authRowUptoRow, standIns := [], harness := (true, "e278b99b6cbde8b1fc06b4767408f574c9e29fc80c523951a4f1542dace31e79"), looks := false }, kinds := [], alts := [], laidByText := true, laidKinds := [.funcs, .data], laidTests := true, laidLooks := .later }
def AuthRowUptoCardSaid : Prop := Claim7.holds Tryz.pinned (.plain (OpenSpec.upto authRowSpec)) authRowUptoCard

/-- THE SECOND FORM's CARD OF 'huddlelaw16.AuthPlain'. -/
def authPlainUptoCard : Claim7 := { stood := { row := authPlainUptoRow, standIns := [], harness := (true, "e278b99b6cbde8b1fc06b4767408f574c9e29fc80c523951a4f1542dace31e79"), looks := false }, kinds := [], alts := [], laidByText := true, laidKinds := [.funcs, .data], laidTests := true, laidLooks := .later }
def AuthPlainUptoCardSaid : Prop := Claim7.holds Tryz.pinned (.plain (OpenSpec.upto authPlainSpec)) authPlainUptoCard

/-- THE SECOND FORM's CARD OF 'huddlelaw16.AuthBeside'. -/
def authBesideUptoCard : Claim7 := { stood := { row := authBesideUptoRow, standIns := [], harness := (true, "e278b99b6cbde8b1fc06b4767408f574c9e29fc80c523951a4f1542dace31e79"), looks := false }, kinds := [], alts := [], laidByText := true, laidKinds := [.funcs, .data], laidTests := true, laidLooks := .later }
def AuthBesideUptoCardSaid : Prop := Claim7.holds Tryz.pinned (.plain (OpenSpec.upto authBesideSpec)) authBesideUptoCard

/-- THE SECOND FORM's CARD OF 'huddlelaw16.AuthForks'. -/
def authForksUptoCard : Claim7 := { stood := { row := authForksUptoRow, standIns := [], harness := (true, "e278b99b6cbde8b1fc06b4767408f574c9e29fc80c523951a4f1542dace31e79"), looks := false }, kinds := [], alts := [], laidByText := true, laidKinds := [.funcs, .data], laidTests := true, laidLooks := .later }
def AuthForksUptoCardSaid : Prop := Claim7.holds Tryz.pinned (.plain (OpenSpec.upto authForksSpec)) authForksUptoCard

/-- THE SECOND FORM's CARD OF 'huddlelaw16.AuthWins'. -/
def authWinsUptoCard : Claim7 := { stood := { row := authWinsUptoRow, standIns := [], harness := (true, "e278b99b6cbde8b1fc06b4767408f574c9e29fc80c523951a4f1542dace31e79"), looks := false }, kinds := [], alts := [], laidByText := true, laidKinds := [.funcs, .data], laidTests := true, laidLooks := .later }
def AuthWinsUptoCardSaid : Prop := Claim7.holds Tryz.pinned (.plain (OpenSpec.upto authWinsSpec)) authWinsUptoCard

/-- THE SECOND FORM's CARD OF 'huddlelaw16.AuthCircles'. -/
def authCirclesUptoCard : Claim7 := { stood := { row := authCirclesUptoRow, standIns := [], harness := (true, "e278b99b6cbde8b1fc06b4767408f574c9e29fc80c523951a4f1542dace31e79"), looks := false }, kinds := [], alts := [], laidByText := true, laidKinds := [.funcs, .data], laidTests := true, laidLooks := .later }
def AuthCirclesUptoCardSaid : Prop := Claim7.holds Tryz.pinned (.plain (OpenSpec.upto authCirclesSpec)) authCirclesUptoCard

/-- THE SECOND FORM's CARD OF 'huddlelaw16.AuthRolls'. -/
def authRollsUptoCard : Claim7 := { stood := { row := authRollsUptoRow, standIns := [], harness := (true, "e278b99b6cbde8b1fc06b4767408f574c9e29fc80c523951a4f1542dace31e79"), looks := false }, kinds := [], alts := [], laidByText := true, laidKinds := [.funcs, .data], laidTests := true, laidLooks := .later }
def AuthRollsUptoCardSaid : Prop := Claim7.holds Tryz.pinned (.plain (OpenSpec.upto authRollsSpec)) authRollsUptoCard
end Rows
end Go.Proofs.YtdichbeaekjibaaGreatDoor
