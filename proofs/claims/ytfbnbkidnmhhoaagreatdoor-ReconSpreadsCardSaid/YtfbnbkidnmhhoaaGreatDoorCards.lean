/-
  DERIVED. GIVEN WITH THE SEED: THE CARDS: each row of YtfbnbkidnmhhoaaGreatDoorRows.lean that lists a variable, with what it lists TIED to the program's text (the seventh form; the later family's looks); each row that meets fmt, with fmt's text TOLD by the authors' own Lean function (tested against real Go, not proved from fmt's source: count such statements apart). THE CARD IS WHAT COUNTS. Prove the row's statement (the work); the ties are given (YtfbnbkidnmhhoaaGreatDoorTie.lean); close each card by the builder's one call (the guide's Derived/Test/ToyasCard.lean, 'card_holds'). Laid BY PROGRAM, IN A SANDBOX (cutbox-door.mjs). By AI agents, Wed Nov 11 2026. No macro, syntax, notation, axiom, sorry.
-/
import Derived.Test.YtfbnbkidnmhhoaaGreatDoorRows
import GoSem.ClaimSeven
namespace Go.Proofs.YtfbnbkidnmhhoaaGreatDoor
namespace Rows

/-- THE TIED CARD OF 'huddlelaw24.GuardHides'. -/
def guardHidesCard : Claim7 := { stood := { row := guardHidesRow, standIns := [], harness := (true, "427766fe125cc6b9d7714f8bc96132ffbb6f2fb923eeede660d1a1ecfcbceb1c"), looks := false }, kinds := [], alts := [], laidByText := true, laidKinds := [.data], laidTests := true, laidLooks := .later }
def GuardHidesCardSaid : Prop := Claim7.holds Tryz.pinned (.plain (OpenSpec.ofChange guardHidesSpec)) guardHidesCard

/-- THE TIED CARD OF 'huddlelaw24.GuardDeals'. -/
def guardDealsCard : Claim7 := { stood := { row := guardDealsRow, standIns := [], harness := (true, "427766fe125cc6b9d7714f8bc96132ffbb6f2fb923eeede660d1a1ecfcbceb1c"), looks := false }, kinds := [], alts := [], laidByText := true, laidKinds := [.data], laidTests := true, laidLooks := .later }
def GuardDealsCardSaid : Prop := Claim7.holds Tryz.pinned (.plain (OpenSpec.ofChange guardDealsSpec)) guardDealsCard

/-- THE TIED CARD OF 'huddlelaw24.GuardShamir'. -/
def guardShamirCard : Claim7 := { stood := { row := guardShamirRow, standIns := [], harness := (true, "427766fe125cc6b9d7714f8bc96132ffbb6f2fb923eeede660d1a1ecfcbceb1c"), looks := false }, kinds := [], alts := [], laidByText := true, laidKinds := [.data], laidTests := true, laidLooks := .later }
def GuardShamirCardSaid : Prop := Claim7.holds Tryz.pinned (.plain (OpenSpec.ofChange guardShamirSpec)) guardShamirCard

/-- THE TIED CARD OF 'huddlelaw30.ReconSends'. -/
def reconSendsCard : Claim7 := { stood := { row := reconSendsRow, standIns := [], harness := (true, "427766fe125cc6b9d7714f8bc96132ffbb6f2fb923eeede660d1a1ecfcbceb1c"), looks := false }, kinds := [], alts := [], laidByText := true, laidKinds := [.data], laidTests := true, laidLooks := .later }
def ReconSendsCardSaid : Prop := Claim7.holds Tryz.pinned (.plain (OpenSpec.ofChange reconSendsSpec)) reconSendsCard

/-- THE TIED CARD OF 'huddlelaw30.ReconMeets'. -/
def reconMeetsCard : Claim7 := { stood := { row := reconMeetsRow, standIns := [], harness := (true, "427766fe125cc6b9d7714f8bc96132ffbb6f2fb923eeede660d1a1ecfcbceb1c"), looks := false }, kinds := [], alts := [], laidByText := true, laidKinds := [.data], laidTests := true, laidLooks := .later }
def ReconMeetsCardSaid : Prop := Claim7.holds Tryz.pinned (.plain (OpenSpec.ofChange reconMeetsSpec)) reconMeetsCard

/-- THE TIED CARD OF 'huddlelaw30.ReconSpreads'. -/
def reconSpreadsCard : Claim7 := { stood := { row := reconSpreadsRow, standIns := [], harness := (true, "427766fe125cc6b9d7714f8bc96132ffbb6f2fb923eeede660d1a1ecfcbceb1c"), looks := false }, kinds := [], alts := [], laidByText := true, laidKinds := [.data], laidTests := true, laidLooks := .later }
def ReconSpreadsCardSaid : Prop := Claim7.holds Tryz.pinned (.plain (OpenSpec.ofChange reconSpreadsSpec)) reconSpreadsCard

/-- THE SECOND FORM's CARD OF 'huddlelaw24.GuardHides'. -/
def guardHidesUptoCard : Claim7 := { stood := { row := guardHidesUptoRow, standIns := [], harness := (true, "427766fe125cc6b9d7714f8bc96132ffbb6f2fb923eeede660d1a1ecfcbceb1c"), looks := false }, kinds := [], alts := [], laidByText := true, laidKinds := [.data], laidTests := true, laidLooks := .later }
def GuardHidesUptoCardSaid : Prop := Claim7.holds Tryz.pinned (.plain (OpenSpec.upto guardHidesSpec)) guardHidesUptoCard

/-- THE SECOND FORM's CARD OF 'huddlelaw24.GuardDeals'. -/
def guardDealsUptoCard : Claim7 := { stood := { row := guardDealsUptoRow, standIns := [], harness := (true, "427766fe125cc6b9d7714f8bc96132ffbb6f2fb923eeede660d1a1ecfcbceb1c"), looks := false }, kinds := [], alts := [], laidByText := true, laidKinds := [.data], laidTests := true, laidLooks := .later }
def GuardDealsUptoCardSaid : Prop := Claim7.holds Tryz.pinned (.plain (OpenSpec.upto guardDealsSpec)) guardDealsUptoCard

/-- THE SECOND FORM's CARD OF 'huddlelaw24.GuardShamir'. -/
def guardShamirUptoCard : Claim7 := { stood := { row := guardShamirUptoRow, standIns := [], harness := (true, "427766fe125cc6b9d7714f8bc96132ffbb6f2fb923eeede660d1a1ecfcbceb1c"), looks := false }, kinds := [], alts := [], laidByText := true, laidKinds := [.data], laidTests := true, laidLooks := .later }
def GuardShamirUptoCardSaid : Prop := Claim7.holds Tryz.pinned (.plain (OpenSpec.upto guardShamirSpec)) guardShamirUptoCard

/-- THE SECOND FORM's CARD OF 'huddlelaw30.ReconSends'. -/
def reconSendsUptoCard : Claim7 := { stood := { row := reconSendsUptoRow, standIns := [], harness := (true, "427766fe125cc6b9d7714f8bc96132ffbb6f2fb923eeede660d1a1ecfcbceb1c"), looks := false }, kinds := [], alts := [], laidByText := true, laidKinds := [.data], laidTests := true, laidLooks := .later }
def ReconSendsUptoCardSaid : Prop := Claim7.holds Tryz.pinned (.plain (OpenSpec.upto reconSendsSpec)) reconSendsUptoCard

/-- THE SECOND FORM's CARD OF 'huddlelaw30.ReconMeets'. -/
def reconMeetsUptoCard : Claim7 := { stood := { row := reconMeetsUptoRow, standIns := [], harness := (true, "427766fe125cc6b9d7714f8bc96132ffbb6f2fb923eeede660d1a1ecfcbceb1c"), looks := false }, kinds := [], alts := [], laidByText := true, laidKinds := [.data], laidTests := true, laidLooks := .later }
def ReconMeetsUptoCardSaid : Prop := Claim7.holds Tryz.pinned (.plain (OpenSpec.upto reconMeetsSpec)) reconMeetsUptoCard

/-- THE SECOND FORM's CARD OF 'huddlelaw30.ReconSpreads'. -/
def reconSpreadsUptoCard : Claim7 := { stood := { row := reconSpreadsUptoRow, standIns := [], harness := (true, "427766fe125cc6b9d7714f8bc96132ffbb6f2fb923eeede660d1a1ecfcbceb1c"), looks := false }, kinds := [], alts := [], laidByText := true, laidKinds := [.data], laidTests := true, laidLooks := .later }
def ReconSpreadsUptoCardSaid : Prop := Claim7.holds Tryz.pinned (.plain (OpenSpec.upto reconSpreadsSpec)) reconSpreadsUptoCard
end Rows
end Go.Proofs.YtfbnbkidnmhhoaaGreatDoor
