/-
  NARROWER THAN 'FOR EVERY INPUT', by the rows' own cells (each row's printed sentence says how): GuardHides: laid · GuardDeals: laid · GuardShamir: laid · ReconSends: laid · ReconMeets: laid · ReconSpreads: laid.
  DERIVED. THE GIVEN ROWS OF THIS SEAT. 6 by the template 'for every input the law returns true; each argument reads behind the call as it read before'; 0 by the template 'total and deterministic' (their statements: YtfbnbkidnmhhoaaGreatDoorTotals.lean).
  GIVEN WITH THE SEED: the statements are not yours to turn. If you find one false, say at which input.
  Laid BY PROGRAM, IN A SANDBOX (cutbox-rows.mjs): the forced cells as the released guide's own fill.sh prints them over the translation 9920315313bb5f89… (all of the seat's roots in one cut). By AI agents, Wed Nov 11 2026. No macro, syntax, notation, axiom, sorry.
-/
import Derived.Test.YtfbnbkidnmhhoaaGreatDoorChecked
import GoSem.Claim
import GoSem.ClaimJoined
import GoSem.ClaimMapViews
import Derived.JoinedTies
import Derived.KernelRfl
namespace Go.Proofs.YtfbnbkidnmhhoaaGreatDoor
/- THE CELL 'sum', in the pinned program and in every row, IS THE sha256 OF THE DUMP (.gsa) THAT YtfbnbkidnmhhoaaGreatDoorProg.lean LOADS. Nothing in Lean hashes anything: it is a label: what it is worth is what the hold of that sum in a sandbox is worth. -/
noncomputable def Tryz.pinned : Pinned := { name := "ytfbnbkidnmhhoaagreatdoor", sum := "9920315313bb5f8939e28a85738fd4b99fe485b35ea4b274c1fb55efc470a373", checked := Tryz.checked }
namespace Rows
def none {H : Type} : Left H := { results := [], args := [] }

/- WHAT THE LISTED PACKAGE-LEVEL VARIABLES READ AS WHEN THE CALL BEGINS. Each datum BY PROGRAM (the guide's laid-datum.mjs) off the statement by which the dump's own 'gosem.cut.vars' lays the variable. In a bare row this is a premise. The card (YtfbnbkidnmhhoaaGreatDoorCards.lean) ties it to the program's text. -/
def laid_huddle_op_kinds {H : Type} : DataW H := .agg [.lit (.int .i64 0), .lit (.int .i64 2064), .lit (.int .i64 32793), .lit (.int .i64 21), .lit (.int .i64 16), .lit (.int .i64 12), .lit (.int .i64 480), .lit (.int .i64 640), .lit (.int .i64 512), .lit (.int .i64 31744), .lit (.int .i64 8704), .lit (.int .i64 8705), .lit (.int .i64 512), .lit (.int .i64 33299)]

/-- 'huddlelaw24.GuardHides': WHATEVER THE INPUT: true; the input reads as it did. -/
def guardHidesSpec : ChangeSpec := { name := "guardHides", fn := fun _ => fun
  | [d1, d2, d3, d4, d5] => { results := [.lit (.bool true)], args := [d1, d2, d3, d4, d5] }
  | _ => none }
def guardHidesRow : OpenClaim := { program := "ytfbnbkidnmhhoaagreatdoor", sum := "9920315313bb5f8939e28a85738fd4b99fe485b35ea4b274c1fb55efc470a373", func := "huddle/huddlelaw24.GuardHides", spec := "guardHides", unfollowed := true, recurses := true, named := ["huddle/op.kinds"], plainKeys := false, apart := false, laid := [("huddle/op.kinds", laid_huddle_op_kinds)] }
def GuardHidesSaid : Prop := guardHidesRow.holds Tryz.pinned (OpenSpec.ofChange guardHidesSpec)

/-- ITS FALSE NEIGHBOUR: 'it returns false'. Refute it at one input. -/
def guardHidesWrong : ChangeSpec := { name := "guardHides", fn := fun _ => fun
  | [d1, d2, d3, d4, d5] => { results := [.lit (.bool false)], args := [d1, d2, d3, d4, d5] }
  | _ => none }
def GuardHidesWrongFalsely : Prop := guardHidesRow.holds Tryz.pinned (OpenSpec.ofChange guardHidesWrong)

/-- 'huddlelaw24.GuardDeals': WHATEVER THE INPUT: true; the input reads as it did. -/
def guardDealsSpec : ChangeSpec := { name := "guardDeals", fn := fun _ => fun
  | [d1, d2, d3, d4, d5] => { results := [.lit (.bool true)], args := [d1, d2, d3, d4, d5] }
  | _ => none }
def guardDealsRow : OpenClaim := { program := "ytfbnbkidnmhhoaagreatdoor", sum := "9920315313bb5f8939e28a85738fd4b99fe485b35ea4b274c1fb55efc470a373", func := "huddle/huddlelaw24.GuardDeals", spec := "guardDeals", unfollowed := true, recurses := true, named := ["huddle/op.kinds"], plainKeys := false, apart := false, laid := [("huddle/op.kinds", laid_huddle_op_kinds)] }
def GuardDealsSaid : Prop := guardDealsRow.holds Tryz.pinned (OpenSpec.ofChange guardDealsSpec)

/-- ITS FALSE NEIGHBOUR: 'it returns false'. Refute it at one input. -/
def guardDealsWrong : ChangeSpec := { name := "guardDeals", fn := fun _ => fun
  | [d1, d2, d3, d4, d5] => { results := [.lit (.bool false)], args := [d1, d2, d3, d4, d5] }
  | _ => none }
def GuardDealsWrongFalsely : Prop := guardDealsRow.holds Tryz.pinned (OpenSpec.ofChange guardDealsWrong)

/-- 'huddlelaw24.GuardShamir': WHATEVER THE INPUT: true; the input reads as it did. -/
def guardShamirSpec : ChangeSpec := { name := "guardShamir", fn := fun _ => fun
  | [d1, d2, d3, d4, d5] => { results := [.lit (.bool true)], args := [d1, d2, d3, d4, d5] }
  | _ => none }
def guardShamirRow : OpenClaim := { program := "ytfbnbkidnmhhoaagreatdoor", sum := "9920315313bb5f8939e28a85738fd4b99fe485b35ea4b274c1fb55efc470a373", func := "huddle/huddlelaw24.GuardShamir", spec := "guardShamir", unfollowed := true, recurses := true, named := ["huddle/op.kinds"], plainKeys := false, apart := false, laid := [("huddle/op.kinds", laid_huddle_op_kinds)] }
def GuardShamirSaid : Prop := guardShamirRow.holds Tryz.pinned (OpenSpec.ofChange guardShamirSpec)

/-- ITS FALSE NEIGHBOUR: 'it returns false'. Refute it at one input. -/
def guardShamirWrong : ChangeSpec := { name := "guardShamir", fn := fun _ => fun
  | [d1, d2, d3, d4, d5] => { results := [.lit (.bool false)], args := [d1, d2, d3, d4, d5] }
  | _ => none }
def GuardShamirWrongFalsely : Prop := guardShamirRow.holds Tryz.pinned (OpenSpec.ofChange guardShamirWrong)

/-- 'huddlelaw30.ReconSends': WHATEVER THE INPUT: true; the input reads as it did. -/
def reconSendsSpec : ChangeSpec := { name := "reconSends", fn := fun _ => fun
  | [d1, d2] => { results := [.lit (.bool true)], args := [d1, d2] }
  | _ => none }
def reconSendsRow : OpenClaim := { program := "ytfbnbkidnmhhoaagreatdoor", sum := "9920315313bb5f8939e28a85738fd4b99fe485b35ea4b274c1fb55efc470a373", func := "huddle/huddlelaw30.ReconSends", spec := "reconSends", unfollowed := true, recurses := true, named := ["huddle/op.kinds"], plainKeys := false, apart := false, laid := [("huddle/op.kinds", laid_huddle_op_kinds)] }
def ReconSendsSaid : Prop := reconSendsRow.holds Tryz.pinned (OpenSpec.ofChange reconSendsSpec)

/-- ITS FALSE NEIGHBOUR: 'it returns false'. Refute it at one input. -/
def reconSendsWrong : ChangeSpec := { name := "reconSends", fn := fun _ => fun
  | [d1, d2] => { results := [.lit (.bool false)], args := [d1, d2] }
  | _ => none }
def ReconSendsWrongFalsely : Prop := reconSendsRow.holds Tryz.pinned (OpenSpec.ofChange reconSendsWrong)

/-- 'huddlelaw30.ReconMeets': WHATEVER THE INPUT: true; the input reads as it did. -/
def reconMeetsSpec : ChangeSpec := { name := "reconMeets", fn := fun _ => fun
  | [d1, d2, d3] => { results := [.lit (.bool true)], args := [d1, d2, d3] }
  | _ => none }
def reconMeetsRow : OpenClaim := { program := "ytfbnbkidnmhhoaagreatdoor", sum := "9920315313bb5f8939e28a85738fd4b99fe485b35ea4b274c1fb55efc470a373", func := "huddle/huddlelaw30.ReconMeets", spec := "reconMeets", unfollowed := true, recurses := true, named := ["huddle/op.kinds"], plainKeys := false, apart := false, laid := [("huddle/op.kinds", laid_huddle_op_kinds)] }
def ReconMeetsSaid : Prop := reconMeetsRow.holds Tryz.pinned (OpenSpec.ofChange reconMeetsSpec)

/-- ITS FALSE NEIGHBOUR: 'it returns false'. Refute it at one input. -/
def reconMeetsWrong : ChangeSpec := { name := "reconMeets", fn := fun _ => fun
  | [d1, d2, d3] => { results := [.lit (.bool false)], args := [d1, d2, d3] }
  | _ => none }
def ReconMeetsWrongFalsely : Prop := reconMeetsRow.holds Tryz.pinned (OpenSpec.ofChange reconMeetsWrong)

/-- 'huddlelaw30.ReconSpreads': WHATEVER THE INPUT: true; the input reads as it did. -/
def reconSpreadsSpec : ChangeSpec := { name := "reconSpreads", fn := fun _ => fun
  | [d1, d2, d3, d4] => { results := [.lit (.bool true)], args := [d1, d2, d3, d4] }
  | _ => none }
def reconSpreadsRow : OpenClaim := { program := "ytfbnbkidnmhhoaagreatdoor", sum := "9920315313bb5f8939e28a85738fd4b99fe485b35ea4b274c1fb55efc470a373", func := "huddle/huddlelaw30.ReconSpreads", spec := "reconSpreads", unfollowed := true, recurses := true, named := ["huddle/op.kinds"], plainKeys := false, apart := false, laid := [("huddle/op.kinds", laid_huddle_op_kinds)] }
def ReconSpreadsSaid : Prop := reconSpreadsRow.holds Tryz.pinned (OpenSpec.ofChange reconSpreadsSpec)

/-- ITS FALSE NEIGHBOUR: 'it returns false'. Refute it at one input. -/
def reconSpreadsWrong : ChangeSpec := { name := "reconSpreads", fn := fun _ => fun
  | [d1, d2, d3, d4] => { results := [.lit (.bool false)], args := [d1, d2, d3, d4] }
  | _ => none }
def ReconSpreadsWrongFalsely : Prop := reconSpreadsRow.holds Tryz.pinned (OpenSpec.ofChange reconSpreadsWrong)

/- THE SECOND FORM. 'bulk': how many values and letters a reading holds, each counted each time it is reached (what is shared counts as often as it is met; a slice's spare places count too). A statement '..UptoSaid' is the law's where the arguments, and the package variables that the reading takes, are together of bulk at most 1048576: NARROWER than '..Said'. Prove '..Said' where nothing that the law and all that it calls make is longer than what came in: it says more and counts as full. Else prove '..UptoSaid'. A law counts once. -/
mutual
def uptoBulk {H : Type} : DataW H → Nat
  | .lit (.string bytes) => bytes.length + 1
  | .lit _ => 1
  | .nil => 1
  | .ptr d => uptoBulk d + 1
  | .slice elems spare => uptoBulkAll elems + uptoBulkAll spare + 1
  | .agg parts => uptoBulkAll parts + 1
  | .iface _ d => uptoBulk d + 1
  | .map entries => uptoBulkEntries entries + 1
  | .held _ => 1
def uptoBulkAll {H : Type} : List (DataW H) → Nat
  | [] => 0
  | d :: r => uptoBulk d + uptoBulkAll r
def uptoBulkEntries {H : Type} : List (Lit × DataW H) → Nat
  | [] => 0
  | x :: r => uptoBulkEntry x + uptoBulkEntries r
def uptoBulkEntry {H : Type} : Lit × DataW H → Nat
  | (.string bytes, d) => bytes.length + uptoBulk d + 1
  | (_, d) => uptoBulk d + 1
 end
def uptoSmall : (H : Type) → List (DataW H) → Bool := fun _ ds => decide (uptoBulkAll ds ≤ 1048576)
def OpenSpec.upto (s : _root_.Go.ChangeSpec) : _root_.Go.OpenSpec := { _root_.Go.OpenSpec.ofChange s with cond := some uptoSmall }

/-- 'huddlelaw24.GuardHides', WHERE WHAT IT READS IS OF BULK AT MOST 1048576: true; the input reads as it did. -/
def guardHidesUptoRow : OpenClaim := { program := "ytfbnbkidnmhhoaagreatdoor", sum := "9920315313bb5f8939e28a85738fd4b99fe485b35ea4b274c1fb55efc470a373", func := "huddle/huddlelaw24.GuardHides", spec := "guardHides", unfollowed := true, recurses := true, named := ["huddle/op.kinds"], plainKeys := false, apart := false, laid := [("huddle/op.kinds", laid_huddle_op_kinds)], narrowed := true }
def GuardHidesUptoSaid : Prop := guardHidesUptoRow.holds Tryz.pinned (OpenSpec.upto guardHidesSpec)

/-- 'huddlelaw24.GuardDeals', WHERE WHAT IT READS IS OF BULK AT MOST 1048576: true; the input reads as it did. -/
def guardDealsUptoRow : OpenClaim := { program := "ytfbnbkidnmhhoaagreatdoor", sum := "9920315313bb5f8939e28a85738fd4b99fe485b35ea4b274c1fb55efc470a373", func := "huddle/huddlelaw24.GuardDeals", spec := "guardDeals", unfollowed := true, recurses := true, named := ["huddle/op.kinds"], plainKeys := false, apart := false, laid := [("huddle/op.kinds", laid_huddle_op_kinds)], narrowed := true }
def GuardDealsUptoSaid : Prop := guardDealsUptoRow.holds Tryz.pinned (OpenSpec.upto guardDealsSpec)

/-- 'huddlelaw24.GuardShamir', WHERE WHAT IT READS IS OF BULK AT MOST 1048576: true; the input reads as it did. -/
def guardShamirUptoRow : OpenClaim := { program := "ytfbnbkidnmhhoaagreatdoor", sum := "9920315313bb5f8939e28a85738fd4b99fe485b35ea4b274c1fb55efc470a373", func := "huddle/huddlelaw24.GuardShamir", spec := "guardShamir", unfollowed := true, recurses := true, named := ["huddle/op.kinds"], plainKeys := false, apart := false, laid := [("huddle/op.kinds", laid_huddle_op_kinds)], narrowed := true }
def GuardShamirUptoSaid : Prop := guardShamirUptoRow.holds Tryz.pinned (OpenSpec.upto guardShamirSpec)

/-- 'huddlelaw30.ReconSends', WHERE WHAT IT READS IS OF BULK AT MOST 1048576: true; the input reads as it did. -/
def reconSendsUptoRow : OpenClaim := { program := "ytfbnbkidnmhhoaagreatdoor", sum := "9920315313bb5f8939e28a85738fd4b99fe485b35ea4b274c1fb55efc470a373", func := "huddle/huddlelaw30.ReconSends", spec := "reconSends", unfollowed := true, recurses := true, named := ["huddle/op.kinds"], plainKeys := false, apart := false, laid := [("huddle/op.kinds", laid_huddle_op_kinds)], narrowed := true }
def ReconSendsUptoSaid : Prop := reconSendsUptoRow.holds Tryz.pinned (OpenSpec.upto reconSendsSpec)

/-- 'huddlelaw30.ReconMeets', WHERE WHAT IT READS IS OF BULK AT MOST 1048576: true; the input reads as it did. -/
def reconMeetsUptoRow : OpenClaim := { program := "ytfbnbkidnmhhoaagreatdoor", sum := "9920315313bb5f8939e28a85738fd4b99fe485b35ea4b274c1fb55efc470a373", func := "huddle/huddlelaw30.ReconMeets", spec := "reconMeets", unfollowed := true, recurses := true, named := ["huddle/op.kinds"], plainKeys := false, apart := false, laid := [("huddle/op.kinds", laid_huddle_op_kinds)], narrowed := true }
def ReconMeetsUptoSaid : Prop := reconMeetsUptoRow.holds Tryz.pinned (OpenSpec.upto reconMeetsSpec)

/-- 'huddlelaw30.ReconSpreads', WHERE WHAT IT READS IS OF BULK AT MOST 1048576: true; the input reads as it did. -/
def reconSpreadsUptoRow : OpenClaim := { program := "ytfbnbkidnmhhoaagreatdoor", sum := "9920315313bb5f8939e28a85738fd4b99fe485b35ea4b274c1fb55efc470a373", func := "huddle/huddlelaw30.ReconSpreads", spec := "reconSpreads", unfollowed := true, recurses := true, named := ["huddle/op.kinds"], plainKeys := false, apart := false, laid := [("huddle/op.kinds", laid_huddle_op_kinds)], narrowed := true }
def ReconSpreadsUptoSaid : Prop := reconSpreadsUptoRow.holds Tryz.pinned (OpenSpec.upto reconSpreadsSpec)

end Rows
end Go.Proofs.YtfbnbkidnmhhoaaGreatDoor
