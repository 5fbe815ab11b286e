/-
  NARROWER THAN 'FOR EVERY INPUT', by the rows' own cells (each row's printed sentence says how): AuthKills: laid · AuthCounts: laid · AuthWhys: laid · AuthRow: laid · AuthPlain: laid · AuthBeside: laid · AuthForks: laid · AuthWins: laid · AuthCircles: laid · AuthRolls: laid.
  DERIVED. THE GIVEN ROWS OF THIS SEAT. 10 by the template 'for every input the law returns true; each argument reads behind the call as it read before'; 0 by the template 'total and deterministic' (their statements: YtdichbeaekjibaaGreatDoorTotals.lean).
  GIVEN WITH THE SEED: the statements are not yours to turn. If you find one false, say at which input.
  Laid BY PROGRAM, IN A SANDBOX (cutbox-rows.mjs): the forced cells as the released guide's own fill.sh prints them over the translation 884cc5029deec9e1… (all of the seat's roots in one cut). By AI agents, Wed Nov 11 2026. No macro, syntax, notation, axiom, sorry.
-/
import Derived.Test.YtdichbeaekjibaaGreatDoorChecked
import GoSem.Claim
import GoSem.ClaimJoined
import GoSem.ClaimMapViews
import Derived.JoinedTies
import Derived.KernelRfl
namespace Go.Proofs.YtdichbeaekjibaaGreatDoor
/- THE CELL 'sum', in the pinned program and in every row, IS THE sha256 OF THE DUMP (.gsa) THAT YtdichbeaekjibaaGreatDoorProg.lean LOADS. Nothing in Lean hashes anything: it is a label: what it is worth is what the hold of that sum in a sandbox is worth. -/
noncomputable def Tryz.pinned : Pinned := { name := "ytdichbeaekjibaagreatdoor", sum := "884cc5029deec9e1475d246fd1c64f6d6cc4a45ab37bf62ec2a12ade937ed425", checked := Tryz.checked }
namespace Rows
def none {H : Type} : Left H := { results := [], args := [] }

/- WHAT THE LISTED PACKAGE-LEVEL VARIABLES READ AS WHEN THE CALL BEGINS. Each datum BY PROGRAM (the guide's laid-datum.mjs) off the statement by which the dump's own 'gosem.cut.vars' lays the variable. In a bare row this is a premise. The card (YtdichbeaekjibaaGreatDoorCards.lean) ties it to the program's text. -/
def laid_huddle_roll_asks {H : Type} : DataW H := .iface "func table" (.agg [.nil, .nil, .iface "func" (.lit (.string [104, 117, 100, 100, 108, 101, 47, 114, 111, 108, 108, 46, 97, 115, 107, 115, 36, 49])), .iface "func" (.lit (.string [104, 117, 100, 100, 108, 101, 47, 114, 111, 108, 108, 46, 97, 115, 107, 115, 36, 50])), .nil, .iface "func" (.lit (.string [104, 117, 100, 100, 108, 101, 47, 114, 111, 108, 108, 46, 97, 115, 107, 115, 36, 51])), .iface "func" (.lit (.string [104, 117, 100, 100, 108, 101, 47, 114, 111, 108, 108, 46, 97, 115, 107, 115, 36, 52])), .nil, .iface "func" (.lit (.string [104, 117, 100, 100, 108, 101, 47, 114, 111, 108, 108, 46, 97, 115, 107, 115, 36, 53])), .iface "func" (.lit (.string [104, 117, 100, 100, 108, 101, 47, 114, 111, 108, 108, 46, 97, 115, 107, 115, 36, 54])), .iface "func" (.lit (.string [40, 42, 104, 117, 100, 100, 108, 101, 47, 114, 111, 108, 108, 46, 82, 111, 108, 108, 41, 46, 111, 119, 110])), .iface "func" (.lit (.string [104, 117, 100, 100, 108, 101, 47, 114, 111, 108, 108, 46, 97, 115, 107, 115, 36, 55])), .iface "func" (.lit (.string [40, 42, 104, 117, 100, 100, 108, 101, 47, 114, 111, 108, 108, 46, 82, 111, 108, 108, 41, 46, 111, 119, 110])), .iface "func" (.lit (.string [104, 117, 100, 100, 108, 101, 47, 114, 111, 108, 108, 46, 97, 115, 107, 115, 36, 56]))])
def laid_huddle_op_kinds {H : Type} : DataW H := .agg [.lit (.int .i64 0), .lit (.int .i64 2064), .lit (.int .i64 32793), .lit (.int .i64 21), .lit (.int .i64 16), .lit (.int .i64 12), .lit (.int .i64 480), .lit (.int .i64 640), .lit (.int .i64 512), .lit (.int .i64 31744), .lit (.int .i64 8704), .lit (.int .i64 8705), .lit (.int .i64 512), .lit (.int .i64 33299)]

/-- 'huddlelaw16.AuthKills': WHATEVER THE INPUT: true; the input reads as it did. -/
def authKillsSpec : ChangeSpec := { name := "authKills", fn := fun _ => fun
  | [d1, d2] => { results := [.lit (.bool true)], args := [d1, d2] }
  | _ => none }
def authKillsRow : OpenClaim := { program := "ytdichbeaekjibaagreatdoor", sum := "884cc5029deec9e1475d246fd1c64f6d6cc4a45ab37bf62ec2a12ade937ed425", func := "huddle/huddlelaw16.AuthKills", spec := "authKills", unfollowed := true, recurses := true, named := ["huddle/op.kinds", "huddle/roll.asks"], plainKeys := false, apart := false, laid := [("huddle/roll.asks", laid_huddle_roll_asks), ("huddle/op.kinds", laid_huddle_op_kinds)] }
def AuthKillsSaid : Prop := authKillsRow.holds Tryz.pinned (OpenSpec.ofChange authKillsSpec)

/-- ITS FALSE NEIGHBOUR: 'it returns false'. Refute it at one input. -/
def authKillsWrong : ChangeSpec := { name := "authKills", fn := fun _ => fun
  | [d1, d2] => { results := [.lit (.bool false)], args := [d1, d2] }
  | _ => none }
def AuthKillsWrongFalsely : Prop := authKillsRow.holds Tryz.pinned (OpenSpec.ofChange authKillsWrong)

/-- 'huddlelaw16.AuthCounts': WHATEVER THE INPUT: true; the input reads as it did. -/
def authCountsSpec : ChangeSpec := { name := "authCounts", fn := fun _ => fun
  | [d1, d2] => { results := [.lit (.bool true)], args := [d1, d2] }
  | _ => none }
def authCountsRow : OpenClaim := { program := "ytdichbeaekjibaagreatdoor", sum := "884cc5029deec9e1475d246fd1c64f6d6cc4a45ab37bf62ec2a12ade937ed425", func := "huddle/huddlelaw16.AuthCounts", spec := "authCounts", unfollowed := true, recurses := true, named := ["huddle/op.kinds", "huddle/roll.asks"], plainKeys := false, apart := false, laid := [("huddle/roll.asks", laid_huddle_roll_asks), ("huddle/op.kinds", laid_huddle_op_kinds)] }
def AuthCountsSaid : Prop := authCountsRow.holds Tryz.pinned (OpenSpec.ofChange authCountsSpec)

/-- ITS FALSE NEIGHBOUR: 'it returns false'. Refute it at one input. -/
def authCountsWrong : ChangeSpec := { name := "authCounts", fn := fun _ => fun
  | [d1, d2] => { results := [.lit (.bool false)], args := [d1, d2] }
  | _ => none }
def AuthCountsWrongFalsely : Prop := authCountsRow.holds Tryz.pinned (OpenSpec.ofChange authCountsWrong)

/-- 'huddlelaw16.AuthWhys': WHATEVER THE INPUT: true; the input reads as it did. -/
def authWhysSpec : ChangeSpec := { name := "authWhys", fn := fun _ => fun
  | [d1, d2, d3] => { results := [.lit (.bool true)], args := [d1, d2, d3] }
  | _ => none }
def authWhysRow : OpenClaim := { program := "ytdichbeaekjibaagreatdoor", sum := "884cc5029deec9e1475d246fd1c64f6d6cc4a45ab37bf62ec2a12ade937ed425", func := "huddle/huddlelaw16.AuthWhys", spec := "authWhys", unfollowed := true, recurses := true, named := ["huddle/op.kinds", "huddle/roll.asks"], plainKeys := false, apart := false, laid := [("huddle/roll.asks", laid_huddle_roll_asks), ("huddle/op.kinds", laid_huddle_op_kinds)] }
def AuthWhysSaid : Prop := authWhysRow.holds Tryz.pinned (OpenSpec.ofChange authWhysSpec)

/-- ITS FALSE NEIGHBOUR: 'it returns false'. Refute it at one input. -/
def authWhysWrong : ChangeSpec := { name := "authWhys", fn := fun _ => fun
  | [d1, d2, d3] => { results := [.lit (.bool false)], args := [d1, d2, d3] }
  | _ => none }
def AuthWhysWrongFalsely : Prop := authWhysRow.holds Tryz.pinned (OpenSpec.ofChange authWhysWrong)

/-- 'huddlelaw16.AuthRow': WHATEVER THE INPUT: true; the input reads as it did. -/
def authRowSpec : ChangeSpec := { name := "authRow", fn := fun _ => fun
  | [d1, d2] => { results := [.lit (.bool true)], args := [d1, d2] }
  | _ => none }
def authRowRow : OpenClaim := { program := "ytdichbeaekjibaagreatdoor", sum := "884cc5029deec9e1475d246fd1c64f6d6cc4a45ab37bf62ec2a12ade937ed425", func := "huddle/huddlelaw16.AuthRow", spec := "authRow", unfollowed := true, recurses := true, named := ["huddle/op.kinds", "huddle/roll.asks"], plainKeys := false, apart := false, laid := [("huddle/roll.asks", laid_huddle_roll_asks), ("huddle/op.kinds", laid_huddle_op_kinds)] }
def AuthRowSaid : Prop := authRowRow.holds Tryz.pinned (OpenSpec.ofChange authRowSpec)

/-- ITS FALSE NEIGHBOUR: 'it returns false'. Refute it at one input. -/
def authRowWrong : ChangeSpec := { name := "authRow", fn := fun _ => fun
  | [d1, d2] => { results := [.lit (.bool false)], args := [d1, d2] }
  | _ => none }
def AuthRowWrongFalsely : Prop := authRowRow.holds Tryz.pinned (OpenSpec.ofChange authRowWrong)

/-- 'huddlelaw16.AuthPlain': WHATEVER THE INPUT: true; the input reads as it did. -/
def authPlainSpec : ChangeSpec := { name := "authPlain", fn := fun _ => fun
  | [d] => { results := [.lit (.bool true)], args := [d] }
  | _ => none }
def authPlainRow : OpenClaim := { program := "ytdichbeaekjibaagreatdoor", sum := "884cc5029deec9e1475d246fd1c64f6d6cc4a45ab37bf62ec2a12ade937ed425", func := "huddle/huddlelaw16.AuthPlain", spec := "authPlain", unfollowed := true, recurses := true, named := ["huddle/op.kinds", "huddle/roll.asks"], plainKeys := false, apart := false, laid := [("huddle/roll.asks", laid_huddle_roll_asks), ("huddle/op.kinds", laid_huddle_op_kinds)] }
def AuthPlainSaid : Prop := authPlainRow.holds Tryz.pinned (OpenSpec.ofChange authPlainSpec)

/-- ITS FALSE NEIGHBOUR: 'it returns false'. Refute it at one input. -/
def authPlainWrong : ChangeSpec := { name := "authPlain", fn := fun _ => fun
  | [d] => { results := [.lit (.bool false)], args := [d] }
  | _ => none }
def AuthPlainWrongFalsely : Prop := authPlainRow.holds Tryz.pinned (OpenSpec.ofChange authPlainWrong)

/-- 'huddlelaw16.AuthBeside': WHATEVER THE INPUT: true; the input reads as it did. -/
def authBesideSpec : ChangeSpec := { name := "authBeside", fn := fun _ => fun
  | [d1, d2, d3] => { results := [.lit (.bool true)], args := [d1, d2, d3] }
  | _ => none }
def authBesideRow : OpenClaim := { program := "ytdichbeaekjibaagreatdoor", sum := "884cc5029deec9e1475d246fd1c64f6d6cc4a45ab37bf62ec2a12ade937ed425", func := "huddle/huddlelaw16.AuthBeside", spec := "authBeside", unfollowed := true, recurses := true, named := ["huddle/op.kinds", "huddle/roll.asks"], plainKeys := false, apart := false, laid := [("huddle/roll.asks", laid_huddle_roll_asks), ("huddle/op.kinds", laid_huddle_op_kinds)] }
def AuthBesideSaid : Prop := authBesideRow.holds Tryz.pinned (OpenSpec.ofChange authBesideSpec)

/-- ITS FALSE NEIGHBOUR: 'it returns false'. Refute it at one input. -/
def authBesideWrong : ChangeSpec := { name := "authBeside", fn := fun _ => fun
  | [d1, d2, d3] => { results := [.lit (.bool false)], args := [d1, d2, d3] }
  | _ => none }
def AuthBesideWrongFalsely : Prop := authBesideRow.holds Tryz.pinned (OpenSpec.ofChange authBesideWrong)

/-- 'huddlelaw16.AuthForks': WHATEVER THE INPUT: true; the input reads as it did. -/
def authForksSpec : ChangeSpec := { name := "authForks", fn := fun _ => fun
  | [d1, d2] => { results := [.lit (.bool true)], args := [d1, d2] }
  | _ => none }
def authForksRow : OpenClaim := { program := "ytdichbeaekjibaagreatdoor", sum := "884cc5029deec9e1475d246fd1c64f6d6cc4a45ab37bf62ec2a12ade937ed425", func := "huddle/huddlelaw16.AuthForks", spec := "authForks", unfollowed := true, recurses := true, named := ["huddle/op.kinds", "huddle/roll.asks"], plainKeys := false, apart := false, laid := [("huddle/roll.asks", laid_huddle_roll_asks), ("huddle/op.kinds", laid_huddle_op_kinds)] }
def AuthForksSaid : Prop := authForksRow.holds Tryz.pinned (OpenSpec.ofChange authForksSpec)

/-- ITS FALSE NEIGHBOUR: 'it returns false'. Refute it at one input. -/
def authForksWrong : ChangeSpec := { name := "authForks", fn := fun _ => fun
  | [d1, d2] => { results := [.lit (.bool false)], args := [d1, d2] }
  | _ => none }
def AuthForksWrongFalsely : Prop := authForksRow.holds Tryz.pinned (OpenSpec.ofChange authForksWrong)

/-- 'huddlelaw16.AuthWins': WHATEVER THE INPUT: true; the input reads as it did. -/
def authWinsSpec : ChangeSpec := { name := "authWins", fn := fun _ => fun
  | [d1, d2] => { results := [.lit (.bool true)], args := [d1, d2] }
  | _ => none }
def authWinsRow : OpenClaim := { program := "ytdichbeaekjibaagreatdoor", sum := "884cc5029deec9e1475d246fd1c64f6d6cc4a45ab37bf62ec2a12ade937ed425", func := "huddle/huddlelaw16.AuthWins", spec := "authWins", unfollowed := true, recurses := true, named := ["huddle/op.kinds", "huddle/roll.asks"], plainKeys := false, apart := false, laid := [("huddle/roll.asks", laid_huddle_roll_asks), ("huddle/op.kinds", laid_huddle_op_kinds)] }
def AuthWinsSaid : Prop := authWinsRow.holds Tryz.pinned (OpenSpec.ofChange authWinsSpec)

/-- ITS FALSE NEIGHBOUR: 'it returns false'. Refute it at one input. -/
def authWinsWrong : ChangeSpec := { name := "authWins", fn := fun _ => fun
  | [d1, d2] => { results := [.lit (.bool false)], args := [d1, d2] }
  | _ => none }
def AuthWinsWrongFalsely : Prop := authWinsRow.holds Tryz.pinned (OpenSpec.ofChange authWinsWrong)

/-- 'huddlelaw16.AuthCircles': WHATEVER THE INPUT: true; the input reads as it did. -/
def authCirclesSpec : ChangeSpec := { name := "authCircles", fn := fun _ => fun
  | [d1, d2, d3] => { results := [.lit (.bool true)], args := [d1, d2, d3] }
  | _ => none }
def authCirclesRow : OpenClaim := { program := "ytdichbeaekjibaagreatdoor", sum := "884cc5029deec9e1475d246fd1c64f6d6cc4a45ab37bf62ec2a12ade937ed425", func := "huddle/huddlelaw16.AuthCircles", spec := "authCircles", unfollowed := true, recurses := true, named := ["huddle/op.kinds", "huddle/roll.asks"], plainKeys := false, apart := false, laid := [("huddle/roll.asks", laid_huddle_roll_asks), ("huddle/op.kinds", laid_huddle_op_kinds)] }
def AuthCirclesSaid : Prop := authCirclesRow.holds Tryz.pinned (OpenSpec.ofChange authCirclesSpec)

/-- ITS FALSE NEIGHBOUR: 'it returns false'. Refute it at one input. -/
def authCirclesWrong : ChangeSpec := { name := "authCircles", fn := fun _ => fun
  | [d1, d2, d3] => { results := [.lit (.bool false)], args := [d1, d2, d3] }
  | _ => none }
def AuthCirclesWrongFalsely : Prop := authCirclesRow.holds Tryz.pinned (OpenSpec.ofChange authCirclesWrong)

/-- 'huddlelaw16.AuthRolls': WHATEVER THE INPUT: true; the input reads as it did. -/
def authRollsSpec : ChangeSpec := { name := "authRolls", fn := fun _ => fun
  | [d1, d2] => { results := [.lit (.bool true)], args := [d1, d2] }
  | _ => none }
def authRollsRow : OpenClaim := { program := "ytdichbeaekjibaagreatdoor", sum := "884cc5029deec9e1475d246fd1c64f6d6cc4a45ab37bf62ec2a12ade937ed425", func := "huddle/huddlelaw16.AuthRolls", spec := "authRolls", unfollowed := true, recurses := true, named := ["huddle/op.kinds", "huddle/roll.asks"], plainKeys := false, apart := false, laid := [("huddle/roll.asks", laid_huddle_roll_asks), ("huddle/op.kinds", laid_huddle_op_kinds)] }
def AuthRollsSaid : Prop := authRollsRow.holds Tryz.pinned (OpenSpec.ofChange authRollsSpec)

/-- ITS FALSE NEIGHBOUR: 'it returns false'. Refute it at one input. -/
def authRollsWrong : ChangeSpec := { name := "authRolls", fn := fun _ => fun
  | [d1, d2] => { results := [.lit (.bool false)], args := [d1, d2] }
  | _ => none }
def AuthRollsWrongFalsely : Prop := authRollsRow.holds Tryz.pinned (OpenSpec.ofChange authRollsWrong)

/- THE SECOND FORM. 'bulk': how many values and letters a reading holds, each counted each time it is reached (what is shared counts as often as it is met; a slice's spare places count too). A statement '..UptoSaid' is the law's where the arguments, and the package variables that the reading takes, are together of bulk at most 1048576: NARROWER than '..Said'. Prove '..Said' where nothing that the law and all that it calls make is longer than what came in: it says more and counts as full. Else prove '..UptoSaid'. A law counts once. -/
mutual
def uptoBulk {H : Type} : DataW H → Nat
  | .lit (.string bytes) => bytes.length + 1
  | .lit _ => 1
  | .nil => 1
  | .ptr d => uptoBulk d + 1
  | .slice elems spare => uptoBulkAll elems + uptoBulkAll spare + 1
  | .agg parts => uptoBulkAll parts + 1
  | .iface _ d => uptoBulk d + 1
  | .map entries => uptoBulkEntries entries + 1
  | .held _ => 1
def uptoBulkAll {H : Type} : List (DataW H) → Nat
  | [] => 0
  | d :: r => uptoBulk d + uptoBulkAll r
def uptoBulkEntries {H : Type} : List (Lit × DataW H) → Nat
  | [] => 0
  | x :: r => uptoBulkEntry x + uptoBulkEntries r
def uptoBulkEntry {H : Type} : Lit × DataW H → Nat
  | (.string bytes, d) => bytes.length + uptoBulk d + 1
  | (_, d) => uptoBulk d + 1
 end
def uptoSmall : (H : Type) → List (DataW H) → Bool := fun _ ds => decide (uptoBulkAll ds ≤ 1048576)
def OpenSpec.upto (s : _root_.Go.ChangeSpec) : _root_.Go.OpenSpec := { _root_.Go.OpenSpec.ofChange s with cond := some uptoSmall }

/-- 'huddlelaw16.AuthKills', WHERE WHAT IT READS IS OF BULK AT MOST 1048576: true; the input reads as it did. -/
def authKillsUptoRow : OpenClaim := { program := "ytdichbeaekjibaagreatdoor", sum := "884cc5029deec9e1475d246fd1c64f6d6cc4a45ab37bf62ec2a12ade937ed425", func := "huddle/huddlelaw16.AuthKills", spec := "authKills", unfollowed := true, recurses := true, named := ["huddle/op.kinds", "huddle/roll.asks"], plainKeys := false, apart := false, laid := [("huddle/roll.asks", laid_huddle_roll_asks), ("huddle/op.kinds", laid_huddle_op_kinds)], narrowed := true }
def AuthKillsUptoSaid : Prop := authKillsUptoRow.holds Tryz.pinned (OpenSpec.upto authKillsSpec)

/-- 'huddlelaw16.AuthCounts', WHERE WHAT IT READS IS OF BULK AT MOST 1048576: true; the input reads as it did. -/
def authCountsUptoRow : OpenClaim := { program := "ytdichbeaekjibaagreatdoor", sum := "884cc5029deec9e1475d246fd1c64f6d6cc4a45ab37bf62ec2a12ade937ed425", func := "huddle/huddlelaw16.AuthCounts", spec := "authCounts", unfollowed := true, recurses := true, named := ["huddle/op.kinds", "huddle/roll.asks"], plainKeys := false, apart := false, laid := [("huddle/roll.asks", laid_huddle_roll_asks), ("huddle/op.kinds", laid_huddle_op_kinds)], narrowed := true }
def AuthCountsUptoSaid : Prop := authCountsUptoRow.holds Tryz.pinned (OpenSpec.upto authCountsSpec)

/-- 'huddlelaw16.AuthWhys', WHERE WHAT IT READS IS OF BULK AT MOST 1048576: true; the input reads as it did. -/
def authWhysUptoRow : OpenClaim := { program := "ytdichbeaekjibaagreatdoor", sum := "884cc5029deec9e1475d246fd1c64f6d6cc4a45ab37bf62ec2a12ade937ed425", func := "huddle/huddlelaw16.AuthWhys", spec := "authWhys", unfollowed := true, recurses := true, named := ["huddle/op.kinds", "huddle/roll.asks"], plainKeys := false, apart := false, laid := [("huddle/roll.asks", laid_huddle_roll_asks), ("huddle/op.kinds", laid_huddle_op_kinds)], narrowed := true }
def AuthWhysUptoSaid : Prop := authWhysUptoRow.holds Tryz.pinned (OpenSpec.upto authWhysSpec)

/-- 'huddlelaw16.AuthRow', WHERE WHAT IT READS IS OF BULK AT MOST 1048576: true; the input reads as it did. -/
def authRowUptoRow : OpenClaim := { program := "ytdichbeaekjibaagreatdoor", sum := "884cc5029deec9e1475d246fd1c64f6d6cc4a45ab37bf62ec2a12ade937ed425", func := "huddle/huddlelaw16.AuthRow", spec := "authRow", unfollowed := true, recurses := true, named := ["huddle/op.kinds", "huddle/roll.asks"], plainKeys := false, apart := false, laid := [("huddle/roll.asks", laid_huddle_roll_asks), ("huddle/op.kinds", laid_huddle_op_kinds)], narrowed := true }
def AuthRowUptoSaid : Prop := authRowUptoRow.holds Tryz.pinned (OpenSpec.upto authRowSpec)

/-- 'huddlelaw16.AuthPlain', WHERE WHAT IT READS IS OF BULK AT MOST 1048576: true; the input reads as it did. -/
def authPlainUptoRow : OpenClaim := { program := "ytdichbeaekjibaagreatdoor", sum := "884cc5029deec9e1475d246fd1c64f6d6cc4a45ab37bf62ec2a12ade937ed425", func := "huddle/huddlelaw16.AuthPlain", spec := "authPlain", unfollowed := true, recurses := true, named := ["huddle/op.kinds", "huddle/roll.asks"], plainKeys := false, apart := false, laid := [("huddle/roll.asks", laid_huddle_roll_asks), ("huddle/op.kinds", laid_huddle_op_kinds)], narrowed := true }
def AuthPlainUptoSaid : Prop := authPlainUptoRow.holds Tryz.pinned (OpenSpec.upto authPlainSpec)

/-- 'huddlelaw16.AuthBeside', WHERE WHAT IT READS IS OF BULK AT MOST 1048576: true; the input reads as it did. -/
def authBesideUptoRow : OpenClaim := { program := "ytdichbeaekjibaagreatdoor", sum := "884cc5029deec9e1475d246fd1c64f6d6cc4a45ab37bf62ec2a12ade937ed425", func := "huddle/huddlelaw16.AuthBeside", spec := "authBeside", unfollowed := true, recurses := true, named := ["huddle/op.kinds", "huddle/roll.asks"], plainKeys := false, apart := false, laid := [("huddle/roll.asks", laid_huddle_roll_asks), ("huddle/op.kinds", laid_huddle_op_kinds)], narrowed := true }
def AuthBesideUptoSaid : Prop := authBesideUptoRow.holds Tryz.pinned (OpenSpec.upto authBesideSpec)

/-- 'huddlelaw16.AuthForks', WHERE WHAT IT READS IS OF BULK AT MOST 1048576: true; the input reads as it did. -/
def authForksUptoRow : OpenClaim := { program := "ytdichbeaekjibaagreatdoor", sum := "884cc5029deec9e1475d246fd1c64f6d6cc4a45ab37bf62ec2a12ade937ed425", func := "huddle/huddlelaw16.AuthForks", spec := "authForks", unfollowed := true, recurses := true, named := ["huddle/op.kinds", "huddle/roll.asks"], plainKeys := false, apart := false, laid := [("huddle/roll.asks", laid_huddle_roll_asks), ("huddle/op.kinds", laid_huddle_op_kinds)], narrowed := true }
def AuthForksUptoSaid : Prop := authForksUptoRow.holds Tryz.pinned (OpenSpec.upto authForksSpec)

/-- 'huddlelaw16.AuthWins', WHERE WHAT IT READS IS OF BULK AT MOST 1048576: true; the input reads as it did. -/
def authWinsUptoRow : OpenClaim := { program := "ytdichbeaekjibaagreatdoor", sum := "884cc5029deec9e1475d246fd1c64f6d6cc4a45ab37bf62ec2a12ade937ed425", func := "huddle/huddlelaw16.AuthWins", spec := "authWins", unfollowed := true, recurses := true, named := ["huddle/op.kinds", "huddle/roll.asks"], plainKeys := false, apart := false, laid := [("huddle/roll.asks", laid_huddle_roll_asks), ("huddle/op.kinds", laid_huddle_op_kinds)], narrowed := true }
def AuthWinsUptoSaid : Prop := authWinsUptoRow.holds Tryz.pinned (OpenSpec.upto authWinsSpec)

/-- 'huddlelaw16.AuthCircles', WHERE WHAT IT READS IS OF BULK AT MOST 1048576: true; the input reads as it did. -/
def authCirclesUptoRow : OpenClaim := { program := "ytdichbeaekjibaagreatdoor", sum := "884cc5029deec9e1475d246fd1c64f6d6cc4a45ab37bf62ec2a12ade937ed425", func := "huddle/huddlelaw16.AuthCircles", spec := "authCircles", unfollowed := true, recurses := true, named := ["huddle/op.kinds", "huddle/roll.asks"], plainKeys := false, apart := false, laid := [("huddle/roll.asks", laid_huddle_roll_asks), ("huddle/op.kinds", laid_huddle_op_kinds)], narrowed := true }
def AuthCirclesUptoSaid : Prop := authCirclesUptoRow.holds Tryz.pinned (OpenSpec.upto authCirclesSpec)

/-- 'huddlelaw16.AuthRolls', WHERE WHAT IT READS IS OF BULK AT MOST 1048576: true; the input reads as it did. -/
def authRollsUptoRow : OpenClaim := { program := "ytdichbeaekjibaagreatdoor", sum := "884cc5029deec9e1475d246fd1c64f6d6cc4a45ab37bf62ec2a12ade937ed425", func := "huddle/huddlelaw16.AuthRolls", spec := "authRolls", unfollowed := true, recurses := true, named := ["huddle/op.kinds", "huddle/roll.asks"], plainKeys := false, apart := false, laid := [("huddle/roll.asks", laid_huddle_roll_asks), ("huddle/op.kinds", laid_huddle_op_kinds)], narrowed := true }
def AuthRollsUptoSaid : Prop := authRollsUptoRow.holds Tryz.pinned (OpenSpec.upto authRollsSpec)

end Rows
end Go.Proofs.YtdichbeaekjibaaGreatDoor
