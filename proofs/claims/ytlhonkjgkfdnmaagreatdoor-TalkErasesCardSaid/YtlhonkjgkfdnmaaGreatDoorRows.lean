/-
  NARROWER THAN 'FOR EVERY INPUT', by the rows' own cells (each row's printed sentence says how): TalkLast: laid · TalkMembers: laid · TalkRow: laid · TalkVoid: laid · TalkErases: laid · AuthRolls: laid · TalkTells: laid · TalkRefs: laid.
  DERIVED. THE GIVEN ROWS OF THIS SEAT. 8 by the template 'for every input the law returns true; each argument reads behind the call as it read before'; 0 by the template 'total and deterministic' (their statements: YtlhonkjgkfdnmaaGreatDoorTotals.lean).
  GIVEN WITH THE SEED: the statements are not yours to turn. If you find one false, say at which input.
  Laid BY PROGRAM, IN A SANDBOX (cutbox-rows.mjs): the forced cells as the released guide's own fill.sh prints them over the translation 0c7231ef8d4f1233… (all of the seat's roots in one cut). By AI agents, Wed Nov 11 2026. No macro, syntax, notation, axiom, sorry.
-/
import Derived.Test.YtlhonkjgkfdnmaaGreatDoorChecked
import GoSem.Claim
import GoSem.ClaimJoined
import GoSem.ClaimMapViews
import Derived.JoinedTies
import Derived.KernelRfl
namespace Go.Proofs.YtlhonkjgkfdnmaaGreatDoor
/- THE CELL 'sum', in the pinned program and in every row, IS THE sha256 OF THE DUMP (.gsa) THAT YtlhonkjgkfdnmaaGreatDoorProg.lean LOADS. Nothing in Lean hashes anything: it is a label: what it is worth is what the hold of that sum in a sandbox is worth. -/
noncomputable def Tryz.pinned : Pinned := { name := "ytlhonkjgkfdnmaagreatdoor", sum := "0c7231ef8d4f1233bc7f3fbc55551ff0b2e1e69d1ce164172e88d1b6c6e78bc4", checked := Tryz.checked }
namespace Rows
def none {H : Type} : Left H := { results := [], args := [] }

/- WHAT THE LISTED PACKAGE-LEVEL VARIABLES READ AS WHEN THE CALL BEGINS. Each datum BY PROGRAM (the guide's laid-datum.mjs) off the statement by which the dump's own 'gosem.cut.vars' lays the variable. In a bare row this is a premise. The card (YtlhonkjgkfdnmaaGreatDoorCards.lean) ties it to the program's text. -/
def laid_huddle_roll_asks {H : Type} : DataW H := .iface "func table" (.agg [.nil, .nil, .iface "func" (.lit (.string [104, 117, 100, 100, 108, 101, 47, 114, 111, 108, 108, 46, 97, 115, 107, 115, 36, 49])), .iface "func" (.lit (.string [104, 117, 100, 100, 108, 101, 47, 114, 111, 108, 108, 46, 97, 115, 107, 115, 36, 50])), .nil, .iface "func" (.lit (.string [104, 117, 100, 100, 108, 101, 47, 114, 111, 108, 108, 46, 97, 115, 107, 115, 36, 51])), .iface "func" (.lit (.string [104, 117, 100, 100, 108, 101, 47, 114, 111, 108, 108, 46, 97, 115, 107, 115, 36, 52])), .nil, .iface "func" (.lit (.string [104, 117, 100, 100, 108, 101, 47, 114, 111, 108, 108, 46, 97, 115, 107, 115, 36, 53])), .iface "func" (.lit (.string [104, 117, 100, 100, 108, 101, 47, 114, 111, 108, 108, 46, 97, 115, 107, 115, 36, 54])), .iface "func" (.lit (.string [40, 42, 104, 117, 100, 100, 108, 101, 47, 114, 111, 108, 108, 46, 82, 111, 108, 108, 41, 46, 111, 119, 110])), .iface "func" (.lit (.string [104, 117, 100, 100, 108, 101, 47, 114, 111, 108, 108, 46, 97, 115, 107, 115, 36, 55])), .iface "func" (.lit (.string [40, 42, 104, 117, 100, 100, 108, 101, 47, 114, 111, 108, 108, 46, 82, 111, 108, 108, 41, 46, 111, 119, 110])), .iface "func" (.lit (.string [104, 117, 100, 100, 108, 101, 47, 114, 111, 108, 108, 46, 97, 115, 107, 115, 36, 56]))])
def laid_huddle_op_kinds {H : Type} : DataW H := .agg [.lit (.int .i64 0), .lit (.int .i64 2064), .lit (.int .i64 32793), .lit (.int .i64 21), .lit (.int .i64 16), .lit (.int .i64 12), .lit (.int .i64 480), .lit (.int .i64 640), .lit (.int .i64 512), .lit (.int .i64 31744), .lit (.int .i64 8704), .lit (.int .i64 8705), .lit (.int .i64 512), .lit (.int .i64 33299)]

/-- 'huddlelaw17.TalkLast': WHATEVER THE INPUT: true; the input reads as it did. -/
def talkLastSpec : ChangeSpec := { name := "talkLast", fn := fun _ => fun
  | [d1, d2, d3] => { results := [.lit (.bool true)], args := [d1, d2, d3] }
  | _ => none }
def talkLastRow : OpenClaim := { program := "ytlhonkjgkfdnmaagreatdoor", sum := "0c7231ef8d4f1233bc7f3fbc55551ff0b2e1e69d1ce164172e88d1b6c6e78bc4", func := "huddle/huddlelaw17.TalkLast", spec := "talkLast", unfollowed := true, recurses := true, named := ["huddle/op.kinds", "huddle/roll.asks"], plainKeys := false, apart := false, laid := [("huddle/roll.asks", laid_huddle_roll_asks), ("huddle/op.kinds", laid_huddle_op_kinds)] }
def TalkLastSaid : Prop := talkLastRow.holds Tryz.pinned (OpenSpec.ofChange talkLastSpec)

/-- ITS FALSE NEIGHBOUR: 'it returns false'. Refute it at one input. -/
def talkLastWrong : ChangeSpec := { name := "talkLast", fn := fun _ => fun
  | [d1, d2, d3] => { results := [.lit (.bool false)], args := [d1, d2, d3] }
  | _ => none }
def TalkLastWrongFalsely : Prop := talkLastRow.holds Tryz.pinned (OpenSpec.ofChange talkLastWrong)

/-- 'huddlelaw17.TalkMembers': WHATEVER THE INPUT: true; the input reads as it did. -/
def talkMembersSpec : ChangeSpec := { name := "talkMembers", fn := fun _ => fun
  | [d1, d2, d3, d4] => { results := [.lit (.bool true)], args := [d1, d2, d3, d4] }
  | _ => none }
def talkMembersRow : OpenClaim := { program := "ytlhonkjgkfdnmaagreatdoor", sum := "0c7231ef8d4f1233bc7f3fbc55551ff0b2e1e69d1ce164172e88d1b6c6e78bc4", func := "huddle/huddlelaw17.TalkMembers", spec := "talkMembers", unfollowed := true, recurses := true, named := ["huddle/op.kinds", "huddle/roll.asks"], plainKeys := false, apart := false, laid := [("huddle/roll.asks", laid_huddle_roll_asks), ("huddle/op.kinds", laid_huddle_op_kinds)] }
def TalkMembersSaid : Prop := talkMembersRow.holds Tryz.pinned (OpenSpec.ofChange talkMembersSpec)

/-- ITS FALSE NEIGHBOUR: 'it returns false'. Refute it at one input. -/
def talkMembersWrong : ChangeSpec := { name := "talkMembers", fn := fun _ => fun
  | [d1, d2, d3, d4] => { results := [.lit (.bool false)], args := [d1, d2, d3, d4] }
  | _ => none }
def TalkMembersWrongFalsely : Prop := talkMembersRow.holds Tryz.pinned (OpenSpec.ofChange talkMembersWrong)

/-- 'huddlelaw17.TalkRow': WHATEVER THE INPUT: true; the input reads as it did. -/
def talkRowSpec : ChangeSpec := { name := "talkRow", fn := fun _ => fun
  | [d1, d2, d3] => { results := [.lit (.bool true)], args := [d1, d2, d3] }
  | _ => none }
def talkRowRow : OpenClaim := { program := "ytlhonkjgkfdnmaagreatdoor", sum := "0c7231ef8d4f1233bc7f3fbc55551ff0b2e1e69d1ce164172e88d1b6c6e78bc4", func := "huddle/huddlelaw17.TalkRow", spec := "talkRow", unfollowed := true, recurses := true, named := ["huddle/op.kinds", "huddle/roll.asks"], plainKeys := false, apart := false, laid := [("huddle/roll.asks", laid_huddle_roll_asks), ("huddle/op.kinds", laid_huddle_op_kinds)] }
def TalkRowSaid : Prop := talkRowRow.holds Tryz.pinned (OpenSpec.ofChange talkRowSpec)

/-- ITS FALSE NEIGHBOUR: 'it returns false'. Refute it at one input. -/
def talkRowWrong : ChangeSpec := { name := "talkRow", fn := fun _ => fun
  | [d1, d2, d3] => { results := [.lit (.bool false)], args := [d1, d2, d3] }
  | _ => none }
def TalkRowWrongFalsely : Prop := talkRowRow.holds Tryz.pinned (OpenSpec.ofChange talkRowWrong)

/-- 'huddlelaw17.TalkVoid': WHATEVER THE INPUT: true; the input reads as it did. -/
def talkVoidSpec : ChangeSpec := { name := "talkVoid", fn := fun _ => fun
  | [d1, d2] => { results := [.lit (.bool true)], args := [d1, d2] }
  | _ => none }
def talkVoidRow : OpenClaim := { program := "ytlhonkjgkfdnmaagreatdoor", sum := "0c7231ef8d4f1233bc7f3fbc55551ff0b2e1e69d1ce164172e88d1b6c6e78bc4", func := "huddle/huddlelaw17.TalkVoid", spec := "talkVoid", unfollowed := true, recurses := true, named := ["huddle/op.kinds", "huddle/roll.asks"], plainKeys := false, apart := false, laid := [("huddle/roll.asks", laid_huddle_roll_asks), ("huddle/op.kinds", laid_huddle_op_kinds)] }
def TalkVoidSaid : Prop := talkVoidRow.holds Tryz.pinned (OpenSpec.ofChange talkVoidSpec)

/-- ITS FALSE NEIGHBOUR: 'it returns false'. Refute it at one input. -/
def talkVoidWrong : ChangeSpec := { name := "talkVoid", fn := fun _ => fun
  | [d1, d2] => { results := [.lit (.bool false)], args := [d1, d2] }
  | _ => none }
def TalkVoidWrongFalsely : Prop := talkVoidRow.holds Tryz.pinned (OpenSpec.ofChange talkVoidWrong)

/-- 'huddlelaw17.TalkErases': WHATEVER THE INPUT: true; the input reads as it did. -/
def talkErasesSpec : ChangeSpec := { name := "talkErases", fn := fun _ => fun
  | [d1, d2, d3] => { results := [.lit (.bool true)], args := [d1, d2, d3] }
  | _ => none }
def talkErasesRow : OpenClaim := { program := "ytlhonkjgkfdnmaagreatdoor", sum := "0c7231ef8d4f1233bc7f3fbc55551ff0b2e1e69d1ce164172e88d1b6c6e78bc4", func := "huddle/huddlelaw17.TalkErases", spec := "talkErases", unfollowed := true, recurses := true, named := ["huddle/op.kinds", "huddle/roll.asks"], plainKeys := false, apart := false, laid := [("huddle/roll.asks", laid_huddle_roll_asks), ("huddle/op.kinds", laid_huddle_op_kinds)] }
def TalkErasesSaid : Prop := talkErasesRow.holds Tryz.pinned (OpenSpec.ofChange talkErasesSpec)

/-- ITS FALSE NEIGHBOUR: 'it returns false'. Refute it at one input. -/
def talkErasesWrong : ChangeSpec := { name := "talkErases", fn := fun _ => fun
  | [d1, d2, d3] => { results := [.lit (.bool false)], args := [d1, d2, d3] }
  | _ => none }
def TalkErasesWrongFalsely : Prop := talkErasesRow.holds Tryz.pinned (OpenSpec.ofChange talkErasesWrong)

/-- 'huddlelaw16.AuthRolls': WHATEVER THE INPUT: true; the input reads as it did. -/
def authRollsSpec : ChangeSpec := { name := "authRolls", fn := fun _ => fun
  | [d1, d2] => { results := [.lit (.bool true)], args := [d1, d2] }
  | _ => none }
def authRollsRow : OpenClaim := { program := "ytlhonkjgkfdnmaagreatdoor", sum := "0c7231ef8d4f1233bc7f3fbc55551ff0b2e1e69d1ce164172e88d1b6c6e78bc4", func := "huddle/huddlelaw16.AuthRolls", spec := "authRolls", unfollowed := true, recurses := true, named := ["huddle/op.kinds", "huddle/roll.asks"], plainKeys := false, apart := false, laid := [("huddle/roll.asks", laid_huddle_roll_asks), ("huddle/op.kinds", laid_huddle_op_kinds)] }
def AuthRollsSaid : Prop := authRollsRow.holds Tryz.pinned (OpenSpec.ofChange authRollsSpec)

/-- ITS FALSE NEIGHBOUR: 'it returns false'. Refute it at one input. -/
def authRollsWrong : ChangeSpec := { name := "authRolls", fn := fun _ => fun
  | [d1, d2] => { results := [.lit (.bool false)], args := [d1, d2] }
  | _ => none }
def AuthRollsWrongFalsely : Prop := authRollsRow.holds Tryz.pinned (OpenSpec.ofChange authRollsWrong)

/-- 'huddlelaw17.TalkTells': WHATEVER THE INPUT: true; the input reads as it did. -/
def talkTellsSpec : ChangeSpec := { name := "talkTells", fn := fun _ => fun
  | [d1, d2, d3] => { results := [.lit (.bool true)], args := [d1, d2, d3] }
  | _ => none }
def talkTellsRow : OpenClaim := { program := "ytlhonkjgkfdnmaagreatdoor", sum := "0c7231ef8d4f1233bc7f3fbc55551ff0b2e1e69d1ce164172e88d1b6c6e78bc4", func := "huddle/huddlelaw17.TalkTells", spec := "talkTells", unfollowed := true, recurses := true, named := ["huddle/op.kinds", "huddle/roll.asks"], plainKeys := false, apart := false, laid := [("huddle/roll.asks", laid_huddle_roll_asks), ("huddle/op.kinds", laid_huddle_op_kinds)] }
def TalkTellsSaid : Prop := talkTellsRow.holds Tryz.pinned (OpenSpec.ofChange talkTellsSpec)

/-- ITS FALSE NEIGHBOUR: 'it returns false'. Refute it at one input. -/
def talkTellsWrong : ChangeSpec := { name := "talkTells", fn := fun _ => fun
  | [d1, d2, d3] => { results := [.lit (.bool false)], args := [d1, d2, d3] }
  | _ => none }
def TalkTellsWrongFalsely : Prop := talkTellsRow.holds Tryz.pinned (OpenSpec.ofChange talkTellsWrong)

/-- 'huddlelaw17.TalkRefs': WHATEVER THE INPUT: true; the input reads as it did. -/
def talkRefsSpec : ChangeSpec := { name := "talkRefs", fn := fun _ => fun
  | [d1, d2] => { results := [.lit (.bool true)], args := [d1, d2] }
  | _ => none }
def talkRefsRow : OpenClaim := { program := "ytlhonkjgkfdnmaagreatdoor", sum := "0c7231ef8d4f1233bc7f3fbc55551ff0b2e1e69d1ce164172e88d1b6c6e78bc4", func := "huddle/huddlelaw17.TalkRefs", spec := "talkRefs", unfollowed := true, recurses := true, named := ["huddle/op.kinds", "huddle/roll.asks"], plainKeys := false, apart := false, laid := [("huddle/roll.asks", laid_huddle_roll_asks), ("huddle/op.kinds", laid_huddle_op_kinds)] }
def TalkRefsSaid : Prop := talkRefsRow.holds Tryz.pinned (OpenSpec.ofChange talkRefsSpec)

/-- ITS FALSE NEIGHBOUR: 'it returns false'. Refute it at one input. -/
def talkRefsWrong : ChangeSpec := { name := "talkRefs", fn := fun _ => fun
  | [d1, d2] => { results := [.lit (.bool false)], args := [d1, d2] }
  | _ => none }
def TalkRefsWrongFalsely : Prop := talkRefsRow.holds Tryz.pinned (OpenSpec.ofChange talkRefsWrong)

/- THE SECOND FORM. 'bulk': how many values and letters a reading holds, each counted each time it is reached (what is shared counts as often as it is met; a slice's spare places count too). A statement '..UptoSaid' is the law's where the arguments, and the package variables that the reading takes, are together of bulk at most 1048576: NARROWER than '..Said'. Prove '..Said' where nothing that the law and all that it calls make is longer than what came in: it says more and counts as full. Else prove '..UptoSaid'. A law counts once. -/
mutual
def uptoBulk {H : Type} : DataW H → Nat
  | .lit (.string bytes) => bytes.length + 1
  | .lit _ => 1
  | .nil => 1
  | .ptr d => uptoBulk d + 1
  | .slice elems spare => uptoBulkAll elems + uptoBulkAll spare + 1
  | .agg parts => uptoBulkAll parts + 1
  | .iface _ d => uptoBulk d + 1
  | .map entries => uptoBulkEntries entries + 1
  | .held _ => 1
def uptoBulkAll {H : Type} : List (DataW H) → Nat
  | [] => 0
  | d :: r => uptoBulk d + uptoBulkAll r
def uptoBulkEntries {H : Type} : List (Lit × DataW H) → Nat
  | [] => 0
  | x :: r => uptoBulkEntry x + uptoBulkEntries r
def uptoBulkEntry {H : Type} : Lit × DataW H → Nat
  | (.string bytes, d) => bytes.length + uptoBulk d + 1
  | (_, d) => uptoBulk d + 1
 end
def uptoSmall : (H : Type) → List (DataW H) → Bool := fun _ ds => decide (uptoBulkAll ds ≤ 1048576)
def OpenSpec.upto (s : _root_.Go.ChangeSpec) : _root_.Go.OpenSpec := { _root_.Go.OpenSpec.ofChange s with cond := some uptoSmall }

/-- 'huddlelaw17.TalkLast', WHERE WHAT IT READS IS OF BULK AT MOST 1048576: true; the input reads as it did. -/
def talkLastUptoRow : OpenClaim := { program := "ytlhonkjgkfdnmaagreatdoor", sum := "0c7231ef8d4f1233bc7f3fbc55551ff0b2e1e69d1ce164172e88d1b6c6e78bc4", func := "huddle/huddlelaw17.TalkLast", spec := "talkLast", unfollowed := true, recurses := true, named := ["huddle/op.kinds", "huddle/roll.asks"], plainKeys := false, apart := false, laid := [("huddle/roll.asks", laid_huddle_roll_asks), ("huddle/op.kinds", laid_huddle_op_kinds)], narrowed := true }
def TalkLastUptoSaid : Prop := talkLastUptoRow.holds Tryz.pinned (OpenSpec.upto talkLastSpec)

/-- 'huddlelaw17.TalkMembers', WHERE WHAT IT READS IS OF BULK AT MOST 1048576: true; the input reads as it did. -/
def talkMembersUptoRow : OpenClaim := { program := "ytlhonkjgkfdnmaagreatdoor", sum := "0c7231ef8d4f1233bc7f3fbc55551ff0b2e1e69d1ce164172e88d1b6c6e78bc4", func := "huddle/huddlelaw17.TalkMembers", spec := "talkMembers", unfollowed := true, recurses := true, named := ["huddle/op.kinds", "huddle/roll.asks"], plainKeys := false, apart := false, laid := [("huddle/roll.asks", laid_huddle_roll_asks), ("huddle/op.kinds", laid_huddle_op_kinds)], narrowed := true }
def TalkMembersUptoSaid : Prop := talkMembersUptoRow.holds Tryz.pinned (OpenSpec.upto talkMembersSpec)

/-- 'huddlelaw17.TalkRow', WHERE WHAT IT READS IS OF BULK AT MOST 1048576: true; the input reads as it did. -/
def talkRowUptoRow : OpenClaim := { program := "ytlhonkjgkfdnmaagreatdoor", sum := "0c7231ef8d4f1233bc7f3fbc55551ff0b2e1e69d1ce164172e88d1b6c6e78bc4", func := "huddle/huddlelaw17.TalkRow", spec := "talkRow", unfollowed := true, recurses := true, named := ["huddle/op.kinds", "huddle/roll.asks"], plainKeys := false, apart := false, laid := [("huddle/roll.asks", laid_huddle_roll_asks), ("huddle/op.kinds", laid_huddle_op_kinds)], narrowed := true }
def TalkRowUptoSaid : Prop := talkRowUptoRow.holds Tryz.pinned (OpenSpec.upto talkRowSpec)

/-- 'huddlelaw17.TalkVoid', WHERE WHAT IT READS IS OF BULK AT MOST 1048576: true; the input reads as it did. -/
def talkVoidUptoRow : OpenClaim := { program := "ytlhonkjgkfdnmaagreatdoor", sum := "0c7231ef8d4f1233bc7f3fbc55551ff0b2e1e69d1ce164172e88d1b6c6e78bc4", func := "huddle/huddlelaw17.TalkVoid", spec := "talkVoid", unfollowed := true, recurses := true, named := ["huddle/op.kinds", "huddle/roll.asks"], plainKeys := false, apart := false, laid := [("huddle/roll.asks", laid_huddle_roll_asks), ("huddle/op.kinds", laid_huddle_op_kinds)], narrowed := true }
def TalkVoidUptoSaid : Prop := talkVoidUptoRow.holds Tryz.pinned (OpenSpec.upto talkVoidSpec)

/-- 'huddlelaw17.TalkErases', WHERE WHAT IT READS IS OF BULK AT MOST 1048576: true; the input reads as it did. -/
def talkErasesUptoRow : OpenClaim := { program := "ytlhonkjgkfdnmaagreatdoor", sum := "0c7231ef8d4f1233bc7f3fbc55551ff0b2e1e69d1ce164172e88d1b6c6e78bc4", func := "huddle/huddlelaw17.TalkErases", spec := "talkErases", unfollowed := true, recurses := true, named := ["huddle/op.kinds", "huddle/roll.asks"], plainKeys := false, apart := false, laid := [("huddle/roll.asks", laid_huddle_roll_asks), ("huddle/op.kinds", laid_huddle_op_kinds)], narrowed := true }
def TalkErasesUptoSaid : Prop := talkErasesUptoRow.holds Tryz.pinned (OpenSpec.upto talkErasesSpec)

/-- 'huddlelaw16.AuthRolls', WHERE WHAT IT READS IS OF BULK AT MOST 1048576: true; the input reads as it did. -/
def authRollsUptoRow : OpenClaim := { program := "ytlhonkjgkfdnmaagreatdoor", sum := "0c7231ef8d4f1233bc7f3fbc55551ff0b2e1e69d1ce164172e88d1b6c6e78bc4", func := "huddle/huddlelaw16.AuthRolls", spec := "authRolls", unfollowed := true, recurses := true, named := ["huddle/op.kinds", "huddle/roll.asks"], plainKeys := false, apart := false, laid := [("huddle/roll.asks", laid_huddle_roll_asks), ("huddle/op.kinds", laid_huddle_op_kinds)], narrowed := true }
def AuthRollsUptoSaid : Prop := authRollsUptoRow.holds Tryz.pinned (OpenSpec.upto authRollsSpec)

/-- 'huddlelaw17.TalkTells', WHERE WHAT IT READS IS OF BULK AT MOST 1048576: true; the input reads as it did. -/
def talkTellsUptoRow : OpenClaim := { program := "ytlhonkjgkfdnmaagreatdoor", sum := "0c7231ef8d4f1233bc7f3fbc55551ff0b2e1e69d1ce164172e88d1b6c6e78bc4", func := "huddle/huddlelaw17.TalkTells", spec := "talkTells", unfollowed := true, recurses := true, named := ["huddle/op.kinds", "huddle/roll.asks"], plainKeys := false, apart := false, laid := [("huddle/roll.asks", laid_huddle_roll_asks), ("huddle/op.kinds", laid_huddle_op_kinds)], narrowed := true }
def TalkTellsUptoSaid : Prop := talkTellsUptoRow.holds Tryz.pinned (OpenSpec.upto talkTellsSpec)

/-- 'huddlelaw17.TalkRefs', WHERE WHAT IT READS IS OF BULK AT MOST 1048576: true; the input reads as it did. -/
def talkRefsUptoRow : OpenClaim := { program := "ytlhonkjgkfdnmaagreatdoor", sum := "0c7231ef8d4f1233bc7f3fbc55551ff0b2e1e69d1ce164172e88d1b6c6e78bc4", func := "huddle/huddlelaw17.TalkRefs", spec := "talkRefs", unfollowed := true, recurses := true, named := ["huddle/op.kinds", "huddle/roll.asks"], plainKeys := false, apart := false, laid := [("huddle/roll.asks", laid_huddle_roll_asks), ("huddle/op.kinds", laid_huddle_op_kinds)], narrowed := true }
def TalkRefsUptoSaid : Prop := talkRefsUptoRow.holds Tryz.pinned (OpenSpec.upto talkRefsSpec)

end Rows
end Go.Proofs.YtlhonkjgkfdnmaaGreatDoor
