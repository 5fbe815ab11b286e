/-
  No cell of these rows narrows 'for every input' (looked for: loops, veiled, ifaces, maps, wideKeys, modest, calm, conditions, laid).
  DERIVED. THE GIVEN ROWS OF THIS SEAT. 5 by the template 'for every input the law returns true; each argument reads behind the call as it read before'; 0 by the template 'total and deterministic' (their statements: YtialbdgcgiaebaaGreatTotals.lean).
  GIVEN WITH THE SEED: the statements are not yours to turn. If you find one false, say at which input.
  Laid BY PROGRAM, IN A SANDBOX (cutbox-rows.mjs): the forced cells as the released guide's own fill.sh prints them over the translation a88e2efbbd277947… (all of the seat's roots in one cut). By AI agents, Wed Nov 11 2026. No macro, syntax, notation, axiom, sorry.
-/
import Derived.Test.YtialbdgcgiaebaaGreatChecked
import GoSem.Claim
import GoSem.ClaimJoined
import GoSem.ClaimMapViews
import Derived.JoinedTies
import Derived.KernelRfl
namespace Go.Proofs.YtialbdgcgiaebaaGreat
/- THE CELL 'sum', in the pinned program and in every row, IS THE sha256 OF THE DUMP (.gsa) THAT YtialbdgcgiaebaaGreatProg.lean LOADS. Nothing in Lean hashes anything: it is a label: what it is worth is what the hold of that sum in a sandbox is worth. -/
noncomputable def Tryz.pinned : Pinned := { name := "ytialbdgcgiaebaagreat", sum := "a88e2efbbd2779471d57960eb0537aa5d531b1d506f8d0e2213e3088b03eb759", checked := Tryz.checked }
namespace Rows
def none {H : Type} : Left H := { results := [], args := [] }

/-- 'huddlelaw30.ReconDiffs': WHATEVER THE INPUT: true; the input reads as it did. -/
def reconDiffsSpec : ChangeSpec := { name := "reconDiffs", fn := fun _ => fun
  | [d1, d2, d3] => { results := [.lit (.bool true)], args := [d1, d2, d3] }
  | _ => none }
def reconDiffsRow : OpenClaim := { program := "ytialbdgcgiaebaagreat", sum := "a88e2efbbd2779471d57960eb0537aa5d531b1d506f8d0e2213e3088b03eb759", func := "huddle/huddlelaw30.ReconDiffs", spec := "reconDiffs", unfollowed := true, recurses := true, apart := false }
def ReconDiffsSaid : Prop := reconDiffsRow.holds Tryz.pinned (OpenSpec.ofChange reconDiffsSpec)

/-- ITS FALSE NEIGHBOUR: 'it returns false'. Refute it at one input. -/
def reconDiffsWrong : ChangeSpec := { name := "reconDiffs", fn := fun _ => fun
  | [d1, d2, d3] => { results := [.lit (.bool false)], args := [d1, d2, d3] }
  | _ => none }
def ReconDiffsWrongFalsely : Prop := reconDiffsRow.holds Tryz.pinned (OpenSpec.ofChange reconDiffsWrong)

/-- 'huddlelaw30.ReconRaw': WHATEVER THE INPUT: true; the input reads as it did. -/
def reconRawSpec : ChangeSpec := { name := "reconRaw", fn := fun _ => fun
  | [d1, d2] => { results := [.lit (.bool true)], args := [d1, d2] }
  | _ => none }
def reconRawRow : OpenClaim := { program := "ytialbdgcgiaebaagreat", sum := "a88e2efbbd2779471d57960eb0537aa5d531b1d506f8d0e2213e3088b03eb759", func := "huddle/huddlelaw30.ReconRaw", spec := "reconRaw", unfollowed := true, recurses := true, apart := false }
def ReconRawSaid : Prop := reconRawRow.holds Tryz.pinned (OpenSpec.ofChange reconRawSpec)

/-- ITS FALSE NEIGHBOUR: 'it returns false'. Refute it at one input. -/
def reconRawWrong : ChangeSpec := { name := "reconRaw", fn := fun _ => fun
  | [d1, d2] => { results := [.lit (.bool false)], args := [d1, d2] }
  | _ => none }
def ReconRawWrongFalsely : Prop := reconRawRow.holds Tryz.pinned (OpenSpec.ofChange reconRawWrong)

/-- 'huddlelaw30.ReconFew': WHATEVER THE INPUT: true; the input reads as it did. -/
def reconFewSpec : ChangeSpec := { name := "reconFew", fn := fun _ => fun
  | [d1, d2, d3] => { results := [.lit (.bool true)], args := [d1, d2, d3] }
  | _ => none }
def reconFewRow : OpenClaim := { program := "ytialbdgcgiaebaagreat", sum := "a88e2efbbd2779471d57960eb0537aa5d531b1d506f8d0e2213e3088b03eb759", func := "huddle/huddlelaw30.ReconFew", spec := "reconFew", unfollowed := true, recurses := true, apart := false }
def ReconFewSaid : Prop := reconFewRow.holds Tryz.pinned (OpenSpec.ofChange reconFewSpec)

/-- ITS FALSE NEIGHBOUR: 'it returns false'. Refute it at one input. -/
def reconFewWrong : ChangeSpec := { name := "reconFew", fn := fun _ => fun
  | [d1, d2, d3] => { results := [.lit (.bool false)], args := [d1, d2, d3] }
  | _ => none }
def ReconFewWrongFalsely : Prop := reconFewRow.holds Tryz.pinned (OpenSpec.ofChange reconFewWrong)

/-- 'huddlelaw30.ReconTurned': WHATEVER THE INPUT: true; the input reads as it did. -/
def reconTurnedSpec : ChangeSpec := { name := "reconTurned", fn := fun _ => fun
  | [d1, d2, d3] => { results := [.lit (.bool true)], args := [d1, d2, d3] }
  | _ => none }
def reconTurnedRow : OpenClaim := { program := "ytialbdgcgiaebaagreat", sum := "a88e2efbbd2779471d57960eb0537aa5d531b1d506f8d0e2213e3088b03eb759", func := "huddle/huddlelaw30.ReconTurned", spec := "reconTurned", unfollowed := true, recurses := true, apart := false }
def ReconTurnedSaid : Prop := reconTurnedRow.holds Tryz.pinned (OpenSpec.ofChange reconTurnedSpec)

/-- ITS FALSE NEIGHBOUR: 'it returns false'. Refute it at one input. -/
def reconTurnedWrong : ChangeSpec := { name := "reconTurned", fn := fun _ => fun
  | [d1, d2, d3] => { results := [.lit (.bool false)], args := [d1, d2, d3] }
  | _ => none }
def ReconTurnedWrongFalsely : Prop := reconTurnedRow.holds Tryz.pinned (OpenSpec.ofChange reconTurnedWrong)

/-- 'huddlelaw30.ReconOwn': WHATEVER THE INPUT: true; the input reads as it did. -/
def reconOwnSpec : ChangeSpec := { name := "reconOwn", fn := fun _ => fun
  | [d1, d2] => { results := [.lit (.bool true)], args := [d1, d2] }
  | _ => none }
def reconOwnRow : OpenClaim := { program := "ytialbdgcgiaebaagreat", sum := "a88e2efbbd2779471d57960eb0537aa5d531b1d506f8d0e2213e3088b03eb759", func := "huddle/huddlelaw30.ReconOwn", spec := "reconOwn", unfollowed := true, recurses := true, apart := false }
def ReconOwnSaid : Prop := reconOwnRow.holds Tryz.pinned (OpenSpec.ofChange reconOwnSpec)

/-- ITS FALSE NEIGHBOUR: 'it returns false'. Refute it at one input. -/
def reconOwnWrong : ChangeSpec := { name := "reconOwn", fn := fun _ => fun
  | [d1, d2] => { results := [.lit (.bool false)], args := [d1, d2] }
  | _ => none }
def ReconOwnWrongFalsely : Prop := reconOwnRow.holds Tryz.pinned (OpenSpec.ofChange reconOwnWrong)

/- THE SECOND FORM. 'bulk': how many values and letters a reading holds, each counted each time it is reached (what is shared counts as often as it is met; a slice's spare places count too). A statement '..UptoSaid' is the law's where the arguments, and the package variables that the reading takes, are together of bulk at most 1048576: NARROWER than '..Said'. Prove '..Said' where nothing that the law and all that it calls make is longer than what came in: it says more and counts as full. Else prove '..UptoSaid'. A law counts once. -/
mutual
def uptoBulk {H : Type} : DataW H → Nat
  | .lit (.string bytes) => bytes.length + 1
  | .lit _ => 1
  | .nil => 1
  | .ptr d => uptoBulk d + 1
  | .slice elems spare => uptoBulkAll elems + uptoBulkAll spare + 1
  | .agg parts => uptoBulkAll parts + 1
  | .iface _ d => uptoBulk d + 1
  | .map entries => uptoBulkEntries entries + 1
  | .held _ => 1
def uptoBulkAll {H : Type} : List (DataW H) → Nat
  | [] => 0
  | d :: r => uptoBulk d + uptoBulkAll r
def uptoBulkEntries {H : Type} : List (Lit × DataW H) → Nat
  | [] => 0
  | x :: r => uptoBulkEntry x + uptoBulkEntries r
def uptoBulkEntry {H : Type} : Lit × DataW H → Nat
  | (.string bytes, d) => bytes.length + uptoBulk d + 1
  | (_, d) => uptoBulk d + 1
 end
def uptoSmall : (H : Type) → List (DataW H) → Bool := fun _ ds => decide (uptoBulkAll ds ≤ 1048576)
def OpenSpec.upto (s : _root_.Go.ChangeSpec) : _root_.Go.OpenSpec := { _root_.Go.OpenSpec.ofChange s with cond := some uptoSmall }

/-- 'huddlelaw30.ReconDiffs', WHERE WHAT IT READS IS OF BULK AT MOST 1048576: true; the input reads as it did. -/
def reconDiffsUptoRow : OpenClaim := { program := "ytialbdgcgiaebaagreat", sum := "a88e2efbbd2779471d57960eb0537aa5d531b1d506f8d0e2213e3088b03eb759", func := "huddle/huddlelaw30.ReconDiffs", spec := "reconDiffs", unfollowed := true, recurses := true, apart := false, narrowed := true }
def ReconDiffsUptoSaid : Prop := reconDiffsUptoRow.holds Tryz.pinned (OpenSpec.upto reconDiffsSpec)

/-- 'huddlelaw30.ReconRaw', WHERE WHAT IT READS IS OF BULK AT MOST 1048576: true; the input reads as it did. -/
def reconRawUptoRow : OpenClaim := { program := "ytialbdgcgiaebaagreat", sum := "a88e2efbbd2779471d57960eb0537aa5d531b1d506f8d0e2213e3088b03eb759", func := "huddle/huddlelaw30.ReconRaw", spec := "reconRaw", unfollowed := true, recurses := true, apart := false, narrowed := true }
def ReconRawUptoSaid : Prop := reconRawUptoRow.holds Tryz.pinned (OpenSpec.upto reconRawSpec)

/-- 'huddlelaw30.ReconFew', WHERE WHAT IT READS IS OF BULK AT MOST 1048576: true; the input reads as it did. -/
def reconFewUptoRow : OpenClaim := { program := "ytialbdgcgiaebaagreat", sum := "a88e2efbbd2779471d57960eb0537aa5d531b1d506f8d0e2213e3088b03eb759", func := "huddle/huddlelaw30.ReconFew", spec := "reconFew", unfollowed := true, recurses := true, apart := false, narrowed := true }
def ReconFewUptoSaid : Prop := reconFewUptoRow.holds Tryz.pinned (OpenSpec.upto reconFewSpec)

/-- 'huddlelaw30.ReconTurned', WHERE WHAT IT READS IS OF BULK AT MOST 1048576: true; the input reads as it did. -/
def reconTurnedUptoRow : OpenClaim := { program := "ytialbdgcgiaebaagreat", sum := "a88e2efbbd2779471d57960eb0537aa5d531b1d506f8d0e2213e3088b03eb759", func := "huddle/huddlelaw30.ReconTurned", spec := "reconTurned", unfollowed := true, recurses := true, apart := false, narrowed := true }
def ReconTurnedUptoSaid : Prop := reconTurnedUptoRow.holds Tryz.pinned (OpenSpec.upto reconTurnedSpec)

/-- 'huddlelaw30.ReconOwn', WHERE WHAT IT READS IS OF BULK AT MOST 1048576: true; the input reads as it did. -/
def reconOwnUptoRow : OpenClaim := { program := "ytialbdgcgiaebaagreat", sum := "a88e2efbbd2779471d57960eb0537aa5d531b1d506f8d0e2213e3088b03eb759", func := "huddle/huddlelaw30.ReconOwn", spec := "reconOwn", unfollowed := true, recurses := true, apart := false, narrowed := true }
def ReconOwnUptoSaid : Prop := reconOwnUptoRow.holds Tryz.pinned (OpenSpec.upto reconOwnSpec)

end Rows
end Go.Proofs.YtialbdgcgiaebaaGreat
