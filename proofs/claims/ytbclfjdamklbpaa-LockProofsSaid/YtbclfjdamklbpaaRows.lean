/-
  No cell of these rows narrows 'for every input' (looked for: loops, veiled, ifaces, maps, wideKeys, modest, calm, conditions, laid).
  DERIVED. THE GIVEN ROWS OF THIS SEAT. 7 by the template 'for every input the law returns true; each argument reads behind the call as it read before'; 0 by the template 'total and deterministic' (their statements: YtbclfjdamklbpaaTotals.lean).
  GIVEN WITH THE SEED: the statements are not yours to turn. If you find one false, say at which input.
  Laid BY PROGRAM, IN A SANDBOX (cutbox-rows.mjs): the forced cells as the released guide's own fill.sh prints them over the translation a23cbda98d97a2b7… (all of the seat's roots in one cut). By AI agents, Wed Nov 11 2026. No macro, syntax, notation, axiom, sorry.
-/
import Derived.Test.YtbclfjdamklbpaaChecked
import GoSem.Claim
import GoSem.ClaimJoined
import GoSem.ClaimMapViews
import Derived.JoinedTies
import Derived.KernelRfl
namespace Go.Proofs.Ytbclfjdamklbpaa
/- THE CELL 'sum', in the pinned program and in every row, IS THE sha256 OF THE DUMP (.gsa) THAT YtbclfjdamklbpaaProg.lean LOADS. Nothing in Lean hashes anything: it is a label: what it is worth is what the hold of that sum in a sandbox is worth. -/
noncomputable def Try.pinned : Pinned := { name := "ytbclfjdamklbpaa", sum := "a23cbda98d97a2b736c0c5d416b85d15b1737dfe70144ba5c54f81da414c3494", checked := Try.checked }
namespace Rows
def none {H : Type} : Left H := { results := [], args := [] }

/-- 'baizelaw48.LockOutcomes': WHATEVER THE INPUT: true; the input reads as it did. -/
def lockOutcomesSpec : ChangeSpec := { name := "lockOutcomes", fn := fun _ => fun
  | [d1, d2, d3] => { results := [.lit (.bool true)], args := [d1, d2, d3] }
  | _ => none }
def lockOutcomesRow : OpenClaim := { program := "ytbclfjdamklbpaa", sum := "a23cbda98d97a2b736c0c5d416b85d15b1737dfe70144ba5c54f81da414c3494", func := "baize/baizelaw48.LockOutcomes", spec := "lockOutcomes", unfollowed := true, recurses := true, plainKeys := false, apart := false }
def LockOutcomesSaid : Prop := lockOutcomesRow.holds Try.pinned (OpenSpec.ofChange lockOutcomesSpec)

/-- ITS FALSE NEIGHBOUR: 'it returns false'. Refute it at one input. -/
def lockOutcomesWrong : ChangeSpec := { name := "lockOutcomes", fn := fun _ => fun
  | [d1, d2, d3] => { results := [.lit (.bool false)], args := [d1, d2, d3] }
  | _ => none }
def LockOutcomesWrongFalsely : Prop := lockOutcomesRow.holds Try.pinned (OpenSpec.ofChange lockOutcomesWrong)

/-- 'baizelaw48.LockPots': WHATEVER THE INPUT: true; the input reads as it did. -/
def lockPotsSpec : ChangeSpec := { name := "lockPots", fn := fun _ => fun
  | [d1, d2] => { results := [.lit (.bool true)], args := [d1, d2] }
  | _ => none }
def lockPotsRow : OpenClaim := { program := "ytbclfjdamklbpaa", sum := "a23cbda98d97a2b736c0c5d416b85d15b1737dfe70144ba5c54f81da414c3494", func := "baize/baizelaw48.LockPots", spec := "lockPots", unfollowed := true, recurses := true, plainKeys := false, apart := false }
def LockPotsSaid : Prop := lockPotsRow.holds Try.pinned (OpenSpec.ofChange lockPotsSpec)

/-- ITS FALSE NEIGHBOUR: 'it returns false'. Refute it at one input. -/
def lockPotsWrong : ChangeSpec := { name := "lockPots", fn := fun _ => fun
  | [d1, d2] => { results := [.lit (.bool false)], args := [d1, d2] }
  | _ => none }
def LockPotsWrongFalsely : Prop := lockPotsRow.holds Try.pinned (OpenSpec.ofChange lockPotsWrong)

/-- 'baizelaw48.LockHops': WHATEVER THE INPUT: true; the input reads as it did. -/
def lockHopsSpec : ChangeSpec := { name := "lockHops", fn := fun _ => fun
  | [d1, d2, d3] => { results := [.lit (.bool true)], args := [d1, d2, d3] }
  | _ => none }
def lockHopsRow : OpenClaim := { program := "ytbclfjdamklbpaa", sum := "a23cbda98d97a2b736c0c5d416b85d15b1737dfe70144ba5c54f81da414c3494", func := "baize/baizelaw48.LockHops", spec := "lockHops", unfollowed := true, recurses := true, plainKeys := false, apart := false }
def LockHopsSaid : Prop := lockHopsRow.holds Try.pinned (OpenSpec.ofChange lockHopsSpec)

/-- ITS FALSE NEIGHBOUR: 'it returns false'. Refute it at one input. -/
def lockHopsWrong : ChangeSpec := { name := "lockHops", fn := fun _ => fun
  | [d1, d2, d3] => { results := [.lit (.bool false)], args := [d1, d2, d3] }
  | _ => none }
def LockHopsWrongFalsely : Prop := lockHopsRow.holds Try.pinned (OpenSpec.ofChange lockHopsWrong)

/-- 'baizelaw48.LockTimes': WHATEVER THE INPUT: true; the input reads as it did. -/
def lockTimesSpec : ChangeSpec := { name := "lockTimes", fn := fun _ => fun
  | [d1, d2, d3] => { results := [.lit (.bool true)], args := [d1, d2, d3] }
  | _ => none }
def lockTimesRow : OpenClaim := { program := "ytbclfjdamklbpaa", sum := "a23cbda98d97a2b736c0c5d416b85d15b1737dfe70144ba5c54f81da414c3494", func := "baize/baizelaw48.LockTimes", spec := "lockTimes", unfollowed := true, recurses := true, plainKeys := false, apart := false }
def LockTimesSaid : Prop := lockTimesRow.holds Try.pinned (OpenSpec.ofChange lockTimesSpec)

/-- ITS FALSE NEIGHBOUR: 'it returns false'. Refute it at one input. -/
def lockTimesWrong : ChangeSpec := { name := "lockTimes", fn := fun _ => fun
  | [d1, d2, d3] => { results := [.lit (.bool false)], args := [d1, d2, d3] }
  | _ => none }
def LockTimesWrongFalsely : Prop := lockTimesRow.holds Try.pinned (OpenSpec.ofChange lockTimesWrong)

/-- 'baizelaw48.LockProofs': WHATEVER THE INPUT: true; the input reads as it did. -/
def lockProofsSpec : ChangeSpec := { name := "lockProofs", fn := fun _ => fun
  | [d1, d2] => { results := [.lit (.bool true)], args := [d1, d2] }
  | _ => none }
def lockProofsRow : OpenClaim := { program := "ytbclfjdamklbpaa", sum := "a23cbda98d97a2b736c0c5d416b85d15b1737dfe70144ba5c54f81da414c3494", func := "baize/baizelaw48.LockProofs", spec := "lockProofs", unfollowed := true, recurses := true, plainKeys := false, apart := false }
def LockProofsSaid : Prop := lockProofsRow.holds Try.pinned (OpenSpec.ofChange lockProofsSpec)

/-- ITS FALSE NEIGHBOUR: 'it returns false'. Refute it at one input. -/
def lockProofsWrong : ChangeSpec := { name := "lockProofs", fn := fun _ => fun
  | [d1, d2] => { results := [.lit (.bool false)], args := [d1, d2] }
  | _ => none }
def LockProofsWrongFalsely : Prop := lockProofsRow.holds Try.pinned (OpenSpec.ofChange lockProofsWrong)

/-- 'baizelaw48.LockReads': WHATEVER THE INPUT: true; the input reads as it did. -/
def lockReadsSpec : ChangeSpec := { name := "lockReads", fn := fun _ => fun
  | [d] => { results := [.lit (.bool true)], args := [d] }
  | _ => none }
def lockReadsRow : OpenClaim := { program := "ytbclfjdamklbpaa", sum := "a23cbda98d97a2b736c0c5d416b85d15b1737dfe70144ba5c54f81da414c3494", func := "baize/baizelaw48.LockReads", spec := "lockReads", unfollowed := true, recurses := true, plainKeys := false, apart := false }
def LockReadsSaid : Prop := lockReadsRow.holds Try.pinned (OpenSpec.ofChange lockReadsSpec)

/-- ITS FALSE NEIGHBOUR: 'it returns false'. Refute it at one input. -/
def lockReadsWrong : ChangeSpec := { name := "lockReads", fn := fun _ => fun
  | [d] => { results := [.lit (.bool false)], args := [d] }
  | _ => none }
def LockReadsWrongFalsely : Prop := lockReadsRow.holds Try.pinned (OpenSpec.ofChange lockReadsWrong)

/-- 'baizelaw48.LockChecks': WHATEVER THE INPUT: true; the input reads as it did. -/
def lockChecksSpec : ChangeSpec := { name := "lockChecks", fn := fun _ => fun
  | [d] => { results := [.lit (.bool true)], args := [d] }
  | _ => none }
def lockChecksRow : OpenClaim := { program := "ytbclfjdamklbpaa", sum := "a23cbda98d97a2b736c0c5d416b85d15b1737dfe70144ba5c54f81da414c3494", func := "baize/baizelaw48.LockChecks", spec := "lockChecks", unfollowed := true, recurses := true, plainKeys := false, apart := false }
def LockChecksSaid : Prop := lockChecksRow.holds Try.pinned (OpenSpec.ofChange lockChecksSpec)

/-- ITS FALSE NEIGHBOUR: 'it returns false'. Refute it at one input. -/
def lockChecksWrong : ChangeSpec := { name := "lockChecks", fn := fun _ => fun
  | [d] => { results := [.lit (.bool false)], args := [d] }
  | _ => none }
def LockChecksWrongFalsely : Prop := lockChecksRow.holds Try.pinned (OpenSpec.ofChange lockChecksWrong)

/- THE SECOND FORM. 'bulk': how many values and letters a reading holds, each counted each time it is reached (what is shared counts as often as it is met; a slice's spare places count too). A statement '..UptoSaid' is the law's where the arguments, and the package variables that the reading takes, are together of bulk at most 1048576: NARROWER than '..Said'. Prove '..Said' where nothing that the law and all that it calls make is longer than what came in: it says more and counts as full. Else prove '..UptoSaid'. A law counts once. -/
mutual
def uptoBulk {H : Type} : DataW H → Nat
  | .lit (.string bytes) => bytes.length + 1
  | .lit _ => 1
  | .nil => 1
  | .ptr d => uptoBulk d + 1
  | .slice elems spare => uptoBulkAll elems + uptoBulkAll spare + 1
  | .agg parts => uptoBulkAll parts + 1
  | .iface _ d => uptoBulk d + 1
  | .map entries => uptoBulkEntries entries + 1
  | .held _ => 1
def uptoBulkAll {H : Type} : List (DataW H) → Nat
  | [] => 0
  | d :: r => uptoBulk d + uptoBulkAll r
def uptoBulkEntries {H : Type} : List (Lit × DataW H) → Nat
  | [] => 0
  | x :: r => uptoBulkEntry x + uptoBulkEntries r
def uptoBulkEntry {H : Type} : Lit × DataW H → Nat
  | (.string bytes, d) => bytes.length + uptoBulk d + 1
  | (_, d) => uptoBulk d + 1
 end
def uptoSmall : (H : Type) → List (DataW H) → Bool := fun _ ds => decide (uptoBulkAll ds ≤ 1048576)
def OpenSpec.upto (s : _root_.Go.ChangeSpec) : _root_.Go.OpenSpec := { _root_.Go.OpenSpec.ofChange s with cond := some uptoSmall }

/-- 'baizelaw48.LockOutcomes', WHERE WHAT IT READS IS OF BULK AT MOST 1048576: true; the input reads as it did. -/
def lockOutcomesUptoRow : OpenClaim := { program := "ytbclfjdamklbpaa", sum := "a23cbda98d97a2b736c0c5d416b85d15b1737dfe70144ba5c54f81da414c3494", func := "baize/baizelaw48.LockOutcomes", spec := "lockOutcomes", unfollowed := true, recurses := true, plainKeys := false, apart := false, narrowed := true }
def LockOutcomesUptoSaid : Prop := lockOutcomesUptoRow.holds Try.pinned (OpenSpec.upto lockOutcomesSpec)

/-- 'baizelaw48.LockPots', WHERE WHAT IT READS IS OF BULK AT MOST 1048576: true; the input reads as it did. -/
def lockPotsUptoRow : OpenClaim := { program := "ytbclfjdamklbpaa", sum := "a23cbda98d97a2b736c0c5d416b85d15b1737dfe70144ba5c54f81da414c3494", func := "baize/baizelaw48.LockPots", spec := "lockPots", unfollowed := true, recurses := true, plainKeys := false, apart := false, narrowed := true }
def LockPotsUptoSaid : Prop := lockPotsUptoRow.holds Try.pinned (OpenSpec.upto lockPotsSpec)

/-- 'baizelaw48.LockHops', WHERE WHAT IT READS IS OF BULK AT MOST 1048576: true; the input reads as it did. -/
def lockHopsUptoRow : OpenClaim := { program := "ytbclfjdamklbpaa", sum := "a23cbda98d97a2b736c0c5d416b85d15b1737dfe70144ba5c54f81da414c3494", func := "baize/baizelaw48.LockHops", spec := "lockHops", unfollowed := true, recurses := true, plainKeys := false, apart := false, narrowed := true }
def LockHopsUptoSaid : Prop := lockHopsUptoRow.holds Try.pinned (OpenSpec.upto lockHopsSpec)

/-- 'baizelaw48.LockTimes', WHERE WHAT IT READS IS OF BULK AT MOST 1048576: true; the input reads as it did. -/
def lockTimesUptoRow : OpenClaim := { program := "ytbclfjdamklbpaa", sum := "a23cbda98d97a2b736c0c5d416b85d15b1737dfe70144ba5c54f81da414c3494", func := "baize/baizelaw48.LockTimes", spec := "lockTimes", unfollowed := true, recurses := true, plainKeys := false, apart := false, narrowed := true }
def LockTimesUptoSaid : Prop := lockTimesUptoRow.holds Try.pinned (OpenSpec.upto lockTimesSpec)

/-- 'baizelaw48.LockProofs', WHERE WHAT IT READS IS OF BULK AT MOST 1048576: true; the input reads as it did. -/
def lockProofsUptoRow : OpenClaim := { program := "ytbclfjdamklbpaa", sum := "a23cbda98d97a2b736c0c5d416b85d15b1737dfe70144ba5c54f81da414c3494", func := "baize/baizelaw48.LockProofs", spec := "lockProofs", unfollowed := true, recurses := true, plainKeys := false, apart := false, narrowed := true }
def LockProofsUptoSaid : Prop := lockProofsUptoRow.holds Try.pinned (OpenSpec.upto lockProofsSpec)

/-- 'baizelaw48.LockReads', WHERE WHAT IT READS IS OF BULK AT MOST 1048576: true; the input reads as it did. -/
def lockReadsUptoRow : OpenClaim := { program := "ytbclfjdamklbpaa", sum := "a23cbda98d97a2b736c0c5d416b85d15b1737dfe70144ba5c54f81da414c3494", func := "baize/baizelaw48.LockReads", spec := "lockReads", unfollowed := true, recurses := true, plainKeys := false, apart := false, narrowed := true }
def LockReadsUptoSaid : Prop := lockReadsUptoRow.holds Try.pinned (OpenSpec.upto lockReadsSpec)

/-- 'baizelaw48.LockChecks', WHERE WHAT IT READS IS OF BULK AT MOST 1048576: true; the input reads as it did. -/
def lockChecksUptoRow : OpenClaim := { program := "ytbclfjdamklbpaa", sum := "a23cbda98d97a2b736c0c5d416b85d15b1737dfe70144ba5c54f81da414c3494", func := "baize/baizelaw48.LockChecks", spec := "lockChecks", unfollowed := true, recurses := true, plainKeys := false, apart := false, narrowed := true }
def LockChecksUptoSaid : Prop := lockChecksUptoRow.holds Try.pinned (OpenSpec.upto lockChecksSpec)

end Rows
end Go.Proofs.Ytbclfjdamklbpaa
