/-
  No cell of these rows narrows 'for every input' (looked for: loops, veiled, ifaces, maps, wideKeys, modest, calm, conditions, laid).
  DERIVED. THE GIVEN ROWS OF THIS SEAT. 13 by the template 'for every input the law returns true; each argument reads behind the call as it read before'; 0 by the template 'total and deterministic' (their statements: YthibihjblodfmaaTotals.lean).
  GIVEN WITH THE SEED: the statements are not yours to turn. If you find one false, say at which input.
  Laid BY PROGRAM, IN A SANDBOX (cutbox-rows.mjs): the forced cells as the released guide's own fill.sh prints them over the translation d516a5b2ca5b13f2… (all of the seat's roots in one cut). By AI agents, Wed Nov 11 2026. No macro, syntax, notation, axiom, sorry.
-/
import Derived.Test.YthibihjblodfmaaChecked
import GoSem.Claim
import GoSem.ClaimJoined
import GoSem.ClaimMapViews
import Derived.JoinedTies
import Derived.KernelRfl
namespace Go.Proofs.Ythibihjblodfmaa
/- THE CELL 'sum', in the pinned program and in every row, IS THE sha256 OF THE DUMP (.gsa) THAT YthibihjblodfmaaProg.lean LOADS. Nothing in Lean hashes anything: it is a label: what it is worth is what the hold of that sum in a sandbox is worth. -/
noncomputable def Try.pinned : Pinned := { name := "ythibihjblodfmaa", sum := "d516a5b2ca5b13f250d605a5ebb5a917fa167254a2210bed230295f47fbf7c48", checked := Try.checked }
namespace Rows
def none {H : Type} : Left H := { results := [], args := [] }

/-- 'baizelaw34.PunishBytes': WHATEVER THE INPUT: true; the input reads as it did. -/
def punishBytesSpec : ChangeSpec := { name := "punishBytes", fn := fun _ => fun
  | [d1, d2] => { results := [.lit (.bool true)], args := [d1, d2] }
  | _ => none }
def punishBytesRow : OpenClaim := { program := "ythibihjblodfmaa", sum := "d516a5b2ca5b13f250d605a5ebb5a917fa167254a2210bed230295f47fbf7c48", func := "baize/baizelaw34.PunishBytes", spec := "punishBytes", unfollowed := true, recurses := true, plainKeys := false, apart := false }
def PunishBytesSaid : Prop := punishBytesRow.holds Try.pinned (OpenSpec.ofChange punishBytesSpec)

/-- ITS FALSE NEIGHBOUR: 'it returns false'. Refute it at one input. -/
def punishBytesWrong : ChangeSpec := { name := "punishBytes", fn := fun _ => fun
  | [d1, d2] => { results := [.lit (.bool false)], args := [d1, d2] }
  | _ => none }
def PunishBytesWrongFalsely : Prop := punishBytesRow.holds Try.pinned (OpenSpec.ofChange punishBytesWrong)

/-- 'baizelaw34.PunishTells': WHATEVER THE INPUT: true; the input reads as it did. -/
def punishTellsSpec : ChangeSpec := { name := "punishTells", fn := fun _ => fun
  | [d1, d2, d3, d4] => { results := [.lit (.bool true)], args := [d1, d2, d3, d4] }
  | _ => none }
def punishTellsRow : OpenClaim := { program := "ythibihjblodfmaa", sum := "d516a5b2ca5b13f250d605a5ebb5a917fa167254a2210bed230295f47fbf7c48", func := "baize/baizelaw34.PunishTells", spec := "punishTells", unfollowed := true, recurses := true, plainKeys := false, apart := false }
def PunishTellsSaid : Prop := punishTellsRow.holds Try.pinned (OpenSpec.ofChange punishTellsSpec)

/-- ITS FALSE NEIGHBOUR: 'it returns false'. Refute it at one input. -/
def punishTellsWrong : ChangeSpec := { name := "punishTells", fn := fun _ => fun
  | [d1, d2, d3, d4] => { results := [.lit (.bool false)], args := [d1, d2, d3, d4] }
  | _ => none }
def PunishTellsWrongFalsely : Prop := punishTellsRow.holds Try.pinned (OpenSpec.ofChange punishTellsWrong)

/-- 'baizelaw34.PunishFinds': WHATEVER THE INPUT: true; the input reads as it did. -/
def punishFindsSpec : ChangeSpec := { name := "punishFinds", fn := fun _ => fun
  | [d1, d2, d3] => { results := [.lit (.bool true)], args := [d1, d2, d3] }
  | _ => none }
def punishFindsRow : OpenClaim := { program := "ythibihjblodfmaa", sum := "d516a5b2ca5b13f250d605a5ebb5a917fa167254a2210bed230295f47fbf7c48", func := "baize/baizelaw34.PunishFinds", spec := "punishFinds", unfollowed := true, recurses := true, plainKeys := false, apart := false }
def PunishFindsSaid : Prop := punishFindsRow.holds Try.pinned (OpenSpec.ofChange punishFindsSpec)

/-- ITS FALSE NEIGHBOUR: 'it returns false'. Refute it at one input. -/
def punishFindsWrong : ChangeSpec := { name := "punishFinds", fn := fun _ => fun
  | [d1, d2, d3] => { results := [.lit (.bool false)], args := [d1, d2, d3] }
  | _ => none }
def PunishFindsWrongFalsely : Prop := punishFindsRow.holds Try.pinned (OpenSpec.ofChange punishFindsWrong)

/-- 'baizelaw34.PunishHonest': WHATEVER THE INPUT: true; the input reads as it did. -/
def punishHonestSpec : ChangeSpec := { name := "punishHonest", fn := fun _ => fun
  | [d1, d2] => { results := [.lit (.bool true)], args := [d1, d2] }
  | _ => none }
def punishHonestRow : OpenClaim := { program := "ythibihjblodfmaa", sum := "d516a5b2ca5b13f250d605a5ebb5a917fa167254a2210bed230295f47fbf7c48", func := "baize/baizelaw34.PunishHonest", spec := "punishHonest", unfollowed := true, recurses := true, plainKeys := false, apart := false }
def PunishHonestSaid : Prop := punishHonestRow.holds Try.pinned (OpenSpec.ofChange punishHonestSpec)

/-- ITS FALSE NEIGHBOUR: 'it returns false'. Refute it at one input. -/
def punishHonestWrong : ChangeSpec := { name := "punishHonest", fn := fun _ => fun
  | [d1, d2] => { results := [.lit (.bool false)], args := [d1, d2] }
  | _ => none }
def PunishHonestWrongFalsely : Prop := punishHonestRow.holds Try.pinned (OpenSpec.ofChange punishHonestWrong)

/-- 'baizelaw34.PunishCaught': WHATEVER THE INPUT: true; the input reads as it did. -/
def punishCaughtSpec : ChangeSpec := { name := "punishCaught", fn := fun _ => fun
  | [d1, d2, d3, d4, d5, d6, d7] => { results := [.lit (.bool true)], args := [d1, d2, d3, d4, d5, d6, d7] }
  | _ => none }
def punishCaughtRow : OpenClaim := { program := "ythibihjblodfmaa", sum := "d516a5b2ca5b13f250d605a5ebb5a917fa167254a2210bed230295f47fbf7c48", func := "baize/baizelaw34.PunishCaught", spec := "punishCaught", unfollowed := true, recurses := true, plainKeys := false, apart := false }
def PunishCaughtSaid : Prop := punishCaughtRow.holds Try.pinned (OpenSpec.ofChange punishCaughtSpec)

/-- ITS FALSE NEIGHBOUR: 'it returns false'. Refute it at one input. -/
def punishCaughtWrong : ChangeSpec := { name := "punishCaught", fn := fun _ => fun
  | [d1, d2, d3, d4, d5, d6, d7] => { results := [.lit (.bool false)], args := [d1, d2, d3, d4, d5, d6, d7] }
  | _ => none }
def PunishCaughtWrongFalsely : Prop := punishCaughtRow.holds Try.pinned (OpenSpec.ofChange punishCaughtWrong)

/-- 'baizelaw32.StateUnlike': WHATEVER THE INPUT: true; the input reads as it did. -/
def stateUnlikeSpec : ChangeSpec := { name := "stateUnlike", fn := fun _ => fun
  | [d1, d2, d3] => { results := [.lit (.bool true)], args := [d1, d2, d3] }
  | _ => none }
def stateUnlikeRow : OpenClaim := { program := "ythibihjblodfmaa", sum := "d516a5b2ca5b13f250d605a5ebb5a917fa167254a2210bed230295f47fbf7c48", func := "baize/baizelaw32.StateUnlike", spec := "stateUnlike", unfollowed := true, recurses := true, plainKeys := false, apart := false }
def StateUnlikeSaid : Prop := stateUnlikeRow.holds Try.pinned (OpenSpec.ofChange stateUnlikeSpec)

/-- ITS FALSE NEIGHBOUR: 'it returns false'. Refute it at one input. -/
def stateUnlikeWrong : ChangeSpec := { name := "stateUnlike", fn := fun _ => fun
  | [d1, d2, d3] => { results := [.lit (.bool false)], args := [d1, d2, d3] }
  | _ => none }
def StateUnlikeWrongFalsely : Prop := stateUnlikeRow.holds Try.pinned (OpenSpec.ofChange stateUnlikeWrong)

/-- 'baizelaw32.StateFull': WHATEVER THE INPUT: true; the input reads as it did. -/
def stateFullSpec : ChangeSpec := { name := "stateFull", fn := fun _ => fun
  | [d1, d2, d3] => { results := [.lit (.bool true)], args := [d1, d2, d3] }
  | _ => none }
def stateFullRow : OpenClaim := { program := "ythibihjblodfmaa", sum := "d516a5b2ca5b13f250d605a5ebb5a917fa167254a2210bed230295f47fbf7c48", func := "baize/baizelaw32.StateFull", spec := "stateFull", unfollowed := true, recurses := true, plainKeys := false, apart := false }
def StateFullSaid : Prop := stateFullRow.holds Try.pinned (OpenSpec.ofChange stateFullSpec)

/-- ITS FALSE NEIGHBOUR: 'it returns false'. Refute it at one input. -/
def stateFullWrong : ChangeSpec := { name := "stateFull", fn := fun _ => fun
  | [d1, d2, d3] => { results := [.lit (.bool false)], args := [d1, d2, d3] }
  | _ => none }
def StateFullWrongFalsely : Prop := stateFullRow.holds Try.pinned (OpenSpec.ofChange stateFullWrong)

/-- 'baizelaw32.StateOthers': WHATEVER THE INPUT: true; the input reads as it did. -/
def stateOthersSpec : ChangeSpec := { name := "stateOthers", fn := fun _ => fun
  | [d1, d2] => { results := [.lit (.bool true)], args := [d1, d2] }
  | _ => none }
def stateOthersRow : OpenClaim := { program := "ythibihjblodfmaa", sum := "d516a5b2ca5b13f250d605a5ebb5a917fa167254a2210bed230295f47fbf7c48", func := "baize/baizelaw32.StateOthers", spec := "stateOthers", unfollowed := true, recurses := true, plainKeys := false, apart := false }
def StateOthersSaid : Prop := stateOthersRow.holds Try.pinned (OpenSpec.ofChange stateOthersSpec)

/-- ITS FALSE NEIGHBOUR: 'it returns false'. Refute it at one input. -/
def stateOthersWrong : ChangeSpec := { name := "stateOthers", fn := fun _ => fun
  | [d1, d2] => { results := [.lit (.bool false)], args := [d1, d2] }
  | _ => none }
def StateOthersWrongFalsely : Prop := stateOthersRow.holds Try.pinned (OpenSpec.ofChange stateOthersWrong)

/-- 'baizelaw32.StateDigests': WHATEVER THE INPUT: true; the input reads as it did. -/
def stateDigestsSpec : ChangeSpec := { name := "stateDigests", fn := fun _ => fun
  | [d1, d2, d3] => { results := [.lit (.bool true)], args := [d1, d2, d3] }
  | _ => none }
def stateDigestsRow : OpenClaim := { program := "ythibihjblodfmaa", sum := "d516a5b2ca5b13f250d605a5ebb5a917fa167254a2210bed230295f47fbf7c48", func := "baize/baizelaw32.StateDigests", spec := "stateDigests", unfollowed := true, recurses := true, plainKeys := false, apart := false }
def StateDigestsSaid : Prop := stateDigestsRow.holds Try.pinned (OpenSpec.ofChange stateDigestsSpec)

/-- ITS FALSE NEIGHBOUR: 'it returns false'. Refute it at one input. -/
def stateDigestsWrong : ChangeSpec := { name := "stateDigests", fn := fun _ => fun
  | [d1, d2, d3] => { results := [.lit (.bool false)], args := [d1, d2, d3] }
  | _ => none }
def StateDigestsWrongFalsely : Prop := stateDigestsRow.holds Try.pinned (OpenSpec.ofChange stateDigestsWrong)

/-- 'baizelaw32.StateJoins': WHATEVER THE INPUT: true; the input reads as it did. -/
def stateJoinsSpec : ChangeSpec := { name := "stateJoins", fn := fun _ => fun
  | [d1, d2, d3] => { results := [.lit (.bool true)], args := [d1, d2, d3] }
  | _ => none }
def stateJoinsRow : OpenClaim := { program := "ythibihjblodfmaa", sum := "d516a5b2ca5b13f250d605a5ebb5a917fa167254a2210bed230295f47fbf7c48", func := "baize/baizelaw32.StateJoins", spec := "stateJoins", unfollowed := true, recurses := true, plainKeys := false, apart := false }
def StateJoinsSaid : Prop := stateJoinsRow.holds Try.pinned (OpenSpec.ofChange stateJoinsSpec)

/-- ITS FALSE NEIGHBOUR: 'it returns false'. Refute it at one input. -/
def stateJoinsWrong : ChangeSpec := { name := "stateJoins", fn := fun _ => fun
  | [d1, d2, d3] => { results := [.lit (.bool false)], args := [d1, d2, d3] }
  | _ => none }
def StateJoinsWrongFalsely : Prop := stateJoinsRow.holds Try.pinned (OpenSpec.ofChange stateJoinsWrong)

/-- 'baizelaw32.StateReads': WHATEVER THE INPUT: true; the input reads as it did. -/
def stateReadsSpec : ChangeSpec := { name := "stateReads", fn := fun _ => fun
  | [d] => { results := [.lit (.bool true)], args := [d] }
  | _ => none }
def stateReadsRow : OpenClaim := { program := "ythibihjblodfmaa", sum := "d516a5b2ca5b13f250d605a5ebb5a917fa167254a2210bed230295f47fbf7c48", func := "baize/baizelaw32.StateReads", spec := "stateReads", unfollowed := true, recurses := true, plainKeys := false, apart := false }
def StateReadsSaid : Prop := stateReadsRow.holds Try.pinned (OpenSpec.ofChange stateReadsSpec)

/-- ITS FALSE NEIGHBOUR: 'it returns false'. Refute it at one input. -/
def stateReadsWrong : ChangeSpec := { name := "stateReads", fn := fun _ => fun
  | [d] => { results := [.lit (.bool false)], args := [d] }
  | _ => none }
def StateReadsWrongFalsely : Prop := stateReadsRow.holds Try.pinned (OpenSpec.ofChange stateReadsWrong)

/-- 'baizelaw32.StateBytes': WHATEVER THE INPUT: true; the input reads as it did. -/
def stateBytesSpec : ChangeSpec := { name := "stateBytes", fn := fun _ => fun
  | [d] => { results := [.lit (.bool true)], args := [d] }
  | _ => none }
def stateBytesRow : OpenClaim := { program := "ythibihjblodfmaa", sum := "d516a5b2ca5b13f250d605a5ebb5a917fa167254a2210bed230295f47fbf7c48", func := "baize/baizelaw32.StateBytes", spec := "stateBytes", unfollowed := true, recurses := true, plainKeys := false, apart := false }
def StateBytesSaid : Prop := stateBytesRow.holds Try.pinned (OpenSpec.ofChange stateBytesSpec)

/-- ITS FALSE NEIGHBOUR: 'it returns false'. Refute it at one input. -/
def stateBytesWrong : ChangeSpec := { name := "stateBytes", fn := fun _ => fun
  | [d] => { results := [.lit (.bool false)], args := [d] }
  | _ => none }
def StateBytesWrongFalsely : Prop := stateBytesRow.holds Try.pinned (OpenSpec.ofChange stateBytesWrong)

/-- 'baizelaw32.StateOwn': WHATEVER THE INPUT: true; the input reads as it did. -/
def stateOwnSpec : ChangeSpec := { name := "stateOwn", fn := fun _ => fun
  | [d1, d2] => { results := [.lit (.bool true)], args := [d1, d2] }
  | _ => none }
def stateOwnRow : OpenClaim := { program := "ythibihjblodfmaa", sum := "d516a5b2ca5b13f250d605a5ebb5a917fa167254a2210bed230295f47fbf7c48", func := "baize/baizelaw32.StateOwn", spec := "stateOwn", unfollowed := true, recurses := true, plainKeys := false, apart := false }
def StateOwnSaid : Prop := stateOwnRow.holds Try.pinned (OpenSpec.ofChange stateOwnSpec)

/-- ITS FALSE NEIGHBOUR: 'it returns false'. Refute it at one input. -/
def stateOwnWrong : ChangeSpec := { name := "stateOwn", fn := fun _ => fun
  | [d1, d2] => { results := [.lit (.bool false)], args := [d1, d2] }
  | _ => none }
def StateOwnWrongFalsely : Prop := stateOwnRow.holds Try.pinned (OpenSpec.ofChange stateOwnWrong)

/- THE SECOND FORM. 'bulk': how many values and letters a reading holds, each counted each time it is reached (what is shared counts as often as it is met; a slice's spare places count too). A statement '..UptoSaid' is the law's where the arguments, and the package variables that the reading takes, are together of bulk at most 1048576: NARROWER than '..Said'. Prove '..Said' where nothing that the law and all that it calls make is longer than what came in: it says more and counts as full. Else prove '..UptoSaid'. A law counts once. -/
mutual
def uptoBulk {H : Type} : DataW H → Nat
  | .lit (.string bytes) => bytes.length + 1
  | .lit _ => 1
  | .nil => 1
  | .ptr d => uptoBulk d + 1
  | .slice elems spare => uptoBulkAll elems + uptoBulkAll spare + 1
  | .agg parts => uptoBulkAll parts + 1
  | .iface _ d => uptoBulk d + 1
  | .map entries => uptoBulkEntries entries + 1
  | .held _ => 1
def uptoBulkAll {H : Type} : List (DataW H) → Nat
  | [] => 0
  | d :: r => uptoBulk d + uptoBulkAll r
def uptoBulkEntries {H : Type} : List (Lit × DataW H) → Nat
  | [] => 0
  | x :: r => uptoBulkEntry x + uptoBulkEntries r
def uptoBulkEntry {H : Type} : Lit × DataW H → Nat
  | (.string bytes, d) => bytes.length + uptoBulk d + 1
  | (_, d) => uptoBulk d + 1
 end
def uptoSmall : (H : Type) → List (DataW H) → Bool := fun _ ds => decide (uptoBulkAll ds ≤ 1048576)
def OpenSpec.upto (s : _root_.Go.ChangeSpec) : _root_.Go.OpenSpec := { _root_.Go.OpenSpec.ofChange s with cond := some uptoSmall }

/-- 'baizelaw34.PunishBytes', WHERE WHAT IT READS IS OF BULK AT MOST 1048576: true; the input reads as it did. -/
def punishBytesUptoRow : OpenClaim := { program := "ythibihjblodfmaa", sum := "d516a5b2ca5b13f250d605a5ebb5a917fa167254a2210bed230295f47fbf7c48", func := "baize/baizelaw34.PunishBytes", spec := "punishBytes", unfollowed := true, recurses := true, plainKeys := false, apart := false, narrowed := true }
def PunishBytesUptoSaid : Prop := punishBytesUptoRow.holds Try.pinned (OpenSpec.upto punishBytesSpec)

/-- 'baizelaw34.PunishTells', WHERE WHAT IT READS IS OF BULK AT MOST 1048576: true; the input reads as it did. -/
def punishTellsUptoRow : OpenClaim := { program := "ythibihjblodfmaa", sum := "d516a5b2ca5b13f250d605a5ebb5a917fa167254a2210bed230295f47fbf7c48", func := "baize/baizelaw34.PunishTells", spec := "punishTells", unfollowed := true, recurses := true, plainKeys := false, apart := false, narrowed := true }
def PunishTellsUptoSaid : Prop := punishTellsUptoRow.holds Try.pinned (OpenSpec.upto punishTellsSpec)

/-- 'baizelaw34.PunishFinds', WHERE WHAT IT READS IS OF BULK AT MOST 1048576: true; the input reads as it did. -/
def punishFindsUptoRow : OpenClaim := { program := "ythibihjblodfmaa", sum := "d516a5b2ca5b13f250d605a5ebb5a917fa167254a2210bed230295f47fbf7c48", func := "baize/baizelaw34.PunishFinds", spec := "punishFinds", unfollowed := true, recurses := true, plainKeys := false, apart := false, narrowed := true }
def PunishFindsUptoSaid : Prop := punishFindsUptoRow.holds Try.pinned (OpenSpec.upto punishFindsSpec)

/-- 'baizelaw34.PunishHonest', WHERE WHAT IT READS IS OF BULK AT MOST 1048576: true; the input reads as it did. -/
def punishHonestUptoRow : OpenClaim := { program := "ythibihjblodfmaa", sum := "d516a5b2ca5b13f250d605a5ebb5a917fa167254a2210bed230295f47fbf7c48", func := "baize/baizelaw34.PunishHonest", spec := "punishHonest", unfollowed := true, recurses := true, plainKeys := false, apart := false, narrowed := true }
def PunishHonestUptoSaid : Prop := punishHonestUptoRow.holds Try.pinned (OpenSpec.upto punishHonestSpec)

/-- 'baizelaw34.PunishCaught', WHERE WHAT IT READS IS OF BULK AT MOST 1048576: true; the input reads as it did. -/
def punishCaughtUptoRow : OpenClaim := { program := "ythibihjblodfmaa", sum := "d516a5b2ca5b13f250d605a5ebb5a917fa167254a2210bed230295f47fbf7c48", func := "baize/baizelaw34.PunishCaught", spec := "punishCaught", unfollowed := true, recurses := true, plainKeys := false, apart := false, narrowed := true }
def PunishCaughtUptoSaid : Prop := punishCaughtUptoRow.holds Try.pinned (OpenSpec.upto punishCaughtSpec)

/-- 'baizelaw32.StateUnlike', WHERE WHAT IT READS IS OF BULK AT MOST 1048576: true; the input reads as it did. -/
def stateUnlikeUptoRow : OpenClaim := { program := "ythibihjblodfmaa", sum := "d516a5b2ca5b13f250d605a5ebb5a917fa167254a2210bed230295f47fbf7c48", func := "baize/baizelaw32.StateUnlike", spec := "stateUnlike", unfollowed := true, recurses := true, plainKeys := false, apart := false, narrowed := true }
def StateUnlikeUptoSaid : Prop := stateUnlikeUptoRow.holds Try.pinned (OpenSpec.upto stateUnlikeSpec)

/-- 'baizelaw32.StateFull', WHERE WHAT IT READS IS OF BULK AT MOST 1048576: true; the input reads as it did. -/
def stateFullUptoRow : OpenClaim := { program := "ythibihjblodfmaa", sum := "d516a5b2ca5b13f250d605a5ebb5a917fa167254a2210bed230295f47fbf7c48", func := "baize/baizelaw32.StateFull", spec := "stateFull", unfollowed := true, recurses := true, plainKeys := false, apart := false, narrowed := true }
def StateFullUptoSaid : Prop := stateFullUptoRow.holds Try.pinned (OpenSpec.upto stateFullSpec)

/-- 'baizelaw32.StateOthers', WHERE WHAT IT READS IS OF BULK AT MOST 1048576: true; the input reads as it did. -/
def stateOthersUptoRow : OpenClaim := { program := "ythibihjblodfmaa", sum := "d516a5b2ca5b13f250d605a5ebb5a917fa167254a2210bed230295f47fbf7c48", func := "baize/baizelaw32.StateOthers", spec := "stateOthers", unfollowed := true, recurses := true, plainKeys := false, apart := false, narrowed := true }
def StateOthersUptoSaid : Prop := stateOthersUptoRow.holds Try.pinned (OpenSpec.upto stateOthersSpec)

/-- 'baizelaw32.StateDigests', WHERE WHAT IT READS IS OF BULK AT MOST 1048576: true; the input reads as it did. -/
def stateDigestsUptoRow : OpenClaim := { program := "ythibihjblodfmaa", sum := "d516a5b2ca5b13f250d605a5ebb5a917fa167254a2210bed230295f47fbf7c48", func := "baize/baizelaw32.StateDigests", spec := "stateDigests", unfollowed := true, recurses := true, plainKeys := false, apart := false, narrowed := true }
def StateDigestsUptoSaid : Prop := stateDigestsUptoRow.holds Try.pinned (OpenSpec.upto stateDigestsSpec)

/-- 'baizelaw32.StateJoins', WHERE WHAT IT READS IS OF BULK AT MOST 1048576: true; the input reads as it did. -/
def stateJoinsUptoRow : OpenClaim := { program := "ythibihjblodfmaa", sum := "d516a5b2ca5b13f250d605a5ebb5a917fa167254a2210bed230295f47fbf7c48", func := "baize/baizelaw32.StateJoins", spec := "stateJoins", unfollowed := true, recurses := true, plainKeys := false, apart := false, narrowed := true }
def StateJoinsUptoSaid : Prop := stateJoinsUptoRow.holds Try.pinned (OpenSpec.upto stateJoinsSpec)

/-- 'baizelaw32.StateReads', WHERE WHAT IT READS IS OF BULK AT MOST 1048576: true; the input reads as it did. -/
def stateReadsUptoRow : OpenClaim := { program := "ythibihjblodfmaa", sum := "d516a5b2ca5b13f250d605a5ebb5a917fa167254a2210bed230295f47fbf7c48", func := "baize/baizelaw32.StateReads", spec := "stateReads", unfollowed := true, recurses := true, plainKeys := false, apart := false, narrowed := true }
def StateReadsUptoSaid : Prop := stateReadsUptoRow.holds Try.pinned (OpenSpec.upto stateReadsSpec)

/-- 'baizelaw32.StateBytes', WHERE WHAT IT READS IS OF BULK AT MOST 1048576: true; the input reads as it did. -/
def stateBytesUptoRow : OpenClaim := { program := "ythibihjblodfmaa", sum := "d516a5b2ca5b13f250d605a5ebb5a917fa167254a2210bed230295f47fbf7c48", func := "baize/baizelaw32.StateBytes", spec := "stateBytes", unfollowed := true, recurses := true, plainKeys := false, apart := false, narrowed := true }
def StateBytesUptoSaid : Prop := stateBytesUptoRow.holds Try.pinned (OpenSpec.upto stateBytesSpec)

/-- 'baizelaw32.StateOwn', WHERE WHAT IT READS IS OF BULK AT MOST 1048576: true; the input reads as it did. -/
def stateOwnUptoRow : OpenClaim := { program := "ythibihjblodfmaa", sum := "d516a5b2ca5b13f250d605a5ebb5a917fa167254a2210bed230295f47fbf7c48", func := "baize/baizelaw32.StateOwn", spec := "stateOwn", unfollowed := true, recurses := true, plainKeys := false, apart := false, narrowed := true }
def StateOwnUptoSaid : Prop := stateOwnUptoRow.holds Try.pinned (OpenSpec.upto stateOwnSpec)

end Rows
end Go.Proofs.Ythibihjblodfmaa
