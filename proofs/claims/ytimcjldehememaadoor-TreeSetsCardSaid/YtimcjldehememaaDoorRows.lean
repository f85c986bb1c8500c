/-
  NARROWER THAN 'FOR EVERY INPUT', by the rows' own cells (each row's printed sentence says how): TreeRoots: laid · TreePaths: laid · TreeChecks: laid · TreeWiths: laid · TreeOthers: laid · TreeSets: laid · TreeClones: laid · TreeNones: laid.
  DERIVED. THE GIVEN ROWS OF THIS SEAT. 8 by the template 'for every input the law returns true; each argument reads behind the call as it read before'; 0 by the template 'total and deterministic' (their statements: YtimcjldehememaaDoorTotals.lean).
  GIVEN WITH THE SEED: the statements are not yours to turn. If you find one false, say at which input.
  Laid BY PROGRAM, IN A SANDBOX (cutbox-rows.mjs): the forced cells as the released guide's own fill.sh prints them over the translation 01c6b2f2250286fa… (all of the seat's roots in one cut). By AI agents, Wed Nov 11 2026. No macro, syntax, notation, axiom, sorry.
-/
import Derived.Test.YtimcjldehememaaDoorChecked
import GoSem.Claim
import GoSem.ClaimJoined
import GoSem.ClaimMapViews
import Derived.JoinedTies
import Derived.KernelRfl
namespace Go.Proofs.YtimcjldehememaaDoor
/- THE CELL 'sum', in the pinned program and in every row, IS THE sha256 OF THE DUMP (.gsa) THAT YtimcjldehememaaDoorProg.lean LOADS. Nothing in Lean hashes anything: it is a label: what it is worth is what the hold of that sum in a sandbox is worth. -/
noncomputable def Tryd.pinned : Pinned := { name := "ytimcjldehememaadoor", sum := "01c6b2f2250286fa1a945c16a54af4b113b33614ebf9dff14a367987dd7a23ff", checked := Tryd.checked }
namespace Rows
def none {H : Type} : Left H := { results := [], args := [] }

/- WHAT THE LISTED PACKAGE-LEVEL VARIABLES READ AS WHEN THE CALL BEGINS. Each datum BY PROGRAM (the guide's laid-datum.mjs) off the statement by which the dump's own 'gosem.cut.vars' lays the variable. In a bare row this is a premise. The card (YtimcjldehememaaDoorCards.lean) ties it to the program's text. -/
def laid_math_bits_deBruijn32tab {H : Type} : DataW H := .agg [.lit (.int .u8 0), .lit (.int .u8 1), .lit (.int .u8 28), .lit (.int .u8 2), .lit (.int .u8 29), .lit (.int .u8 14), .lit (.int .u8 24), .lit (.int .u8 3), .lit (.int .u8 30), .lit (.int .u8 22), .lit (.int .u8 20), .lit (.int .u8 15), .lit (.int .u8 25), .lit (.int .u8 17), .lit (.int .u8 4), .lit (.int .u8 8), .lit (.int .u8 31), .lit (.int .u8 27), .lit (.int .u8 13), .lit (.int .u8 23), .lit (.int .u8 21), .lit (.int .u8 19), .lit (.int .u8 16), .lit (.int .u8 7), .lit (.int .u8 26), .lit (.int .u8 12), .lit (.int .u8 18), .lit (.int .u8 6), .lit (.int .u8 11), .lit (.int .u8 5), .lit (.int .u8 10), .lit (.int .u8 9)]
def laid_math_bits_deBruijn64tab {H : Type} : DataW H := .agg [.lit (.int .u8 0), .lit (.int .u8 1), .lit (.int .u8 56), .lit (.int .u8 2), .lit (.int .u8 57), .lit (.int .u8 49), .lit (.int .u8 28), .lit (.int .u8 3), .lit (.int .u8 61), .lit (.int .u8 58), .lit (.int .u8 42), .lit (.int .u8 50), .lit (.int .u8 38), .lit (.int .u8 29), .lit (.int .u8 17), .lit (.int .u8 4), .lit (.int .u8 62), .lit (.int .u8 47), .lit (.int .u8 59), .lit (.int .u8 36), .lit (.int .u8 45), .lit (.int .u8 43), .lit (.int .u8 51), .lit (.int .u8 22), .lit (.int .u8 53), .lit (.int .u8 39), .lit (.int .u8 33), .lit (.int .u8 30), .lit (.int .u8 24), .lit (.int .u8 18), .lit (.int .u8 12), .lit (.int .u8 5), .lit (.int .u8 63), .lit (.int .u8 55), .lit (.int .u8 48), .lit (.int .u8 27), .lit (.int .u8 60), .lit (.int .u8 41), .lit (.int .u8 37), .lit (.int .u8 16), .lit (.int .u8 46), .lit (.int .u8 35), .lit (.int .u8 44), .lit (.int .u8 21), .lit (.int .u8 52), .lit (.int .u8 32), .lit (.int .u8 23), .lit (.int .u8 11), .lit (.int .u8 54), .lit (.int .u8 26), .lit (.int .u8 40), .lit (.int .u8 15), .lit (.int .u8 34), .lit (.int .u8 20), .lit (.int .u8 31), .lit (.int .u8 10), .lit (.int .u8 25), .lit (.int .u8 14), .lit (.int .u8 19), .lit (.int .u8 9), .lit (.int .u8 13), .lit (.int .u8 8), .lit (.int .u8 7), .lit (.int .u8 6)]
def laid_internal_strconv_uint64pow10 {H : Type} : DataW H := .agg [.lit (.int .u64 1), .lit (.int .u64 10), .lit (.int .u64 100), .lit (.int .u64 1000), .lit (.int .u64 10000), .lit (.int .u64 100000), .lit (.int .u64 1000000), .lit (.int .u64 10000000), .lit (.int .u64 100000000), .lit (.int .u64 1000000000), .lit (.int .u64 10000000000), .lit (.int .u64 100000000000), .lit (.int .u64 1000000000000), .lit (.int .u64 10000000000000), .lit (.int .u64 100000000000000), .lit (.int .u64 1000000000000000), .lit (.int .u64 10000000000000000), .lit (.int .u64 100000000000000000), .lit (.int .u64 1000000000000000000), .lit (.int .u64 10000000000000000000)]

/-- 'baizelaw04.TreeRoots': WHATEVER THE INPUT: true; the input reads as it did. -/
def treeRootsSpec : ChangeSpec := { name := "treeRoots", fn := fun _ => fun
  | [d] => { results := [.lit (.bool true)], args := [d] }
  | _ => none }
def treeRootsRow : OpenClaim := { program := "ytimcjldehememaadoor", sum := "01c6b2f2250286fa1a945c16a54af4b113b33614ebf9dff14a367987dd7a23ff", func := "baize/baizelaw04.TreeRoots", spec := "treeRoots", recurses := true, named := ["internal/strconv.uint64pow10", "math/bits.deBruijn32tab", "math/bits.deBruijn64tab"], apart := false, laid := [("math/bits.deBruijn32tab", laid_math_bits_deBruijn32tab), ("math/bits.deBruijn64tab", laid_math_bits_deBruijn64tab), ("internal/strconv.uint64pow10", laid_internal_strconv_uint64pow10)] }
def TreeRootsSaid : Prop := treeRootsRow.holds Tryd.pinned (OpenSpec.ofChange treeRootsSpec)

/-- ITS FALSE NEIGHBOUR: 'it returns false'. Refute it at one input. -/
def treeRootsWrong : ChangeSpec := { name := "treeRoots", fn := fun _ => fun
  | [d] => { results := [.lit (.bool false)], args := [d] }
  | _ => none }
def TreeRootsWrongFalsely : Prop := treeRootsRow.holds Tryd.pinned (OpenSpec.ofChange treeRootsWrong)

/-- 'baizelaw04.TreePaths': WHATEVER THE INPUT: true; the input reads as it did. -/
def treePathsSpec : ChangeSpec := { name := "treePaths", fn := fun _ => fun
  | [d1, d2] => { results := [.lit (.bool true)], args := [d1, d2] }
  | _ => none }
def treePathsRow : OpenClaim := { program := "ytimcjldehememaadoor", sum := "01c6b2f2250286fa1a945c16a54af4b113b33614ebf9dff14a367987dd7a23ff", func := "baize/baizelaw04.TreePaths", spec := "treePaths", recurses := true, named := ["internal/strconv.uint64pow10", "math/bits.deBruijn32tab", "math/bits.deBruijn64tab"], apart := false, laid := [("math/bits.deBruijn32tab", laid_math_bits_deBruijn32tab), ("math/bits.deBruijn64tab", laid_math_bits_deBruijn64tab), ("internal/strconv.uint64pow10", laid_internal_strconv_uint64pow10)] }
def TreePathsSaid : Prop := treePathsRow.holds Tryd.pinned (OpenSpec.ofChange treePathsSpec)

/-- ITS FALSE NEIGHBOUR: 'it returns false'. Refute it at one input. -/
def treePathsWrong : ChangeSpec := { name := "treePaths", fn := fun _ => fun
  | [d1, d2] => { results := [.lit (.bool false)], args := [d1, d2] }
  | _ => none }
def TreePathsWrongFalsely : Prop := treePathsRow.holds Tryd.pinned (OpenSpec.ofChange treePathsWrong)

/-- 'baizelaw04.TreeChecks': WHATEVER THE INPUT: true; the input reads as it did. -/
def treeChecksSpec : ChangeSpec := { name := "treeChecks", fn := fun _ => fun
  | [d1, d2, d3] => { results := [.lit (.bool true)], args := [d1, d2, d3] }
  | _ => none }
def treeChecksRow : OpenClaim := { program := "ytimcjldehememaadoor", sum := "01c6b2f2250286fa1a945c16a54af4b113b33614ebf9dff14a367987dd7a23ff", func := "baize/baizelaw04.TreeChecks", spec := "treeChecks", named := ["internal/strconv.uint64pow10", "math/bits.deBruijn32tab", "math/bits.deBruijn64tab"], apart := false, laid := [("math/bits.deBruijn32tab", laid_math_bits_deBruijn32tab), ("math/bits.deBruijn64tab", laid_math_bits_deBruijn64tab), ("internal/strconv.uint64pow10", laid_internal_strconv_uint64pow10)] }
def TreeChecksSaid : Prop := treeChecksRow.holds Tryd.pinned (OpenSpec.ofChange treeChecksSpec)

/-- ITS FALSE NEIGHBOUR: 'it returns false'. Refute it at one input. -/
def treeChecksWrong : ChangeSpec := { name := "treeChecks", fn := fun _ => fun
  | [d1, d2, d3] => { results := [.lit (.bool false)], args := [d1, d2, d3] }
  | _ => none }
def TreeChecksWrongFalsely : Prop := treeChecksRow.holds Tryd.pinned (OpenSpec.ofChange treeChecksWrong)

/-- 'baizelaw04.TreeWiths': WHATEVER THE INPUT: true; the input reads as it did. -/
def treeWithsSpec : ChangeSpec := { name := "treeWiths", fn := fun _ => fun
  | [d1, d2, d3] => { results := [.lit (.bool true)], args := [d1, d2, d3] }
  | _ => none }
def treeWithsRow : OpenClaim := { program := "ytimcjldehememaadoor", sum := "01c6b2f2250286fa1a945c16a54af4b113b33614ebf9dff14a367987dd7a23ff", func := "baize/baizelaw04.TreeWiths", spec := "treeWiths", named := ["internal/strconv.uint64pow10", "math/bits.deBruijn32tab", "math/bits.deBruijn64tab"], apart := false, laid := [("math/bits.deBruijn32tab", laid_math_bits_deBruijn32tab), ("math/bits.deBruijn64tab", laid_math_bits_deBruijn64tab), ("internal/strconv.uint64pow10", laid_internal_strconv_uint64pow10)] }
def TreeWithsSaid : Prop := treeWithsRow.holds Tryd.pinned (OpenSpec.ofChange treeWithsSpec)

/-- ITS FALSE NEIGHBOUR: 'it returns false'. Refute it at one input. -/
def treeWithsWrong : ChangeSpec := { name := "treeWiths", fn := fun _ => fun
  | [d1, d2, d3] => { results := [.lit (.bool false)], args := [d1, d2, d3] }
  | _ => none }
def TreeWithsWrongFalsely : Prop := treeWithsRow.holds Tryd.pinned (OpenSpec.ofChange treeWithsWrong)

/-- 'baizelaw04.TreeOthers': WHATEVER THE INPUT: true; the input reads as it did. -/
def treeOthersSpec : ChangeSpec := { name := "treeOthers", fn := fun _ => fun
  | [d1, d2, d3] => { results := [.lit (.bool true)], args := [d1, d2, d3] }
  | _ => none }
def treeOthersRow : OpenClaim := { program := "ytimcjldehememaadoor", sum := "01c6b2f2250286fa1a945c16a54af4b113b33614ebf9dff14a367987dd7a23ff", func := "baize/baizelaw04.TreeOthers", spec := "treeOthers", named := ["internal/strconv.uint64pow10", "math/bits.deBruijn32tab", "math/bits.deBruijn64tab"], apart := false, laid := [("math/bits.deBruijn32tab", laid_math_bits_deBruijn32tab), ("math/bits.deBruijn64tab", laid_math_bits_deBruijn64tab), ("internal/strconv.uint64pow10", laid_internal_strconv_uint64pow10)] }
def TreeOthersSaid : Prop := treeOthersRow.holds Tryd.pinned (OpenSpec.ofChange treeOthersSpec)

/-- ITS FALSE NEIGHBOUR: 'it returns false'. Refute it at one input. -/
def treeOthersWrong : ChangeSpec := { name := "treeOthers", fn := fun _ => fun
  | [d1, d2, d3] => { results := [.lit (.bool false)], args := [d1, d2, d3] }
  | _ => none }
def TreeOthersWrongFalsely : Prop := treeOthersRow.holds Tryd.pinned (OpenSpec.ofChange treeOthersWrong)

/-- 'baizelaw04.TreeSets': WHATEVER THE INPUT: true; the input reads as it did. -/
def treeSetsSpec : ChangeSpec := { name := "treeSets", fn := fun _ => fun
  | [d1, d2, d3] => { results := [.lit (.bool true)], args := [d1, d2, d3] }
  | _ => none }
def treeSetsRow : OpenClaim := { program := "ytimcjldehememaadoor", sum := "01c6b2f2250286fa1a945c16a54af4b113b33614ebf9dff14a367987dd7a23ff", func := "baize/baizelaw04.TreeSets", spec := "treeSets", recurses := true, named := ["internal/strconv.uint64pow10", "math/bits.deBruijn32tab", "math/bits.deBruijn64tab"], apart := false, laid := [("math/bits.deBruijn32tab", laid_math_bits_deBruijn32tab), ("math/bits.deBruijn64tab", laid_math_bits_deBruijn64tab), ("internal/strconv.uint64pow10", laid_internal_strconv_uint64pow10)] }
def TreeSetsSaid : Prop := treeSetsRow.holds Tryd.pinned (OpenSpec.ofChange treeSetsSpec)

/-- ITS FALSE NEIGHBOUR: 'it returns false'. Refute it at one input. -/
def treeSetsWrong : ChangeSpec := { name := "treeSets", fn := fun _ => fun
  | [d1, d2, d3] => { results := [.lit (.bool false)], args := [d1, d2, d3] }
  | _ => none }
def TreeSetsWrongFalsely : Prop := treeSetsRow.holds Tryd.pinned (OpenSpec.ofChange treeSetsWrong)

/-- 'baizelaw04.TreeClones': WHATEVER THE INPUT: true; the input reads as it did. -/
def treeClonesSpec : ChangeSpec := { name := "treeClones", fn := fun _ => fun
  | [d1, d2, d3] => { results := [.lit (.bool true)], args := [d1, d2, d3] }
  | _ => none }
def treeClonesRow : OpenClaim := { program := "ytimcjldehememaadoor", sum := "01c6b2f2250286fa1a945c16a54af4b113b33614ebf9dff14a367987dd7a23ff", func := "baize/baizelaw04.TreeClones", spec := "treeClones", named := ["internal/strconv.uint64pow10", "math/bits.deBruijn32tab", "math/bits.deBruijn64tab"], apart := false, laid := [("math/bits.deBruijn32tab", laid_math_bits_deBruijn32tab), ("math/bits.deBruijn64tab", laid_math_bits_deBruijn64tab), ("internal/strconv.uint64pow10", laid_internal_strconv_uint64pow10)] }
def TreeClonesSaid : Prop := treeClonesRow.holds Tryd.pinned (OpenSpec.ofChange treeClonesSpec)

/-- ITS FALSE NEIGHBOUR: 'it returns false'. Refute it at one input. -/
def treeClonesWrong : ChangeSpec := { name := "treeClones", fn := fun _ => fun
  | [d1, d2, d3] => { results := [.lit (.bool false)], args := [d1, d2, d3] }
  | _ => none }
def TreeClonesWrongFalsely : Prop := treeClonesRow.holds Tryd.pinned (OpenSpec.ofChange treeClonesWrong)

/-- 'baizelaw04.TreeNones': WHATEVER THE INPUT: true; the input reads as it did. -/
def treeNonesSpec : ChangeSpec := { name := "treeNones", fn := fun _ => fun
  | [d1, d2, d3] => { results := [.lit (.bool true)], args := [d1, d2, d3] }
  | _ => none }
def treeNonesRow : OpenClaim := { program := "ytimcjldehememaadoor", sum := "01c6b2f2250286fa1a945c16a54af4b113b33614ebf9dff14a367987dd7a23ff", func := "baize/baizelaw04.TreeNones", spec := "treeNones", named := ["internal/strconv.uint64pow10", "math/bits.deBruijn32tab", "math/bits.deBruijn64tab"], apart := false, laid := [("math/bits.deBruijn32tab", laid_math_bits_deBruijn32tab), ("math/bits.deBruijn64tab", laid_math_bits_deBruijn64tab), ("internal/strconv.uint64pow10", laid_internal_strconv_uint64pow10)] }
def TreeNonesSaid : Prop := treeNonesRow.holds Tryd.pinned (OpenSpec.ofChange treeNonesSpec)

/-- ITS FALSE NEIGHBOUR: 'it returns false'. Refute it at one input. -/
def treeNonesWrong : ChangeSpec := { name := "treeNones", fn := fun _ => fun
  | [d1, d2, d3] => { results := [.lit (.bool false)], args := [d1, d2, d3] }
  | _ => none }
def TreeNonesWrongFalsely : Prop := treeNonesRow.holds Tryd.pinned (OpenSpec.ofChange treeNonesWrong)

/- THE SECOND FORM. 'bulk': how many values and letters a reading holds, each counted each time it is reached (what is shared counts as often as it is met; a slice's spare places count too). A statement '..UptoSaid' is the law's where the arguments, and the package variables that the reading takes, are together of bulk at most 1048576: NARROWER than '..Said'. Prove '..Said' where nothing that the law and all that it calls make is longer than what came in: it says more and counts as full. Else prove '..UptoSaid'. A law counts once. -/
mutual
def uptoBulk {H : Type} : DataW H → Nat
  | .lit (.string bytes) => bytes.length + 1
  | .lit _ => 1
  | .nil => 1
  | .ptr d => uptoBulk d + 1
  | .slice elems spare => uptoBulkAll elems + uptoBulkAll spare + 1
  | .agg parts => uptoBulkAll parts + 1
  | .iface _ d => uptoBulk d + 1
  | .map entries => uptoBulkEntries entries + 1
  | .held _ => 1
def uptoBulkAll {H : Type} : List (DataW H) → Nat
  | [] => 0
  | d :: r => uptoBulk d + uptoBulkAll r
def uptoBulkEntries {H : Type} : List (Lit × DataW H) → Nat
  | [] => 0
  | x :: r => uptoBulkEntry x + uptoBulkEntries r
def uptoBulkEntry {H : Type} : Lit × DataW H → Nat
  | (.string bytes, d) => bytes.length + uptoBulk d + 1
  | (_, d) => uptoBulk d + 1
 end
def uptoSmall : (H : Type) → List (DataW H) → Bool := fun _ ds => decide (uptoBulkAll ds ≤ 1048576)
def OpenSpec.upto (s : _root_.Go.ChangeSpec) : _root_.Go.OpenSpec := { _root_.Go.OpenSpec.ofChange s with cond := some uptoSmall }

/-- 'baizelaw04.TreeRoots', WHERE WHAT IT READS IS OF BULK AT MOST 1048576: true; the input reads as it did. -/
def treeRootsUptoRow : OpenClaim := { program := "ytimcjldehememaadoor", sum := "01c6b2f2250286fa1a945c16a54af4b113b33614ebf9dff14a367987dd7a23ff", func := "baize/baizelaw04.TreeRoots", spec := "treeRoots", recurses := true, named := ["internal/strconv.uint64pow10", "math/bits.deBruijn32tab", "math/bits.deBruijn64tab"], apart := false, laid := [("math/bits.deBruijn32tab", laid_math_bits_deBruijn32tab), ("math/bits.deBruijn64tab", laid_math_bits_deBruijn64tab), ("internal/strconv.uint64pow10", laid_internal_strconv_uint64pow10)], narrowed := true }
def TreeRootsUptoSaid : Prop := treeRootsUptoRow.holds Tryd.pinned (OpenSpec.upto treeRootsSpec)

/-- 'baizelaw04.TreePaths', WHERE WHAT IT READS IS OF BULK AT MOST 1048576: true; the input reads as it did. -/
def treePathsUptoRow : OpenClaim := { program := "ytimcjldehememaadoor", sum := "01c6b2f2250286fa1a945c16a54af4b113b33614ebf9dff14a367987dd7a23ff", func := "baize/baizelaw04.TreePaths", spec := "treePaths", recurses := true, named := ["internal/strconv.uint64pow10", "math/bits.deBruijn32tab", "math/bits.deBruijn64tab"], apart := false, laid := [("math/bits.deBruijn32tab", laid_math_bits_deBruijn32tab), ("math/bits.deBruijn64tab", laid_math_bits_deBruijn64tab), ("internal/strconv.uint64pow10", laid_internal_strconv_uint64pow10)], narrowed := true }
def TreePathsUptoSaid : Prop := treePathsUptoRow.holds Tryd.pinned (OpenSpec.upto treePathsSpec)

/-- 'baizelaw04.TreeChecks', WHERE WHAT IT READS IS OF BULK AT MOST 1048576: true; the input reads as it did. -/
def treeChecksUptoRow : OpenClaim := { program := "ytimcjldehememaadoor", sum := "01c6b2f2250286fa1a945c16a54af4b113b33614ebf9dff14a367987dd7a23ff", func := "baize/baizelaw04.TreeChecks", spec := "treeChecks", named := ["internal/strconv.uint64pow10", "math/bits.deBruijn32tab", "math/bits.deBruijn64tab"], apart := false, laid := [("math/bits.deBruijn32tab", laid_math_bits_deBruijn32tab), ("math/bits.deBruijn64tab", laid_math_bits_deBruijn64tab), ("internal/strconv.uint64pow10", laid_internal_strconv_uint64pow10)], narrowed := true }
def TreeChecksUptoSaid : Prop := treeChecksUptoRow.holds Tryd.pinned (OpenSpec.upto treeChecksSpec)

/-- 'baizelaw04.TreeWiths', WHERE WHAT IT READS IS OF BULK AT MOST 1048576: true; the input reads as it did. -/
def treeWithsUptoRow : OpenClaim := { program := "ytimcjldehememaadoor", sum := "01c6b2f2250286fa1a945c16a54af4b113b33614ebf9dff14a367987dd7a23ff", func := "baize/baizelaw04.TreeWiths", spec := "treeWiths", named := ["internal/strconv.uint64pow10", "math/bits.deBruijn32tab", "math/bits.deBruijn64tab"], apart := false, laid := [("math/bits.deBruijn32tab", laid_math_bits_deBruijn32tab), ("math/bits.deBruijn64tab", laid_math_bits_deBruijn64tab), ("internal/strconv.uint64pow10", laid_internal_strconv_uint64pow10)], narrowed := true }
def TreeWithsUptoSaid : Prop := treeWithsUptoRow.holds Tryd.pinned (OpenSpec.upto treeWithsSpec)

/-- 'baizelaw04.TreeOthers', WHERE WHAT IT READS IS OF BULK AT MOST 1048576: true; the input reads as it did. -/
def treeOthersUptoRow : OpenClaim := { program := "ytimcjldehememaadoor", sum := "01c6b2f2250286fa1a945c16a54af4b113b33614ebf9dff14a367987dd7a23ff", func := "baize/baizelaw04.TreeOthers", spec := "treeOthers", named := ["internal/strconv.uint64pow10", "math/bits.deBruijn32tab", "math/bits.deBruijn64tab"], apart := false, laid := [("math/bits.deBruijn32tab", laid_math_bits_deBruijn32tab), ("math/bits.deBruijn64tab", laid_math_bits_deBruijn64tab), ("internal/strconv.uint64pow10", laid_internal_strconv_uint64pow10)], narrowed := true }
def TreeOthersUptoSaid : Prop := treeOthersUptoRow.holds Tryd.pinned (OpenSpec.upto treeOthersSpec)

/-- 'baizelaw04.TreeSets', WHERE WHAT IT READS IS OF BULK AT MOST 1048576: true; the input reads as it did. -/
def treeSetsUptoRow : OpenClaim := { program := "ytimcjldehememaadoor", sum := "01c6b2f2250286fa1a945c16a54af4b113b33614ebf9dff14a367987dd7a23ff", func := "baize/baizelaw04.TreeSets", spec := "treeSets", recurses := true, named := ["internal/strconv.uint64pow10", "math/bits.deBruijn32tab", "math/bits.deBruijn64tab"], apart := false, laid := [("math/bits.deBruijn32tab", laid_math_bits_deBruijn32tab), ("math/bits.deBruijn64tab", laid_math_bits_deBruijn64tab), ("internal/strconv.uint64pow10", laid_internal_strconv_uint64pow10)], narrowed := true }
def TreeSetsUptoSaid : Prop := treeSetsUptoRow.holds Tryd.pinned (OpenSpec.upto treeSetsSpec)

/-- 'baizelaw04.TreeClones', WHERE WHAT IT READS IS OF BULK AT MOST 1048576: true; the input reads as it did. -/
def treeClonesUptoRow : OpenClaim := { program := "ytimcjldehememaadoor", sum := "01c6b2f2250286fa1a945c16a54af4b113b33614ebf9dff14a367987dd7a23ff", func := "baize/baizelaw04.TreeClones", spec := "treeClones", named := ["internal/strconv.uint64pow10", "math/bits.deBruijn32tab", "math/bits.deBruijn64tab"], apart := false, laid := [("math/bits.deBruijn32tab", laid_math_bits_deBruijn32tab), ("math/bits.deBruijn64tab", laid_math_bits_deBruijn64tab), ("internal/strconv.uint64pow10", laid_internal_strconv_uint64pow10)], narrowed := true }
def TreeClonesUptoSaid : Prop := treeClonesUptoRow.holds Tryd.pinned (OpenSpec.upto treeClonesSpec)

/-- 'baizelaw04.TreeNones', WHERE WHAT IT READS IS OF BULK AT MOST 1048576: true; the input reads as it did. -/
def treeNonesUptoRow : OpenClaim := { program := "ytimcjldehememaadoor", sum := "01c6b2f2250286fa1a945c16a54af4b113b33614ebf9dff14a367987dd7a23ff", func := "baize/baizelaw04.TreeNones", spec := "treeNones", named := ["internal/strconv.uint64pow10", "math/bits.deBruijn32tab", "math/bits.deBruijn64tab"], apart := false, laid := [("math/bits.deBruijn32tab", laid_math_bits_deBruijn32tab), ("math/bits.deBruijn64tab", laid_math_bits_deBruijn64tab), ("internal/strconv.uint64pow10", laid_internal_strconv_uint64pow10)], narrowed := true }
def TreeNonesUptoSaid : Prop := treeNonesUptoRow.holds Tryd.pinned (OpenSpec.upto treeNonesSpec)

end Rows
end Go.Proofs.YtimcjldehememaaDoor
