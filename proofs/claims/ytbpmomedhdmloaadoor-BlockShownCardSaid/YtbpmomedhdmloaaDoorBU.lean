/- BlockShown as its row hands the arguments over. -/
import Derived.Test.YtbpmomedhdmloaaDoorBT
import Derived.Test.YtbpmomedhdmloaaDoorBF
namespace Go.Proofs.YtbpmomedhdmloaaDoor
open Go.RowKit

theorem law_BlockShown' (p : List Int) (h : Int) (m : List Int) (A : Option Addr) (N C : Nat) (xs : List (List Value × TxT)) (far : Int) (W : World)
    (w0 : DgOk p ∧ DgOk m ∧ (-9223372036854775808 ≤ h ∧ h < 9223372036854775808) ∧ N ≤ C ∧ Txs W A N xs ∧ ∀ x ∈ xs, x.2.b.length ≤ 140737488355328 ∧ x.2.s.length ≤ 140737488355328)
    (w1 : (Lit.int .i64 far).wf = true) :
    Calls Tryd.prog 6 #[.agg (bkC p h m (.slice A N C)).toArray, .int .i64 far] W fun e W' => e = .returned (.bool true) ∧ Below W.heap.size W W' :=
  bshown_law W p h m w0.1 w0.2.1 A N C xs w0.2.2.2.2.1 w0.2.2.2.2.2 far
end Go.Proofs.YtbpmomedhdmloaaDoor
