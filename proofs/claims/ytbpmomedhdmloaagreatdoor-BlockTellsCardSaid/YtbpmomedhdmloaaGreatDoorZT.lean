/- BlockTells as its row hands the arguments over. -/
import Derived.Test.YtbpmomedhdmloaaGreatDoorDT
import Derived.Test.YtbpmomedhdmloaaGreatDoorZF
namespace Go.Proofs.YtbpmomedhdmloaaGreatDoor
set_option linter.unusedSimpArgs false
set_option linter.unusedVariables false
set_option linter.constructorNameAsVariable false
open Go.ChangeShapes Go.WideShapes Go.ChangeAt Go.RowKit Go.Deep

theorem law_BlockTells' (p : List Int) (h : Int) (m : List Int) (A : Option Addr) (N C : Nat) (xs : List (List Value × TxT)) (p' : List Int) (h' : Int) (m' : List Int) (A' : Option Addr) (N' C' : Nat) (ys : List (List Value × TxT)) (W : World)
    (w0 : DgOk p ∧ DgOk m ∧ (-9223372036854775808 ≤ h ∧ h < 9223372036854775808) ∧ N ≤ C ∧ Txs W A N xs ∧ ∀ x ∈ xs, x.2.b.length ≤ 140737488355328 ∧ x.2.s.length ≤ 140737488355328)
    (w1 : DgOk p' ∧ DgOk m' ∧ (-9223372036854775808 ≤ h' ∧ h' < 9223372036854775808) ∧ N' ≤ C' ∧ Txs W A' N' ys ∧ ∀ x ∈ ys, x.2.b.length ≤ 140737488355328 ∧ x.2.s.length ≤ 140737488355328) :
    Calls Tryz.prog 3 #[.agg (bkC p h m (.slice A N C)).toArray, .agg (bkC p' h' m' (.slice A' N' C')).toArray] W fun e W' => e = .returned (.bool true) ∧ Below W.heap.size W W' :=
  btells_law W p h m w0.1 w0.2.1 A N C xs w0.2.2.2.2.1 w0.2.2.2.2.2 p' h' m' w1.1 w1.2.1 A' N' C' ys w1.2.2.2.2.1 w1.2.2.2.2.2
end Go.Proofs.YtbpmomedhdmloaaGreatDoor
