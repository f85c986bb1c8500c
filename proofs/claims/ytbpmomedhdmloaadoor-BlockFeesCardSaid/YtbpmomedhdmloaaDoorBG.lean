/- BlockFees as its row hands the arguments over. -/
import Derived.Test.YtbpmomedhdmloaaDoorBE
import Derived.Test.YtbpmomedhdmloaaDoorBF
namespace Go.Proofs.YtbpmomedhdmloaaDoor
open Go.RowKit

theorem law_BlockFees' (p : List Int) (h : Int) (m : List Int) (A : Option Addr) (N C : Nat) (xs : List (List Value × TxT)) (cu : Int) (ct : List Value) (t : TxT) (W : World)
    (w0 : DgOk p ∧ DgOk m ∧ (-9223372036854775808 ≤ h ∧ h < 9223372036854775808) ∧ N ≤ C ∧ Txs W A N xs ∧ ∀ x ∈ xs, x.2.b.length ≤ 140737488355328 ∧ x.2.s.length ≤ 140737488355328)
    (w1 : (Lit.int .u8 cu).wf = true) (w2 : txIn W (ct, t)) :
    Calls Tryd.prog 4 #[.agg (bkC p h m (.slice A N C)).toArray, .int .u8 cu, .agg ct.toArray] W fun e W' => e = .returned (.bool true) ∧ Below W.heap.size W W' :=
  bfees_law W p h m w0.1 w0.2.1 A N C xs w0.2.2.2.2.1 w0.2.2.2.2.2 cu (u8_wf w1).1 (u8_wf w1).2 ct t w2.1 w2.2.1 w2.2.2
end Go.Proofs.YtbpmomedhdmloaaDoor
