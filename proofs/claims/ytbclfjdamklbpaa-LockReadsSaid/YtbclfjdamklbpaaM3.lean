/- LockReads: from what came in. -/
import Derived.Test.YtbclfjdamklbpaaM2
import Derived.Test.YtbclfjdamklbpaaSF
namespace Go.Proofs.Ytbclfjdamklbpaa
open Go.RowKit

theorem law_LockReads' (A : Option Addr) (n c : Nat) (z : List Int) (W : World) (h0 : n ≤ c ∧ Sl W W.heap.size 1 A n (z.map (.int .u8)) ∧ ByOk z) :
    Calls Try.prog 8 #[.slice A n c] W fun e W' => e = .returned (.bool true) ∧ Below W.heap.size W W' := lreads_any W A n c z h0.2.2 h0.2.1 h0.1
end Go.Proofs.Ytbclfjdamklbpaa
