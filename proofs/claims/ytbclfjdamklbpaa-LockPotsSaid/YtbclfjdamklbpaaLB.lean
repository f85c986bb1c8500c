/- LockPots: from what came in. -/
import Derived.Test.YtbclfjdamklbpaaLA
import Derived.Test.YtbclfjdamklbpaaSF
namespace Go.Proofs.Ytbclfjdamklbpaa
open Go.RowKit

theorem law_LockPots' (A : Option Addr) (n c : Nat) (z : List Int) (B : Option Addr) (m d : Nat) (y : List Int) (W : World) (h0 : n ≤ c ∧ Sl W W.heap.size 1 A n (z.map (.int .i64)) ∧ I64Ok z) (h1 : m ≤ d ∧ Sl W W.heap.size 1 B m (y.map (.int .i64)) ∧ I64Ok y) :
    Calls Try.prog 4 #[.slice A n c, .slice B m d] W fun e w' => e = .returned (.bool true) ∧ Below W.heap.size W w' := pots_any W A B n m c d z y h0.2.1 h1.2.1
end Go.Proofs.Ytbclfjdamklbpaa
