/- LockChecks: from what came in. -/
import Derived.Test.YtbclfjdamklbpaaM6
import Derived.Test.YtbclfjdamklbpaaLH
namespace Go.Proofs.Ytbclfjdamklbpaa
open Go.RowKit

theorem law_LockChecks' (k : Int) (hd : List Int) (A : Option Addr) (N C : Nat) (ks : List (List Int)) (s c u : Int) (W : World) (h0 : LkIn W k hd A N C ks s c u) :
    Calls Try.prog 9 #[.agg (lkC ⟨k, hd, ks, s, c, u⟩ (.slice A N C)).toArray] W fun e W' => e = .returned (.bool true) ∧ Below W.heap.size W W' :=
  lchecks_any W ⟨k, hd, ks, s, c, u⟩ A N C h0.2.2.1.1 h0.2.1 h0.2.2.1.2.1 h0.2.2.1.2.2
end Go.Proofs.Ytbclfjdamklbpaa
