/- LockHops: from what came in. -/
import Derived.Test.YtbclfjdamklbpaaLR
import Derived.Test.YtbclfjdamklbpaaLH
namespace Go.Proofs.Ytbclfjdamklbpaa
open Go.RowKit

theorem law_LockHops' (k : Int) (hd : List Int) (A : Option Addr) (N C : Nat) (ks : List (List Int)) (s c u : Int) (a b : Int) (W : World)
    (h0 : LkIn W k hd A N C ks s c u) (_ : (Lit.int .i64 a).wf = true) (_ : (Lit.int .i64 b).wf = true) :
    Calls Try.prog 5 #[.agg (lkC ⟨k, hd, ks, s, c, u⟩ (.slice A N C)).toArray, .int .i64 a, .int .i64 b] W fun e W' => e = .returned (.bool true) ∧ Below W.heap.size W W' :=
  lhops_any W ⟨k, hd, ks, s, c, u⟩ h0.2.1 A N C h0.2.2.1.1 h0.2.2.1.2.1.le a b
end Go.Proofs.Ytbclfjdamklbpaa
