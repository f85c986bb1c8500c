/- LockOutcomes: from what came in. -/
import Derived.Test.YtbclfjdamklbpaaLF
import Derived.Test.YtbclfjdamklbpaaLG
namespace Go.Proofs.Ytbclfjdamklbpaa
open Go.RowKit

/-- A lock that came in. -/
def LkIn (W : World) (k : Int) (hd : List Int) (A : Option Addr) (N C : Nat) (ks : List (List Int)) (s c u : Int) : Prop :=
  (-9223372036854775808 ≤ k ∧ k < 9223372036854775808) ∧ DgOk hd ∧ (N ≤ C ∧ Sl W W.heap.size 8 A N (cellsD ks) ∧ DsOk ks) ∧ (-9223372036854775808 ≤ s ∧ s < 9223372036854775808) ∧ (-9223372036854775808 ≤ c ∧ c < 9223372036854775808) ∧ (-9223372036854775808 ≤ u ∧ u < 9223372036854775808)
theorem law_LockOutcomes' (k : Int) (hd : List Int) (A : Option Addr) (N C : Nat) (ks : List (List Int)) (s c u : Int) (B : Option Addr) (m d : Nat) (y : List Int) (a b : Int) (W : World)
    (h0 : LkIn W k hd A N C ks s c u) (h1 : m ≤ d ∧ Sl W W.heap.size 1 B m (y.map (.int .i64)) ∧ I64Ok y) (_ : (-9223372036854775808 ≤ a ∧ a < 9223372036854775808) ∧ (-9223372036854775808 ≤ b ∧ b < 9223372036854775808)) :
    Calls Try.prog 3 #[.agg (lkC ⟨k, hd, ks, s, c, u⟩ (.slice A N C)).toArray, .slice B m d, .agg #[.int .i64 a, .int .i64 b]] W fun e W' => e = .returned (.bool true) ∧ Below W.heap.size W W' :=
  louts_any W ⟨k, hd, ks, s, c, u⟩ h0.2.1 A N C h0.2.2.1.1 h0.2.2.1.2.1.le B m d y h1.2.1 a b
end Go.Proofs.Ytbclfjdamklbpaa
