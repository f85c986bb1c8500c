/- StateReads as its row hands the argument over. -/
import Derived.Test.YthibihjblodfmaaSF
import Derived.Test.YthibihjblodfmaaS29
namespace Go.Proofs.Ythibihjblodfmaa
open Go.RowKit Go.Maps

theorem law_StateReads' (A : Option Addr) (n c : Nat) (z : List Int) (W : World) (h0 : n ≤ c ∧ Sl W W.heap.size 1 A n (z.map (.int .u8)) ∧ ByOk z) :
    Calls Try.prog 13 #[.slice A n c] W fun e w' => e = .returned (.bool true) ∧ Below W.heap.size W w' := reads_any W A n c z h0.1 h0.2.1 h0.2.2
end Go.Proofs.Ythibihjblodfmaa
