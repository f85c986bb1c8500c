/- StateOthers as its row hands the arguments over. -/
import Derived.Test.YthibihjblodfmaaSF
import Derived.Test.YthibihjblodfmaaS17
namespace Go.Proofs.Ythibihjblodfmaa
open Go.RowKit Go.Maps

theorem law_StateOthers' (t : List Int) (n : Int) (A : Option Addr) (N C : Nat) (bs : List Int) (t' : List Int) (n' : Int) (A' : Option Addr) (N' C' : Nat) (bs' : List Int) (W : World)
    (h0 : DgOk t ∧ (-9223372036854775808 ≤ n ∧ n < 9223372036854775808) ∧ (N ≤ C ∧ Sl W W.heap.size 1 A N (bs.map (.int .u8)) ∧ ByOk bs)) (h1 : DgOk t' ∧ (-9223372036854775808 ≤ n' ∧ n' < 9223372036854775808) ∧ (N' ≤ C' ∧ Sl W W.heap.size 1 A' N' (bs'.map (.int .u8)) ∧ ByOk bs')) :
    Calls Try.prog 10 #[.agg (staC n t (.slice A N C)).toArray, .agg (staC n' t' (.slice A' N' C')).toArray] W fun e w' => e = .returned (.bool true) ∧ Below W.heap.size W w' :=
  sothers_any W t t' h0.1 h1.1 n n' h0.2.1 h1.2.1 A A' N C N' C' bs bs' h0.2.2.1 h1.2.2.1 h0.2.2.2.1 h1.2.2.2.1 h0.2.2.2.2 h1.2.2.2.2
end Go.Proofs.Ythibihjblodfmaa
