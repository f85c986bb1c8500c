/- StateOwn as its row hands the arguments over. -/
import Derived.Test.YthibihjblodfmaaSR30
import Derived.Test.YthibihjblodfmaaSZ
namespace Go.Proofs.Ythibihjblodfmaa
open Go.RowKit Go.Maps

theorem law_StateOwn' (t : List Int) (n : Int) (A : Option Addr) (N C : Nat) (ps : List Int) (B : Option Addr) (M D : Nat) (qs : List Pc) (by_ : Int) (W : World)
    (h0 : DgOk t ∧ (-9223372036854775808 ≤ n ∧ n < 9223372036854775808) ∧ (N ≤ C ∧ Sl W W.heap.size 1 A N (ps.map (.int .u8)) ∧ ByOk ps) ∧ (M ≤ D ∧ Sl W W.heap.size 1 B M (qs.map Pc.v) ∧ PcsOk W qs ∧ PcsBy qs ∧ ∀ p ∈ qs, Pc.n p ≤ Pc.c p))
    (_ : (Lit.int .u8 by_).wf = true) :
    Calls Try.prog 15 #[.agg (staC n t (.slice A N C) ++ [Value.slice B M D]).toArray, .int .u8 by_] W fun e w' => e = .returned (.bool true) ∧ Below W.heap.size W w' := sown_any W _ n t ps (bsP qs) (sgd_of h0) by_
end Go.Proofs.Ythibihjblodfmaa
