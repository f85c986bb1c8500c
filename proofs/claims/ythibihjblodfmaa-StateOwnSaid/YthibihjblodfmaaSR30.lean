/- StateBytes as its row hands the argument over. -/
import Derived.Test.YthibihjblodfmaaSF
import Derived.Test.YthibihjblodfmaaS30
namespace Go.Proofs.Ythibihjblodfmaa
open Go.RowKit Go.Maps

theorem sgd_of {t : List Int} {n : Int} {A : Option Addr} {N C : Nat} {ps : List Int} {B : Option Addr} {M D : Nat} {qs : List Pc} {W : World}
    (h0 : DgOk t ∧ (-9223372036854775808 ≤ n ∧ n < 9223372036854775808) ∧ (N ≤ C ∧ Sl W W.heap.size 1 A N (ps.map (.int .u8)) ∧ ByOk ps) ∧ (M ≤ D ∧ Sl W W.heap.size 1 B M (qs.map Pc.v) ∧ PcsOk W qs ∧ PcsBy qs ∧ ∀ p ∈ qs, Pc.n p ≤ Pc.c p)) :
    Sgd W (staC n t (.slice A N C) ++ [Value.slice B M D]) n t ps (bsP qs) :=
  ⟨⟨A, B, N, C, M, D, qs, rfl, h0.2.2.1.2.1, h0.2.2.2.2.1, h0.2.2.2.2.2.1, rfl, h0.2.2.2.2.2.2.2, h0.2.2.1.1⟩, h0.1, h0.2.2.1.2.2, h0.2.2.2.2.2.2.1.all⟩
theorem law_StateBytes' (t : List Int) (n : Int) (A : Option Addr) (N C : Nat) (ps : List Int) (B : Option Addr) (M D : Nat) (qs : List Pc) (W : World)
    (h0 : DgOk t ∧ (-9223372036854775808 ≤ n ∧ n < 9223372036854775808) ∧ (N ≤ C ∧ Sl W W.heap.size 1 A N (ps.map (.int .u8)) ∧ ByOk ps) ∧ (M ≤ D ∧ Sl W W.heap.size 1 B M (qs.map Pc.v) ∧ PcsOk W qs ∧ PcsBy qs ∧ ∀ p ∈ qs, Pc.n p ≤ Pc.c p)) :
    Calls Try.prog 14 #[.agg (staC n t (.slice A N C) ++ [Value.slice B M D]).toArray] W fun e w' => e = .returned (.bool true) ∧ Below W.heap.size W w' := sbytes_any W _ n t ps (bsP qs) (sgd_of h0)
end Go.Proofs.Ythibihjblodfmaa
