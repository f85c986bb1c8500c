/- StateJoins as its row hands the arguments over. -/
import Derived.Test.YthibihjblodfmaaSF
import Derived.Test.YthibihjblodfmaaS20
namespace Go.Proofs.Ythibihjblodfmaa
open Go.RowKit Go.Maps

theorem law_StateJoins' (t : List Int) (n : Int) (A : Option Addr) (N C : Nat) (ps : List Int) (B : Option Addr) (M D : Nat) (qs : List Pc) (t' : List Int) (n' : Int) (A' : Option Addr) (N' C' : Nat) (ps' : List Int) (B' : Option Addr) (M' D' : Nat) (qs' : List Pc) (same : Bool) (W : World)
    (h0 : DgOk t ∧ (-9223372036854775808 ≤ n ∧ n < 9223372036854775808) ∧ (N ≤ C ∧ Sl W W.heap.size 1 A N (ps.map (.int .u8)) ∧ ByOk ps) ∧ (M ≤ D ∧ Sl W W.heap.size 1 B M (qs.map Pc.v) ∧ PcsOk W qs ∧ PcsBy qs ∧ ∀ p ∈ qs, Pc.n p ≤ Pc.c p))
    (h1 : DgOk t' ∧ (-9223372036854775808 ≤ n' ∧ n' < 9223372036854775808) ∧ (N' ≤ C' ∧ Sl W W.heap.size 1 A' N' (ps'.map (.int .u8)) ∧ ByOk ps') ∧ (M' ≤ D' ∧ Sl W W.heap.size 1 B' M' (qs'.map Pc.v) ∧ PcsOk W qs' ∧ PcsBy qs' ∧ ∀ p ∈ qs', Pc.n p ≤ Pc.c p)) :
    Calls Try.prog 12 #[.agg (staC n t (.slice A N C) ++ [Value.slice B M D]).toArray, .agg (staC n' t' (.slice A' N' C') ++ [Value.slice B' M' D']).toArray, .bool same] W fun e w' => e = .returned (.bool true) ∧ Below W.heap.size W w' :=
  joins_any W t t' h0.1 h1.1 n n' A A' B B' N C N' C' M D M' D' ps ps' qs qs' same h0.2.2.1.1 h1.2.2.1.1 h0.2.2.1.2.1 h1.2.2.1.2.1 h0.2.2.1.2.2 h1.2.2.1.2.2 h0.2.2.2.2.1 h1.2.2.2.2.1 h0.2.2.2.2.2.1 h1.2.2.2.2.2.1 h0.2.2.2.2.2.2.1 h1.2.2.2.2.2.2.1 h0.2.2.2.2.2.2.2 h1.2.2.2.2.2.2.2
end Go.Proofs.Ythibihjblodfmaa
