/- The laws of states as their rows hand the arguments over. -/
import Derived.Test.YthibihjblodfmaaSF
namespace Go.Proofs.Ythibihjblodfmaa
open Go.RowKit Go.Maps

theorem law_StateDigests' (t : List Int) (n : Int) (A : Option Addr) (N C : Nat) (bs : List Int) (a : List Int) (B : Option Addr) (M D : Nat) (zs : List Int) (W : World)
    (h0 : DgOk t) (h1 : (Lit.int .i64 n).wf = true) (h2 : (N ≤ C ∧ Sl W W.heap.size 1 A N (bs.map (.int .u8)) ∧ ByOk bs) ∧ DgOk a ∧ (M ≤ D ∧ Sl W W.heap.size 1 B M (zs.map (.int .i64)) ∧ I64Ok zs)) :
    Calls Try.prog 11 #[.agg (dl t).toArray, .int .i64 n, .agg (bodyC (.slice A N C) a (.slice B M D)).toArray] W fun e w' => e = .returned (.bool true) ∧ Below W.heap.size W w' :=
  digests_any W t h0 n (i64_wf h1) a h2.2.1 A B N C M D bs zs h2.1.1 h2.2.2.1 h2.1.2.1 h2.2.2.2.1 h2.1.2.2 h2.2.2.2.2
end Go.Proofs.Ythibihjblodfmaa
