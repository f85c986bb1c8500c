/- FundAll, as the row hands it its arguments. -/
import Derived.Test.YtfapechlnllfaabF10
namespace Go.Proofs.Ytfapechlnllfaab
open Go.RowKit
theorem law_FundAll' (A : Option Addr) (n c : Nat) (zs : List Int) (b : Int) (A2 : Option Addr) (n2 c2 : Nat) (l : List Act4) (now : Int) (w : World) (h : Sl w w.heap.size 1 A n (zs.map (.int .i64)) ∧ ∀ z ∈ zs, (Lit.int .i64 z).wf = true)
    (h2 : l.length = n2 ∧ Sl w w.heap.size 4 A2 n2 (l.flatMap actV) ∧ ∀ p ∈ l, (Lit.int .i64 p.2.1).wf = true ∧ (Lit.int .i64 p.2.2.1).wf = true ∧ (Lit.int .i64 p.2.2.2).wf = true) (_ : (Lit.int .i64 now).wf = true) :
    Calls Try.prog 8 #[.agg #[.slice A n c, .int .i64 b], .slice A2 n2 c2, .int .i64 now] w fun e w' => e = .returned (.bool true) ∧ Below w.heap.size w w' :=
  law_FundAll A n c zs b A2 n2 c2 l now w h.1 h2.2.1 h2.1
end Go.Proofs.Ytfapechlnllfaab
