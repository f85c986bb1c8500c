/- TreeWiths, as the row hands its arguments over. -/
import Derived.Test.YtimcjldehememaaDoorT26
import Derived.Test.YtimcjldehememaaDoorTF
namespace Go.Proofs.YtimcjldehememaaDoor
open Go.RowKit
theorem law_TreeWiths' (i : Int) (leaf : List Int) (A : Option Addr) (n c : Nat) (ls : List (List Int)) (root : List Int) (w : World) (_ : (Lit.int .i64 i).wf = true) (hd : DgOk leaf) (h : DgOk root ∧ DsOk ls ∧ n ≤ c ∧ Sl w w.heap.size 8 A n (cellsD ls)) :
    Calls Tryd.prog 6 #[.int .i64 i, .agg (dgA leaf), .agg (.slice A n c :: root.map (Value.int .u8)).toArray] w fun e w' => e = .returned (.bool true) ∧ Below w.heap.size w w' :=
  law_TreeWiths w i leaf hd A n c h.2.2.1 ls h.2.1 root h.1 h.2.2.2
end Go.Proofs.YtimcjldehememaaDoor
