/- Nodes of the document. -/
import Derived.Test.YtbpmomedhdmloaaDoorT4
import Derived.Test.YtbpmomedhdmloaaDoorNB
namespace Go.Proofs.YtbpmomedhdmloaaDoor
open Go.RowKit


def leafN : Option (List Int) → List Int
  | some d => lowI d
  | none => lackI
theorem leafN_ok : ∀ o, DgOk (leafN o)
  | some d => lowI_ok d
  | none => lackI_ok
def nodeI (ls : List (List Int)) : Nat → Nat → List Int
  | 0, k => leafN ls[k]?
  | l + 1, k => twoI (nodeI ls l (2 * k)) (nodeI ls l (2 * k + 1))
theorem nodeI_zero (ls : List (List Int)) (k : Nat) : nodeI ls 0 k = leafN ls[k]? := by rw [nodeI]
theorem nodeI_succ (ls : List (List Int)) (l k : Nat) : nodeI ls (l + 1) k = twoI (nodeI ls l (2 * k)) (nodeI ls l (2 * k + 1)) := by rw [nodeI]
theorem nodeI_ok (ls : List (List Int)) (l k : Nat) : DgOk (nodeI ls l k) := by
  cases l with
  | zero => rw [nodeI_zero]; exact leafN_ok _
  | succ l => rw [nodeI_succ]; exact twoI_ok _ _

end Go.Proofs.YtbpmomedhdmloaaDoor
