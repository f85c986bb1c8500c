/- Digests: the document's word. -/
import Derived.Test.YtakfdlokgddaoaaDoorHB
namespace Go.Proofs.YtakfdlokgddaoaaDoor
open Go.RowKit

theorem cells8g {w1 W : World} {g q : Nat} {t : TypeId} {a0 a1 a2 a3 a4 a5 a6 a7 : Int} (h : DgAt w1 g t [a0, a1, a2, a3, a4, a5, a6, a7]) (hb : w1.grownBy W (some q)) (h1 : g ≠ q) : W.cell? ⟨g, 0, none⟩ = some (.int .u8 a0) ∧ W.cell? ⟨g, 1, none⟩ = some (.int .u8 a1) ∧ W.cell? ⟨g, 2, none⟩ = some (.int .u8 a2) ∧ W.cell? ⟨g, 3, none⟩ = some (.int .u8 a3) ∧ W.cell? ⟨g, 4, none⟩ = some (.int .u8 a4) ∧ W.cell? ⟨g, 5, none⟩ = some (.int .u8 a5) ∧ W.cell? ⟨g, 6, none⟩ = some (.int .u8 a6) ∧ W.cell? ⟨g, 7, none⟩ = some (.int .u8 a7) :=
  cells8 (Bk.grown h hb (by simpa using h1) : DgAt W _ _ _)

end Go.Proofs.YtakfdlokgddaoaaDoor
