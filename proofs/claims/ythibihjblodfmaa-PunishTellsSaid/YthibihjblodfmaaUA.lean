/- PunishTells: from what came in. -/
import Derived.Test.YthibihjblodfmaaU8
import Derived.Test.YthibihjblodfmaaU9
import Derived.Test.YthibihjblodfmaaUF
namespace Go.Proofs.Ythibihjblodfmaa
set_option linter.unusedSimpArgs false
set_option linter.unusedVariables false
open Go.RowKit

theorem law_PunishTells' (k n : Int) (t u : List Int) (A B : Option Addr) (N C M D : Nat) (o : Bool) (bs ss : List Int) (k' n' : Int) (t' u' : List Int) (A' B' : Option Addr) (N' C' M' D' : Nat) (o' : Bool) (bs' ss' : List Int) (dw : List Int) (y0 y1 y2 : Int) (W : World)
    (h0 : DgOk t ∧ DgOk u ∧ Sl W W.heap.size 1 A N (bs.map (.int .u8)) ∧ Sl W W.heap.size 1 B M (ss.map (.int .u8)) ∧ ByOk bs ∧ ByOk ss ∧ (-9223372036854775808 ≤ n ∧ n < 9223372036854775808) ∧ N ≤ 140737488355328 ∧ M ≤ 140737488355328)
    (h1 : DgOk t' ∧ DgOk u' ∧ Sl W W.heap.size 1 A' N' (bs'.map (.int .u8)) ∧ Sl W W.heap.size 1 B' M' (ss'.map (.int .u8)) ∧ ByOk bs' ∧ ByOk ss' ∧ (-9223372036854775808 ≤ n' ∧ n' < 9223372036854775808) ∧ N' ≤ 140737488355328 ∧ M' ≤ 140737488355328)
    (h2 : DgOk dw) (h3 : (0 ≤ y0 ∧ y0 < 256) ∧ (0 ≤ y1 ∧ y1 < 256) ∧ (0 ≤ y2 ∧ y2 < 256)) :
    Calls Try.prog 4 #[.agg (rtC k n t u (.slice A N C) (.slice B M D) o).toArray, .agg (rtC k' n' t' u' (.slice A' N' C') (.slice B' M' D') o').toArray, .agg (dl dw).toArray, .agg #[.int .u8 y0, .int .u8 y1, .int .u8 y2]] W fun e w' => e = .returned (.bool true) ∧ Below W.heap.size W w' := by
  obtain ⟨a1, a2, a3, a4, a5, a6, a7, a8, a9⟩ := h0
  obtain ⟨b1, b2, b3, b4, b5, b6, b7, b8, b9⟩ := h1
  by_cases hbig : 5000 < N + M ∨ 5000 < N' + M'
  · exact ptells_big W k n k' n' t u t' u' A B A' B' N C M D N' C' M' D' o o' a1 a2 b1 b2 _ _ ⟨a8, a9⟩ ⟨b8, b9⟩ hbig
  · have l1 := a3.length; have l2 := a4.length; have l3 := b3.length; have l4 := b4.length
    exact ptells_any W _ _ ⟨k, n, t, u, bs, ss, o⟩ ⟨k', n', t', u', bs', ss', o'⟩ dw h2 y0 y1 y2 h3
      ⟨⟨A, B, N, C, M, D, rfl, .inl a3, .inl a4⟩, a1, a2, a5, a6, a7.1, a7.2, by show bs.length ≤ _; omega⟩
      ⟨⟨A', B', N', C', M', D', rfl, .inl b3, .inl b4⟩, b1, b2, b5, b6, b7.1, b7.2, by show bs'.length ≤ _; omega⟩
      ⟨by show bs.length ≤ _; omega, by show ss.length ≤ _; omega⟩ ⟨by show bs'.length ≤ _; omega, by show ss'.length ≤ _; omega⟩
end Go.Proofs.Ythibihjblodfmaa
