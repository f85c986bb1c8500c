/- Start, opened: stakes and a height. -/
import Derived.Test.YtfapechlnllfaabFrame2
namespace Go.Proofs.Ytfapechlnllfaab
open Go.ChangeShapes Go.WideShapes Go.ChangeAt Go.RowKit Go.Joins Go.Deep

theorem rd_int {H : Type} {enc : TypeId × Value → H} {P : Program} {W : World} {e : TypeId} {k : IntKind} (he : P.underlying e = some (.int k)) : RdAs enc P W e (fun z => [.int k z]) (fun z => (Lit.int k z).wf = true) := by
  intro n cs y h
  obtain ⟨z, rfl, _, hz⟩ := DataW.trod_int he h
  exact ⟨z, rfl, hz⟩
theorem open_start {H : Type} {enc : TypeId × Value → H} {W : World} {v : Value} {d : DataW H} {p : List MemPlace} {r : Reach} {b0 : Nat} (hv : Value.okWide Try.prog W r b0 24 v)
    (h : DataW.Trod enc Try.prog W 0 (fun _ => true) true 24 v d p) : ∃ (A : Option Addr) (n c : Nat) (l : List Int) (b : Int), v = .agg #[.slice A n c, .int .i64 b] ∧ Sl W W.heap.size 1 A n (l.map (.int .i64)) ∧ ∀ z ∈ l, (Lit.int .i64 z).wf = true := by
  obtain ⟨c0, c1, y0, y1, m, rfl, _, _, h0, h1⟩ := open_agg2 Try.underlying24 (by kernel_rfl) (by kernel_rfl) hv h
  obtain ⟨A, n, c, l, rfl, hl, hs, hw⟩ := open_slNc (m := 1) Try.underlying22 (by kernel_rfl) (by omega) (rd_int Try.underlying3) h0
  obtain ⟨z, e, _⟩ := DataW.trod_int Try.underlying3 h1
  simp at e; subst e
  rw [flat_one] at hs
  exact ⟨A, n, c, l, z, rfl, hs, fun z hz => (hw z hz).1⟩
end Go.Proofs.Ytfapechlnllfaab
