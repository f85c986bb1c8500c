/- Start, opened, with the form's own reach: its slice takes less than 2^47 bytes. -/
import Derived.Test.YtfapechlnllfaabFF
import Derived.SizedLaws
namespace Go.Proofs.Ytfapechlnllfaab
open Go.ChangeShapes Go.WideShapes Go.ChangeAt Go.RowKit Go.Joins Go.Deep

theorem slice_reach {H : Type} {enc : TypeId × Value → H} {P : Program} {W : World} {t e : TypeId} {fuel n c : Nat} {A : Option Addr} {y : DataW H × List MemPlace} (ht : P.underlying t = some (.slice e))
    (hf : DataW.trod enc P W 0 (fun _ => true) true fuel t [.slice A n c] = some y) (hw : ∀ q ∈ y.1.weights P t, q ≤ reachBytes) : n * P.bytesOf e ≤ reachBytes := by
  rcases open_slice ht hf with ⟨hcs, _⟩ | ⟨x, len, cap, m', k, D, Pl, hcs, _, hl, hmx, hmm, rfl, hx⟩
  · simp at hcs
    obtain ⟨_, rfl, _⟩ := hcs
    simp
  · simp at hcs
    obtain ⟨_, rfl, _⟩ := hcs
    have h1 := hw ((n + (m' - n)) * P.bytesOf e) (by simp [DataW.weights, ht])
    exact Nat.le_trans (Nat.mul_le_mul_right _ (by omega)) h1
theorem open_startR {H : Type} {enc : TypeId × Value → H} {W : World} {v : Value} {d : DataW H} {p : List MemPlace} {r : Reach} {b0 : Nat} (hv : Value.okWide Try.prog W r b0 24 v)
    (h : DataW.Trod enc Try.prog W 0 (fun _ => true) true 24 v d p) (hw : ∀ q ∈ d.weights Try.prog 24, q ≤ reachBytes) : ∃ (A : Option Addr) (n c : Nat) (l : List Int) (b : Int), v = .agg #[.slice A n c, .int .i64 b] ∧ Sl W W.heap.size 1 A n (l.map (.int .i64)) ∧ (∀ z ∈ l, (Lit.int .i64 z).wf = true) ∧ n * 8 ≤ 140737488351232 := by
  obtain ⟨c0, c1, y0, y1, m, rfl, rfl, _, h0, h1⟩ := open_agg2 Try.underlying24 (by kernel_rfl) (by kernel_rfl) hv h
  obtain ⟨A, n, c, l, rfl, hl, hs, hw'⟩ := open_slNc (m := 1) Try.underlying22 (by kernel_rfl) (by omega) (rd_int Try.underlying3) h0
  obtain ⟨z, e, _⟩ := DataW.trod_int Try.underlying3 h1
  simp at e; subst e
  rw [flat_one] at hs
  have hb : Try.prog.bytesOf 3 = 8 := by kernel_rfl
  have hr := slice_reach Try.underlying22 h0 (fun q hq => hw q (by simp [DataW.weights, Try.underlying24, DataW.weightsEach, hq]))
  rw [hb] at hr
  exact ⟨A, n, c, l, z, rfl, hs, fun z hz => (hw' z hz).1, hr⟩
end Go.Proofs.Ytfapechlnllfaab
