/- Start, opened, with the form's own reach: its slice takes less than 2^47 bytes. -/
import Derived.Test.YthibihjblodfmaaFF
import Derived.SizedLaws
namespace Go.Proofs.Ythibihjblodfmaa
open Go.ChangeShapes Go.WideShapes Go.ChangeAt Go.RowKit Go.Joins Go.Deep

theorem slice_reach {H : Type} {enc : TypeId × Value → H} {P : Program} {W : World} {t e : TypeId} {fuel n c : Nat} {A : Option Addr} {y : DataW H × List MemPlace} (ht : P.underlying t = some (.slice e))
    (hf : DataW.trod enc P W 0 (fun _ => true) true fuel t [.slice A n c] = some y) (hw : ∀ q ∈ y.1.weights P t, q ≤ reachBytes) : n * P.bytesOf e ≤ reachBytes := by
  rcases open_slice ht hf with ⟨hcs, _⟩ | ⟨x, len, cap, m', k, D, Pl, hcs, _, hl, hmx, hmm, rfl, hx⟩
  · simp at hcs
    obtain ⟨_, rfl, _⟩ := hcs
    simp
  · simp at hcs
    obtain ⟨_, rfl, _⟩ := hcs
    have h1 := hw ((n + (m' - n)) * P.bytesOf e) (by simp [DataW.weights, ht])
    exact Nat.le_trans (Nat.mul_le_mul_right _ (by omega)) h1
end Go.Proofs.Ythibihjblodfmaa
