/- baizeref34.Shares: it gives sharesG. -/
import Derived.Test.YthibihjblodfmaaP2
namespace Go.Proofs.Ythibihjblodfmaa
open Go.RowKit

theorem right_no {n : Int} (h : rightB n = false) : n < 0 ∨ (0 ≤ n ∧ 1125899906842624 < n) := by
  simp [rightB] at h; omega

end Go.Proofs.Ythibihjblodfmaa
