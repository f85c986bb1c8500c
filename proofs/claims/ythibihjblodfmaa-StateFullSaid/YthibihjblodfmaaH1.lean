/- The digests' numbers: turning, stirring. -/
import Derived.Test.YthibihjblodfmaaRows
import Derived.Test.YthibihjblodfmaaLib
import Derived.Test.YthibihjblodfmaaLib2
import Derived.BigGuardPart
import Derived.Deep.Light
import Derived.Deep.QuietTactic
import Derived.BigQuiet
import Derived.BigRegion
import Derived.Deep.RegionLaw
import Derived.StillTailTactics
import Derived.Laws.Bits64
import Derived.Laws.Bits64b
namespace Go.Proofs.Ythibihjblodfmaa
open Go.RowKit

/-- A word turned left by so many bits. -/
def rotI (x : Int) (k : Nat) : Int := bits .or .u64 (IntKind.u64.wrap (x * 2 ^ k)) (x / 2 ^ (64 - k))
def xorI (a b : Int) : Int := bits .xor .u64 a b
def addI (a b : Int) : Int := IntKind.u64.wrap (a + b)
theorem wrapU_nonneg (n : Int) : 0 ≤ IntKind.u64.wrap n ∧ IntKind.u64.wrap n < 18446744073709551616 := by rw [IntKind.wrap_u64]; omega

theorem rot32 (x : Int) (w : World) : Calls Try.prog 145 #[.int .u64 x, .int .i64 32] w fun e w' => e = .returned (.int .u64 (rotI x 32)) ∧ w = w' := by
  have h1 : bits .and .u64 32 63 = 32 := by decide +kernel
  go_enter Try.func145, Try.ntmps145
  go_wp2_with fail
  go_ret
  exact ⟨rfl, rfl⟩
theorem rot24 (x : Int) (w : World) : Calls Try.prog 145 #[.int .u64 x, .int .i64 24] w fun e w' => e = .returned (.int .u64 (rotI x 24)) ∧ w = w' := by
  have h1 : bits .and .u64 24 63 = 24 := by decide +kernel
  go_enter Try.func145, Try.ntmps145
  go_wp2_with fail
  go_ret
  exact ⟨rfl, rfl⟩
theorem rot16 (x : Int) (w : World) : Calls Try.prog 145 #[.int .u64 x, .int .i64 16] w fun e w' => e = .returned (.int .u64 (rotI x 16)) ∧ w = w' := by
  have h1 : bits .and .u64 16 63 = 16 := by decide +kernel
  go_enter Try.func145, Try.ntmps145
  go_wp2_with fail
  go_ret
  exact ⟨rfl, rfl⟩
theorem rot63 (x : Int) (w : World) : Calls Try.prog 145 #[.int .u64 x, .int .i64 63] w fun e w' => e = .returned (.int .u64 (rotI x 63)) ∧ w = w' := by
  have h1 : bits .and .u64 63 63 = 63 := by decide +kernel
  go_enter Try.func145, Try.ntmps145
  go_wp2_with fail
  go_ret
  exact ⟨rfl, rfl⟩
theorem left32 (x : Int) (w : World) : Calls Try.prog 144 #[.int .u64 x, .int .u64 32] w fun e w' => e = .returned (.int .u64 (rotI x 32)) ∧ w = w' := by
  go_enter Try.func144, Try.ntmps144
  go_wp2_with fail
  go_ret
  exact ⟨rfl, rfl⟩
theorem left24 (x : Int) (w : World) : Calls Try.prog 144 #[.int .u64 x, .int .u64 24] w fun e w' => e = .returned (.int .u64 (rotI x 24)) ∧ w = w' := by
  go_enter Try.func144, Try.ntmps144
  go_wp2_with fail
  go_ret
  exact ⟨rfl, rfl⟩
theorem left16 (x : Int) (w : World) : Calls Try.prog 144 #[.int .u64 x, .int .u64 16] w fun e w' => e = .returned (.int .u64 (rotI x 16)) ∧ w = w' := by
  go_enter Try.func144, Try.ntmps144
  go_wp2_with fail
  go_ret
  exact ⟨rfl, rfl⟩
theorem left63 (x : Int) (w : World) : Calls Try.prog 144 #[.int .u64 x, .int .u64 63] w fun e w' => e = .returned (.int .u64 (rotI x 63)) ∧ w = w' := by
  go_enter Try.func144, Try.ntmps144
  go_wp2_with fail
  go_ret
  exact ⟨rfl, rfl⟩
/-- All at once: the turns that occur. -/
theorem rot_any (x k : Int) (w : World) (hk : k = 32 ∨ k = 24 ∨ k = 16 ∨ k = 63) : Calls Try.prog 145 #[.int .u64 x, .int .i64 k] w fun e w' => e = .returned (.int .u64 (rotI x k.toNat)) ∧ w = w' := by
  rcases hk with rfl | rfl | rfl | rfl
  · exact rot32 x w
  · exact rot24 x w
  · exact rot16 x w
  · exact rot63 x w
theorem left_any (x k : Int) (w : World) (hk : k = 32 ∨ k = 24 ∨ k = 16 ∨ k = 63) : Calls Try.prog 144 #[.int .u64 x, .int .u64 k] w fun e w' => e = .returned (.int .u64 (rotI x k.toNat)) ∧ w = w' := by
  rcases hk with rfl | rfl | rfl | rfl
  · exact left32 x w
  · exact left24 x w
  · exact left16 x w
  · exact left63 x w
end Go.Proofs.Ythibihjblodfmaa
