/- Contracts of coin's and baizeref03's functions that only compute: Right, Add, Sub, Sum, Alike. -/
import Derived.Test.YthibihjblodfmaaRows
import Derived.Test.YthibihjblodfmaaLib
import Derived.BigGuardPart
import Derived.Deep.Light
import Derived.Deep.QuietTactic
import Derived.BigQuiet
namespace Go.Proofs.Ythibihjblodfmaa
open Go.RowKit

def rightB (n : Int) : Bool := decide (0 ≤ n) && decide (n ≤ 1125899906842624)
theorem right_t {n : Int} (h : 0 ≤ n) (h' : n ≤ 1125899906842624) : rightB n = true := by simp [rightB, h, h']
theorem right_f1 {n : Int} (h : n < 0) : rightB n = false := by simp [rightB]; omega
theorem right_of {n : Int} (h : rightB n = true) : 0 ≤ n ∧ n ≤ 1125899906842624 := by simpa [rightB] using h

theorem right_any (n : Int) (w : World) :
    Calls Try.prog 111 #[.int .i64 n] w fun e w' => e = .returned (.bool (rightB n)) ∧ w = w' := by
  go_enter Try.func111, Try.ntmps111
  go_wp2
  all_goals
    go_ret
    exact ⟨by simp [rightB, *] <;> omega, rfl⟩
def addV (a b : Int) : Int := if rightB a && rightB b && rightB (a + b) then a + b else 0
def addE (a b : Int) : Int := if rightB a && rightB b && rightB (a + b) then 0 else 2
def subV (a b : Int) : Int := if rightB a && rightB b && decide (b ≤ a) then a - b else 0
def subE (a b : Int) : Int := if rightB a && rightB b then (if b ≤ a then 0 else 21) else 2

def sumG : Int → List Int → Int × Int
  | s, [] => (s, 0)
  | s, x :: l => if addE s x = 0 then sumG (addV s x) l else (0, addE s x)

end Go.Proofs.Ythibihjblodfmaa
