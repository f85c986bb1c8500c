/- PunishHonest: from what came in. -/
import Derived.Test.YthibihjblodfmaaUN
import Derived.Test.YthibihjblodfmaaUI
namespace Go.Proofs.Ythibihjblodfmaa
open Go.RowKit

theorem law_PunishHonest' (A : Option Addr) (n c : Nat) (xs : List (List Value × DeT)) (hon : Int) (W : World) (h0 : Des W A n xs) (_h1 : (Lit.int .i64 hon).wf = true) :
    Calls Try.prog 6 #[.slice A n c, .int .i64 hon] W fun e w' => e = .returned (.bool true) ∧ Below W.heap.size W w' := phonest_any W A n c xs h0 h0.sl.le hon
end Go.Proofs.Ythibihjblodfmaa
