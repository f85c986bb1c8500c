/- PunishFinds: from what came in. -/
import Derived.Test.YthibihjblodfmaaUH
import Derived.Test.YthibihjblodfmaaUI
namespace Go.Proofs.Ythibihjblodfmaa
open Go.RowKit

theorem law_PunishFinds' (A : Option Addr) (n c : Nat) (xs : List (List Value × DeT)) (seat : Int) (second : Bool) (W : World) (h0 : Des W A n xs) (_h1 : (Lit.int .i64 seat).wf = true) :
    Calls Try.prog 5 #[.slice A n c, .int .i64 seat, .bool second] W fun e w' => e = .returned (.bool true) ∧ Below W.heap.size W w' := pfinds_any W A n c xs h0 h0.sl.le seat second
end Go.Proofs.Ythibihjblodfmaa
