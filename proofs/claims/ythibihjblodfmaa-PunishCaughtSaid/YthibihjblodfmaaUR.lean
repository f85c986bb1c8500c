/- PunishCaught: from what came in. -/
import Derived.Test.YthibihjblodfmaaUP
import Derived.Test.YthibihjblodfmaaUI
import Derived.Test.YthibihjblodfmaaSF
namespace Go.Proofs.Ythibihjblodfmaa
set_option linter.constructorNameAsVariable false
open Go.ChangeShapes Go.WideShapes Go.ChangeAt Go.RowKit Go.Deep

set_option maxRecDepth 100000 in
theorem open_bsC {H : Type} {enc : TypeId × Value → H} {W : World} {v : Value} {d : DataW H} {p : List MemPlace} {r : Reach} {b0 : Nat} (hv : Value.okWide Try.prog W r b0 23 v)
    (h : DataW.Trod enc Try.prog W 0 (fun _ => true) true 23 v d p) :
    ∃ (A : Option Addr) (n c : Nat) (zs : List Int), v = .slice A n c ∧ n ≤ c ∧ Sl W W.heap.size 1 A n (zs.map (.int .u8)) ∧ ByOk zs := by
  obtain ⟨a0, len, cap, rfl⟩ := okWide_slice Try.underlying23 hv
  obtain ⟨fuel, hf⟩ := h
  obtain ⟨A, n, c, zs, e, h1, h2, h3⟩ := open_by (cs := [Value.slice a0 len cap]) Try.underlying23 Try.underlying5 (by kernel_rfl) rfl hf
  injection e with e
  exact ⟨A, n, c, zs, e, h1, h2, h3⟩
theorem law_PunishCaught' (A : Option Addr) (n c : Nat) (xs : List (List Value × DeT)) (seat kind number : Int) (A1 : Option Addr) (N1 C1 : Nat) (bs1 : List Int) (A2 : Option Addr) (N2 C2 : Nat) (bs2 : List Int) (second : Bool) (W : World) (h0 : Des W A n xs) (_h1 : (Lit.int .i64 seat).wf = true) (_h2 : (Lit.int .i64 kind).wf = true) (h3 : (Lit.int .i64 number).wf = true)
    (h4 : N1 ≤ C1 ∧ Sl W W.heap.size 1 A1 N1 (bs1.map (.int .u8)) ∧ ByOk bs1) (h5 : N2 ≤ C2 ∧ Sl W W.heap.size 1 A2 N2 (bs2.map (.int .u8)) ∧ ByOk bs2) :
    Calls Try.prog 7 #[.slice A n c, .int .i64 seat, .int .i64 kind, .int .i64 number, .slice A1 N1 C1, .slice A2 N2 C2, .bool second] W fun e w' => e = .returned (.bool true) ∧ Below W.heap.size W w' :=
  pcaught_any W A n c xs h0 h0.sl.le seat kind number (i64_wf h3).1 (i64_wf h3).2 A1 A2 N1 N2 C1 C2 bs1 bs2 h4.2.1 h5.2.1 h4.2.2 h5.2.2 second
end Go.Proofs.Ythibihjblodfmaa
