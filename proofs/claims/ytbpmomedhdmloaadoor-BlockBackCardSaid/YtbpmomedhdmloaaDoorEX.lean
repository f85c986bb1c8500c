/- BlockBack as its row hands the arguments over. -/
import Derived.Test.YtbpmomedhdmloaaDoorEW
import Derived.Test.YtbpmomedhdmloaaDoorBF
namespace Go.Proofs.YtbpmomedhdmloaaDoor
set_option linter.unusedSimpArgs false
set_option linter.unusedVariables false
set_option linter.constructorNameAsVariable false
open Go.ChangeShapes Go.WideShapes Go.ChangeAt Go.RowKit Go.Deep

set_option maxRecDepth 100000 in
theorem open_byx {H : Type} {enc : TypeId × Value → H} {W : World} {v : Value} {d : DataW H} {p : List MemPlace} {r : Reach} {b0 : Nat} (hv : Value.okWide Tryd.prog W r b0 40 v)
    (h : DataW.Trod enc Tryd.prog W 0 (fun _ => true) true 40 v d p) : ∃ (A : Option Addr) (n c : Nat) (bs : List Int), v = .slice A n c ∧ n ≤ c ∧ Sl W W.heap.size 1 A n (bs.map (.int .u8)) ∧ ByOk bs := by
  obtain ⟨a0, len, cap, rfl⟩ := okWide_slice Tryd.underlying40 hv
  obtain ⟨fuel, hf⟩ := h
  obtain ⟨A, n, c, zs, e, hnc, hsl, hz⟩ := open_by (cs := [.slice a0 len cap]) Tryd.underlying40 Tryd.underlying5 (by kernel_rfl) rfl hf
  injection e with e _
  exact ⟨A, n, c, zs, e, hnc, hsl, hz⟩
theorem u16_wfx {z : Int} (h : (Lit.int .u16 z).wf = true) : 0 ≤ z ∧ z < 65536 := by
  simp [Lit.wf, IntKind.min, IntKind.max, IntKind.signed, IntKind.bits] at h; omega
theorem law_BlockBack' (p : List Int) (h : Int) (m : List Int) (A : Option Addr) (N C : Nat) (xs : List (List Value × TxT)) (A5 : Option Addr) (n5 c5 : Nat) (bs : List Int) (ct : Int) (W : World)
    (w0 : DgOk p ∧ DgOk m ∧ (-9223372036854775808 ≤ h ∧ h < 9223372036854775808) ∧ N ≤ C ∧ Txs W A N xs ∧ ∀ x ∈ xs, x.2.b.length ≤ 140737488355328 ∧ x.2.s.length ≤ 140737488355328)
    (w1 : n5 ≤ c5 ∧ Sl W W.heap.size 1 A5 n5 (bs.map (.int .u8)) ∧ ByOk bs) (w2 : (Lit.int .u16 ct).wf = true) :
    Calls Tryd.prog 7 #[.agg (bkC p h m (.slice A N C)).toArray, .slice A5 n5 c5, .int .u16 ct] W fun e W' => e = .returned (.bool true) ∧ Below W.heap.size W W' :=
  bback_law W p h m w0.1 w0.2.1 A N C xs w0.2.2.2.2.1 w0.2.2.2.2.2 A5 n5 c5 bs w1.2.2 w1.2.1 w1.1 ct (u16_wfx w2)
end Go.Proofs.YtbpmomedhdmloaaDoor
