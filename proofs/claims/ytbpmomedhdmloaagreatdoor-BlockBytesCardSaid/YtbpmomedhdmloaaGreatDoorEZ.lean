/- BlockBytes as its row hands the arguments over. -/
import Derived.Test.YtbpmomedhdmloaaGreatDoorEB
import Derived.Test.YtbpmomedhdmloaaGreatDoorZF
namespace Go.Proofs.YtbpmomedhdmloaaGreatDoor
set_option linter.unusedSimpArgs false
set_option linter.unusedVariables false
set_option linter.constructorNameAsVariable false
open Go.ChangeShapes Go.WideShapes Go.ChangeAt Go.RowKit Go.Deep

set_option maxRecDepth 100000 in
theorem open_byz {H : Type} {enc : TypeId × Value → H} {W : World} {v : Value} {d : DataW H} {p : List MemPlace} {r : Reach} {b0 : Nat} (hv : Value.okWide Tryz.prog W r b0 60 v)
    (h : DataW.Trod enc Tryz.prog W 0 (fun _ => true) true 60 v d p) : ∃ (A : Option Addr) (n c : Nat) (bs : List Int), v = .slice A n c ∧ n ≤ c ∧ Sl W W.heap.size 1 A n (bs.map (.int .u8)) ∧ ByOk bs := by
  obtain ⟨a0, len, cap, rfl⟩ := okWide_slice Tryz.underlying60 hv
  obtain ⟨fuel, hf⟩ := h
  obtain ⟨A, n, c, zs, e, hnc, hsl, hz⟩ := open_by (cs := [.slice a0 len cap]) Tryz.underlying60 Tryz.underlying5 (by kernel_rfl) rfl hf
  injection e with e _
  exact ⟨A, n, c, zs, e, hnc, hsl, hz⟩
theorem law_BlockBytes' (p : List Int) (h : Int) (m : List Int) (A : Option Addr) (N C : Nat) (xs : List (List Value × TxT)) (A5 : Option Addr) (n5 c5 : Nat) (bs : List Int) (W : World)
    (w0 : DgOk p ∧ DgOk m ∧ (-9223372036854775808 ≤ h ∧ h < 9223372036854775808) ∧ N ≤ C ∧ Txs W A N xs ∧ ∀ x ∈ xs, x.2.b.length ≤ 140737488355328 ∧ x.2.s.length ≤ 140737488355328)
    (w1 : n5 ≤ c5 ∧ Sl W W.heap.size 1 A5 n5 (bs.map (.int .u8)) ∧ ByOk bs) :
    Calls Tryz.prog 5 #[.agg (bkC p h m (.slice A N C)).toArray, .slice A5 n5 c5] W fun e W' => e = .returned (.bool true) ∧ Below W.heap.size W W' :=
  bbytes_law W p h m w0.1 w0.2.1 A N C xs w0.2.2.2.2.1 w0.2.2.2.2.2 A5 n5 c5 bs w1.2.2 w1.2.1 w1.1
end Go.Proofs.YtbpmomedhdmloaaGreatDoor
