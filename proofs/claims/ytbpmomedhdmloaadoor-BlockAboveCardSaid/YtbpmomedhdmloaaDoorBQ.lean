/- BlockAbove as its row hands the arguments over. -/
import Derived.Test.YtbpmomedhdmloaaDoorBP
import Derived.Test.YtbpmomedhdmloaaDoorBF
namespace Go.Proofs.YtbpmomedhdmloaaDoor
set_option linter.unusedSimpArgs false
set_option linter.unusedVariables false
set_option linter.constructorNameAsVariable false
open Go.ChangeShapes Go.WideShapes Go.ChangeAt Go.RowKit Go.Deep

set_option maxRecDepth 100000 in
theorem open_d8 {H : Type} {enc : TypeId × Value → H} {W : World} {v : Value} {d : DataW H} {p : List MemPlace} {r : Reach} {b0 : Nat} (hv : Value.okWide Tryd.prog W r b0 22 v)
    (h : DataW.Trod enc Tryd.prog W 0 (fun _ => true) true 22 v d p) : ∃ ds : List Int, v = .agg (dl ds).toArray ∧ DgOk ds := by
  obtain ⟨cs, rfl⟩ : ∃ cs, v = .agg cs := by
    unfold Value.okWide at hv
    rw [Tryd.underlying22] at hv
    obtain ⟨cs, hv, _⟩ := hv
    exact ⟨cs, hv⟩
  obtain ⟨fuel, hf⟩ := h
  obtain ⟨ds, he, hok⟩ := rd_dg Tryd.underlying22 Tryd.underlying5 (by kernel_rfl) (by kernel_rfl) _ _ _ hf
  refine ⟨ds, ?_, hok⟩
  simp only [Value.cells] at he
  have he : cs.toList = dl ds := he
  rw [← he]
set_option maxRecDepth 100000 in
theorem open_str {H : Type} {enc : TypeId × Value → H} {W : World} {v : Value} {d : DataW H} {p : List MemPlace} {r : Reach} {b0 : Nat} (hv : Value.okWide Tryd.prog W r b0 9 v)
    (h : DataW.Trod enc Tryd.prog W 0 (fun _ => true) true 9 v d p) : ∃ s : ByteArray, v = .string s ∧ True := by
  obtain ⟨s, rfl⟩ := okWide_string Tryd.underlying9 hv
  exact ⟨s, rfl, trivial⟩
theorem law_BlockAbove' (p : List Int) (h : Int) (m : List Int) (A : Option Addr) (N C : Nat) (xs : List (List Value × TxT)) (p' : List Int) (h' : Int) (m' : List Int) (A' : Option Addr) (N' C' : Nat) (ys : List (List Value × TxT)) (o : List Int) (ht : Int) (s : ByteArray) (W : World)
    (w0 : DgOk p ∧ DgOk m ∧ (-9223372036854775808 ≤ h ∧ h < 9223372036854775808) ∧ N ≤ C ∧ Txs W A N xs ∧ ∀ x ∈ xs, x.2.b.length ≤ 140737488355328 ∧ x.2.s.length ≤ 140737488355328)
    (w1 : DgOk p' ∧ DgOk m' ∧ (-9223372036854775808 ≤ h' ∧ h' < 9223372036854775808) ∧ N' ≤ C' ∧ Txs W A' N' ys ∧ ∀ x ∈ ys, x.2.b.length ≤ 140737488355328 ∧ x.2.s.length ≤ 140737488355328)
    (w2 : DgOk o) (w3 : (Lit.int .i64 ht).wf = true) (w4 : True) :
    Calls Tryd.prog 3 #[.agg (bkC p h m (.slice A N C)).toArray, .agg (bkC p' h' m' (.slice A' N' C')).toArray, .agg (dl o).toArray, .int .i64 ht, .string s] W fun e W' => e = .returned (.bool true) ∧ Below W.heap.size W W' :=
  babove_law W p h m w0.1 w0.2.1 A N C xs w0.2.2.2.2.1 w0.2.2.2.2.2 p' h' m' w1.1 w1.2.1 A' N' C' ys w1.2.2.2.2.1 w1.2.2.2.2.2 o w2 ht s
end Go.Proofs.YtbpmomedhdmloaaDoor
