/- BlockHas as its row hands the arguments over. -/
import Derived.Test.YtbpmomedhdmloaaGreatDoorDH
import Derived.Test.YtbpmomedhdmloaaGreatDoorZF
namespace Go.Proofs.YtbpmomedhdmloaaGreatDoor
set_option linter.unusedSimpArgs false
set_option linter.unusedVariables false
set_option linter.constructorNameAsVariable false
open Go.ChangeShapes Go.WideShapes Go.ChangeAt Go.RowKit Go.Deep

set_option maxRecDepth 100000 in
theorem open_d8z {H : Type} {enc : TypeId × Value → H} {W : World} {v : Value} {d : DataW H} {p : List MemPlace} {r : Reach} {b0 : Nat} (hv : Value.okWide Tryz.prog W r b0 22 v)
    (h : DataW.Trod enc Tryz.prog W 0 (fun _ => true) true 22 v d p) : ∃ ds : List Int, v = .agg (dl ds).toArray ∧ DgOk ds := by
  obtain ⟨cs, rfl⟩ : ∃ cs, v = .agg cs := by
    unfold Value.okWide at hv
    rw [Tryz.underlying22] at hv
    obtain ⟨cs, hv, _⟩ := hv
    exact ⟨cs, hv⟩
  obtain ⟨fuel, hf⟩ := h
  obtain ⟨ds, he, hok⟩ := rd_dg Tryz.underlying22 Tryz.underlying5 (by kernel_rfl) (by kernel_rfl) _ _ _ hf
  refine ⟨ds, ?_, hok⟩
  simp only [Value.cells] at he
  have he : cs.toList = dl ds := he
  rw [← he]
set_option maxRecDepth 100000 in
theorem open_dd {H : Type} {enc : TypeId × Value → H} {W : World} {v : Value} {d : DataW H} {p : List MemPlace} {r : Reach} {b0 : Nat} (hv : Value.okWide Tryz.prog W r b0 47 v)
    (h : DataW.Trod enc Tryz.prog W 0 (fun _ => true) true 47 v d p) : ∃ (A : Option Addr) (n c : Nat) (ds : List (List Int)), v = .slice A n c ∧ DsOk ds ∧ Sl W W.heap.size 8 A n (cellsD ds) := by
  obtain ⟨a0, len, cap, rfl⟩ := okWide_slice Tryz.underlying47 hv
  obtain ⟨fuel, hf⟩ := h
  obtain ⟨A, n, c, zs, e, _, hsl, hz⟩ := open_slNc (m := 8) (f := fun ds : List Int => ds.map (Value.int .u8)) (ok := DgOk) Tryz.underlying47 (by kernel_rfl) (by omega) (rd_dg Tryz.underlying22 Tryz.underlying5 (by kernel_rfl) (by kernel_rfl)) hf
  exact ⟨A, n, c, zs, e, fun d hd => (hz d hd).1, hsl⟩
theorem law_BlockHas' (p : List Int) (h : Int) (m : List Int) (A : Option Addr) (N C : Nat) (xs : List (List Value × TxT)) (d r : List Int) (i : Int) (A5 : Option Addr) (n5 c5 : Nat) (ds : List (List Int)) (W : World)
    (w0 : DgOk p ∧ DgOk m ∧ (-9223372036854775808 ≤ h ∧ h < 9223372036854775808) ∧ N ≤ C ∧ Txs W A N xs ∧ ∀ x ∈ xs, x.2.b.length ≤ 140737488355328 ∧ x.2.s.length ≤ 140737488355328)
    (w1 : DgOk d) (w2 : DgOk r) (w3 : (Lit.int .i64 i).wf = true) (w4 : DsOk ds ∧ Sl W W.heap.size 8 A5 n5 (cellsD ds)) :
    Calls Tryz.prog 4 #[.agg (bkC p h m (.slice A N C)).toArray, .agg (dl d).toArray, .agg (dl r).toArray, .int .i64 i, .slice A5 n5 c5] W fun e W' => e = .returned (.bool true) ∧ Below W.heap.size W W' :=
  bhas_law W p h m w0.1 w0.2.1 A N C xs w0.2.2.2.2.1 w0.2.2.2.2.2 d w1 r w2 i A5 n5 c5 ds w4.1 w4.2
end Go.Proofs.YtbpmomedhdmloaaGreatDoor
