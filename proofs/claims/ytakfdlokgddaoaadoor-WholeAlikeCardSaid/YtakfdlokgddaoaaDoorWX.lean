/- What came in: who signs, who need not; what is laid is met. -/
import Derived.Test.YtakfdlokgddaoaaDoorFrame2
import Derived.Test.YtakfdlokgddaoaaDoorWV
import Derived.ProofKit
import Derived.LaidMore
import Derived.OpenShut
import Derived.Stop.Joined
namespace Go.Proofs.YtakfdlokgddaoaaDoor
set_option linter.unusedSimpArgs false
set_option linter.unusedVariables false
set_option linter.constructorNameAsVariable false
open Go.ChangeShapes Go.WideShapes Go.ChangeAt Go.RowKit Go.Deep

def tlaid : List (String × DataW Unit) := Rows.wholeAlikeRow.laid
theorem door_met (os : Os) (args : Array Value) : laidMetH Tryd.prog tlaid ((World.doorLaid Tryd.prog 400 os).forCall (fun _ _ => 0) ⟨#[], args, []⟩).memory :=
  laidMetH_of_parts3 (fuel := 8) (laidMet_of_run' 8 (by kernel_rfl) (by kernel_rfl)) (by kernel_rfl) (by kernel_rfl)
theorem u8_wf {z : Int} (h : (Lit.int .u8 z).wf = true) : 0 ≤ z ∧ z < 256 := by
  simp [Lit.wf, IntKind.min, IntKind.max, IntKind.signed, IntKind.bits] at h; omega
/-- A digest that came in. -/
theorem rd_dg {H : Type} {enc : TypeId × Value → H} {P : Program} {W : World} {e u : TypeId} (he : P.underlying e = some (.array 8 u)) (hu : P.underlying u = some (.int .u8)) (hc : P.cellsOf e = 8) (hc1 : P.cellsOf u = 1) :
    RdAs enc P W e (fun ds : List Int => ds.map (Value.int .u8)) DgOk := by
  intro n cs y h
  obtain ⟨xs, m, _, _, hlen, hxl, hf⟩ := DataW.trod_array he h
  rw [hc] at hlen
  rw [hc1] at hf
  obtain ⟨F, hF⟩ := choose_lt (n := 8) (p := fun i (z : Int) => cs[i]? = some (.int .u8 z) ∧ (Lit.int .u8 z).wf = true) (fun i hi => by
    have h1 := hf i hi
    rw [Nat.mul_one, List.getElem?_eq_getElem (by omega)] at h1
    obtain ⟨z, e1, _, w1⟩ := DataW.trod_int hu h1
    refine ⟨z, ?_, w1⟩
    have := congrArg (·[0]?) e1
    simpa [List.getElem?_take, List.getElem?_drop] using this)
  refine ⟨(List.range 8).map F, List.ext_getElem? fun i => ?_, by simp, fun b hb => ?_⟩
  · by_cases hi : i < 8
    · rw [(hF i hi).1]; simp [hi]
    · rw [List.getElem?_eq_none (by omega), List.getElem?_eq_none (by simp; omega)]
  · obtain ⟨i, hi, rfl⟩ := List.mem_map.1 hb
    exact u8_wf (hF i (List.mem_range.1 hi)).2
set_option maxRecDepth 100000 in
theorem open_dgw {H : Type} {enc : TypeId × Value → H} {W : World} {v : Value} {d : DataW H} {p : List MemPlace} {r : Reach} {b0 : Nat} (hv : Value.okWide Tryd.prog W r b0 23 v)
    (h : DataW.Trod enc Tryd.prog W 0 (fun _ => true) true 23 v d p) : ∃ ds : List Int, v = .agg (dl ds).toArray ∧ DgOk ds := by
  obtain ⟨cs, rfl⟩ : ∃ cs, v = .agg cs := by
    unfold Value.okWide at hv
    rw [Tryd.underlying23] at hv
    obtain ⟨cs, hv, _⟩ := hv
    exact ⟨cs, hv⟩
  obtain ⟨fuel, hf⟩ := h
  obtain ⟨ds, he, hok⟩ := rd_dg Tryd.underlying23 Tryd.underlying5 (by kernel_rfl) (by kernel_rfl) _ _ _ hf
  refine ⟨ds, ?_, hok⟩
  simp only [Value.cells] at he
  rw [dl, ← he]
theorem open_cap {H : Type} {enc : TypeId × Value → H} {P : Program} {W : World} {t e : TypeId} {fuel : Nat} {y : DataW H × List MemPlace} {A : Option Addr} {n c : Nat}
    (ht : P.underlying t = some (.slice e)) (hf : DataW.trod enc P W 0 (fun _ => true) true fuel t [.slice A n c] = some y) : n ≤ c := by
  rcases open_slice ht hf with ⟨hcs, _⟩ | ⟨x, len, cap, m', k, D, Pl, hcs, _, hl, _, _, _, _⟩
  · simp at hcs; omega
  · simp at hcs; omega
set_option maxRecDepth 100000 in
theorem open_bools {H : Type} {enc : TypeId × Value → H} {W : World} {v : Value} {d : DataW H} {p : List MemPlace} {r : Reach} {b0 : Nat} (hv : Value.okWide Tryd.prog W r b0 48 v)
    (h : DataW.Trod enc Tryd.prog W 0 (fun _ => true) true 48 v d p) : ∃ (A : Option Addr) (n c : Nat) (S : List Bool), v = .slice A n c ∧ Sl W W.heap.size 1 A n (S.map .bool) ∧ n ≤ c := by
  obtain ⟨A, n, c, zs, rfl, hs⟩ := open_slb Tryd.underlying48 Tryd.underlying4 (by kernel_rfl) hv h
  obtain ⟨fuel, hf⟩ := h
  exact ⟨A, n, c, zs, rfl, hs, open_cap Tryd.underlying48 hf⟩
set_option maxRecDepth 100000 in
theorem law_WholeAlike (m : List Int) (A : Option Addr) (n c : Nat) (S : List Bool) (B : Option Addr) (k d : Nat) (fs : List Bool) (w : World) (hm : DgOk m) (hS : Sl w w.heap.size 1 A n (S.map .bool) ∧ n ≤ c) (hF : Sl w w.heap.size 1 B k (fs.map .bool) ∧ k ≤ d) :
    Calls Tryd.prog 4 #[.agg (dl m).toArray, .slice A n c, .slice B k d] w fun e w' => e = .returned (.bool true) ∧ Below w.heap.size w w' := walike_any w m hm A n c S hS.1 B k d fs hF.1 hF.2
theorem law_WholeAlike' (m : List Int) (A : Option Addr) (n c : Nat) (S : List Bool) (B : Option Addr) (k d : Nat) (fs : List Bool) (w : World) (hm : DgOk m) (hS : Sl w w.heap.size 1 A n (S.map .bool) ∧ n ≤ c) (hF : Sl w w.heap.size 1 B k (fs.map .bool) ∧ k ≤ d) :
    Calls Tryd.prog 4 #[.agg (dl m).toArray, .slice A n c, .slice B k d] w fun e w' => e = .returned (.bool true) ∧ Below w.heap.size w w' := law_WholeAlike m A n c S B k d fs w hm hS hF
end Go.Proofs.YtakfdlokgddaoaaDoor
