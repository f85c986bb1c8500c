/- What came in: messages, and where one falls; what is laid is met. -/
import Derived.Test.YtakfdlokgddaoaaDoorFrame2
import Derived.Test.YtakfdlokgddaoaaDoorWN
import Derived.ProofKit
import Derived.LaidMore
import Derived.OpenShut
import Derived.Stop.Joined
namespace Go.Proofs.YtakfdlokgddaoaaDoor
set_option linter.unusedSimpArgs false
set_option linter.unusedVariables false
set_option linter.constructorNameAsVariable false
open Go.ChangeShapes Go.WideShapes Go.ChangeAt Go.RowKit Go.Deep

def tlaid : List (String × DataW Unit) := Rows.wholeLeafRow.laid
theorem door_met (os : Os) (args : Array Value) : laidMetH Tryd.prog tlaid ((World.doorLaid Tryd.prog 400 os).forCall (fun _ _ => 0) ⟨#[], args, []⟩).memory :=
  laidMetH_of_parts3 (fuel := 8) (laidMet_of_run' 8 (by kernel_rfl) (by kernel_rfl)) (by kernel_rfl) (by kernel_rfl)
theorem u8_wf {z : Int} (h : (Lit.int .u8 z).wf = true) : 0 ≤ z ∧ z < 256 := by
  simp [Lit.wf, IntKind.min, IntKind.max, IntKind.signed, IntKind.bits] at h; omega
/-- A digest that came in. -/
theorem rd_dg {H : Type} {enc : TypeId × Value → H} {P : Program} {W : World} {e u : TypeId} (he : P.underlying e = some (.array 8 u)) (hu : P.underlying u = some (.int .u8)) (hc : P.cellsOf e = 8) (hc1 : P.cellsOf u = 1) :
    RdAs enc P W e (fun ds : List Int => ds.map (Value.int .u8)) DgOk := by
  intro n cs y h
  obtain ⟨xs, m, _, _, hlen, hxl, hf⟩ := DataW.trod_array he h
  rw [hc] at hlen
  rw [hc1] at hf
  obtain ⟨F, hF⟩ := choose_lt (n := 8) (p := fun i (z : Int) => cs[i]? = some (.int .u8 z) ∧ (Lit.int .u8 z).wf = true) (fun i hi => by
    have h1 := hf i hi
    rw [Nat.mul_one, List.getElem?_eq_getElem (by omega)] at h1
    obtain ⟨z, e1, _, w1⟩ := DataW.trod_int hu h1
    refine ⟨z, ?_, w1⟩
    have := congrArg (·[0]?) e1
    simpa [List.getElem?_take, List.getElem?_drop] using this)
  refine ⟨(List.range 8).map F, List.ext_getElem? fun i => ?_, by simp, fun b hb => ?_⟩
  · by_cases hi : i < 8
    · rw [(hF i hi).1]; simp [hi]
    · rw [List.getElem?_eq_none (by omega), List.getElem?_eq_none (by simp; omega)]
  · obtain ⟨i, hi, rfl⟩ := List.mem_map.1 hb
    exact u8_wf (hF i (List.mem_range.1 hi)).2
set_option maxRecDepth 100000 in
theorem open_dgw {H : Type} {enc : TypeId × Value → H} {W : World} {v : Value} {d : DataW H} {p : List MemPlace} {r : Reach} {b0 : Nat} (hv : Value.okWide Tryd.prog W r b0 23 v)
    (h : DataW.Trod enc Tryd.prog W 0 (fun _ => true) true 23 v d p) : ∃ ds : List Int, v = .agg (dl ds).toArray ∧ DgOk ds := by
  obtain ⟨cs, rfl⟩ : ∃ cs, v = .agg cs := by
    unfold Value.okWide at hv
    rw [Tryd.underlying23] at hv
    obtain ⟨cs, hv, _⟩ := hv
    exact ⟨cs, hv⟩
  obtain ⟨fuel, hf⟩ := h
  obtain ⟨ds, he, hok⟩ := rd_dg Tryd.underlying23 Tryd.underlying5 (by kernel_rfl) (by kernel_rfl) _ _ _ hf
  refine ⟨ds, ?_, hok⟩
  simp only [Value.cells] at he
  rw [dl, ← he]
def fallOk (x : List Int × Int) : Prop := DgOk x.1 ∧ 0 ≤ x.2 ∧ x.2 < 256
set_option maxRecDepth 100000 in
theorem rd_fall {H : Type} {enc : TypeId × Value → H} {W : World} : RdAs enc Tryd.prog W 37 fallC fallOk := by
  intro fuel cs y hf
  obtain ⟨xs, m, _, hdx, hlen, hxl, hg⟩ := DataW.trod_struct Tryd.underlying37 hf
  have hl9 : cs.length = 9 := by rw [hlen]; kernel_rfl
  match xs, hxl with
  | [y0, y1], _ =>
    have g0 : DataW.trod enc Tryd.prog W 0 (fun _ => true) true m 23 (List.take (Tryd.prog.cellsOf 23) (List.drop 0 cs)) = some y0 := hg 0 _ rfl
    have g1 : DataW.trod enc Tryd.prog W 0 (fun _ => true) true m 5 (List.take (Tryd.prog.cellsOf 5) (List.drop 8 cs)) = some y1 := hg 1 _ rfl
    have cd : Tryd.prog.cellsOf 23 = 8 := by kernel_rfl
    have cu : Tryd.prog.cellsOf 5 = 1 := by kernel_rfl
    rw [cd] at g0
    rw [cu] at g1
    obtain ⟨f, e0, h0⟩ := rd_dg Tryd.underlying23 Tryd.underlying5 cd cu _ _ _ g0
    obtain ⟨n, e1, _, hn⟩ := DataW.trod_int Tryd.underlying5 g1
    refine ⟨(f, n), ?_, h0, u8_wf hn⟩
    rw [fallC]
    show cs = dl f ++ [.int .u8 n]
    rw [dl, show f.map (Value.int .u8) = _ from e0.symm, ← e1, List.drop_zero]
    have : (cs.drop 8).take 1 = cs.drop 8 := List.take_of_length_le (by rw [List.length_drop]; omega)
    rw [this, List.take_append_drop]
instance : Inhabited (List Int × Int) := ⟨([], 0)⟩
set_option maxRecDepth 100000 in
theorem open_falls {H : Type} {enc : TypeId × Value → H} {W : World} {v : Value} {d : DataW H} {p : List MemPlace} {r : Reach} {b0 : Nat} (hv : Value.okWide Tryd.prog W r b0 24 v)
    (h : DataW.Trod enc Tryd.prog W 0 (fun _ => true) true 24 v d p) : ∃ (A : Option Addr) (n c : Nat) (xs : List (List Int × Int)), v = .slice A n c ∧ Sl W W.heap.size 9 A n (fallsC xs) ∧ FallsOk xs := by
  obtain ⟨A, n, c, l, e, hl, hs, hok⟩ := open_slN (m := 9) Tryd.underlying24 (by kernel_rfl) (by omega) rd_fall hv h
  exact ⟨A, n, c, l, e, by rw [fallsC, List.flatMap_def]; exact hs, fun x hx => (hok x hx).1.1, fun x hx => (hok x hx).1.2⟩
set_option maxRecDepth 100000 in
theorem law_WholeLeaf' (sec : List Int) (A : Option Addr) (n c : Nat) (xs : List (List Int × Int)) (w : World) (hs : DgOk sec) (hx : Sl w w.heap.size 9 A n (fallsC xs) ∧ FallsOk xs) :
    Calls Tryd.prog 3 #[.agg (dl sec).toArray, .slice A n c] w fun e w' => e = .returned (.bool true) ∧ Below w.heap.size w w' := wleaf_any w sec hs A n c xs hx.1 hx.2
end Go.Proofs.YtakfdlokgddaoaaDoor
