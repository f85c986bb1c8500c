/- What the rows of trees share: what is laid is met by the door's own heap; digests and paths that came in. -/
import Derived.Test.YtimcjldehememaaDoorFrame2
import Derived.Test.YtimcjldehememaaDoorT22
import Derived.ProofKit
import Derived.LaidMore
import Derived.OpenShut
import Derived.Stop.Joined
namespace Go.Proofs.YtimcjldehememaaDoor
open Go.ChangeShapes Go.WideShapes Go.ChangeAt Go.RowKit Go.Deep

def tlaid : List (String × DataW Unit) := Rows.treeRootsRow.laid
theorem door_met (os : Os) (args : Array Value) : laidMetH Tryd.prog tlaid ((World.doorLaid Tryd.prog 400 os).forCall (fun _ _ => 0) ⟨#[], args, []⟩).memory :=
  laidMetH_of_parts3 (fuel := 8) (laidMet_of_run' 8 (by kernel_rfl) (by kernel_rfl)) (by kernel_rfl) (by kernel_rfl)

theorem u8_wf {z : Int} (h : (Lit.int .u8 z).wf = true) : 0 ≤ z ∧ z < 256 := by
  simp [Lit.wf, IntKind.min, IntKind.max, IntKind.signed, IntKind.bits] at h; omega
theorem u16_wf {vs : List Int} (h : ∀ z ∈ vs, (Lit.int .u16 z).wf = true) : U16 vs := fun v hv => by
  have := h v hv
  simp [Lit.wf, IntKind.min, IntKind.max, IntKind.signed, IntKind.bits] at this; omega

/-- A digest that came in. -/
theorem rd_dg {H : Type} {enc : TypeId × Value → H} {P : Program} {W : World} {e u : TypeId} (he : P.underlying e = some (.array 8 u)) (hu : P.underlying u = some (.int .u8)) (hc : P.cellsOf e = 8) (hc1 : P.cellsOf u = 1) :
    RdAs enc P W e (fun ds : List Int => ds.map (Value.int .u8)) DgOk := by
  intro n cs y h
  obtain ⟨xs, m, _, _, hlen, hxl, hf⟩ := DataW.trod_array he h
  rw [hc] at hlen
  rw [hc1] at hf
  obtain ⟨F, hF⟩ := choose_lt (n := 8) (p := fun i (z : Int) => cs[i]? = some (.int .u8 z) ∧ (Lit.int .u8 z).wf = true) (fun i hi => by
    have h1 := hf i hi
    rw [Nat.mul_one, List.getElem?_eq_getElem (by omega)] at h1
    obtain ⟨z, e1, _, w1⟩ := DataW.trod_int hu h1
    refine ⟨z, ?_, w1⟩
    have := congrArg (·[0]?) e1
    simpa [List.getElem?_take, List.getElem?_drop] using this)
  refine ⟨(List.range 8).map F, List.ext_getElem? fun i => ?_, by simp, fun b hb => ?_⟩
  · by_cases hi : i < 8
    · rw [(hF i hi).1]; simp [hi]
    · rw [List.getElem?_eq_none (by omega), List.getElem?_eq_none (by simp; omega)]
  · obtain ⟨i, hi, rfl⟩ := List.mem_map.1 hb
    exact u8_wf (hF i (List.mem_range.1 hi)).2
theorem open_dg {H : Type} {enc : TypeId × Value → H} {P : Program} {W : World} {t u : TypeId} {v : Value} {d : DataW H} {p : List MemPlace}
    (ht : P.underlying t = some (.array 8 u)) (hu : P.underlying u = some (.int .u8)) (hc : P.cellsOf t = 8) (hc1 : P.cellsOf u = 1) {r : Reach} {b0 : Nat} (hv : Value.okWide P W r b0 t v)
    (h : DataW.Trod enc P W 0 (fun _ => true) true t v d p) : ∃ ds : List Int, v = .agg (dgA ds) ∧ DgOk ds := by
  obtain ⟨cs, rfl⟩ : ∃ cs, v = .agg cs := by
    unfold Value.okWide at hv
    rw [ht] at hv
    obtain ⟨cs, hv, _⟩ := hv
    exact ⟨cs, hv⟩
  obtain ⟨fuel, hf⟩ := h
  obtain ⟨ds, he, hok⟩ := rd_dg ht hu hc hc1 _ _ _ hf
  refine ⟨ds, ?_, hok⟩
  simp only [Value.cells] at he
  rw [dgA, ← he]
theorem flat_cells (ls : List (List Int)) : ls.flatMap (fun ds : List Int => ds.map (Value.int .u8)) = cellsD ls := rfl
theorem open_cap {H : Type} {enc : TypeId × Value → H} {P : Program} {W : World} {t e : TypeId} {fuel : Nat} {y : DataW H × List MemPlace} {A : Option Addr} {n c : Nat}
    (ht : P.underlying t = some (.slice e)) (hf : DataW.trod enc P W 0 (fun _ => true) true fuel t [.slice A n c] = some y) : n ≤ c := by
  rcases open_slice ht hf with ⟨hcs, _⟩ | ⟨x, len, cap, m', k, D, Pl, hcs, _, hl, _, _, _, _⟩
  · simp at hcs; omega
  · simp at hcs; omega
/-- A path and a root. -/
theorem open_above {H : Type} {enc : TypeId × Value → H} {P : Program} {W : World} {t s e u : TypeId} {v : Value} {d : DataW H} {p : List MemPlace} {f0 f1 : Field}
    (ht : P.underlying t = some (.struct #[f0, f1])) (o0 : f0.offset = 0) (o1 : f1.offset = 1) (t0 : f0.type = s) (t1 : f1.type = e) (hct : P.cellsOf t = 9) (hcs : P.cellsOf s = 1)
    (hs : P.underlying s = some (.slice e)) (he : P.underlying e = some (.array 8 u)) (hu : P.underlying u = some (.int .u8)) (hc : P.cellsOf e = 8) (hc1 : P.cellsOf u = 1) {r : Reach} {b0 : Nat} (hv : Value.okWide P W r b0 t v)
    (h : DataW.Trod enc P W 0 (fun _ => true) true t v d p) :
    ∃ (A : Option Addr) (n c : Nat) (ls : List (List Int)) (ds : List Int), v = .agg (.slice A n c :: ds.map (Value.int .u8)).toArray ∧ DgOk ds ∧ DsOk ls ∧ n ≤ c ∧ Sl W W.heap.size 8 A n (cellsD ls) := by
  obtain ⟨cs, rfl, _⟩ := okWide_struct ht hv
  obtain ⟨fuel, hf⟩ := h
  simp only [Value.cells] at hf
  obtain ⟨xs, m, _, _, hlen, hxl, hg⟩ := DataW.trod_struct ht hf
  rw [hct] at hlen
  match xs, hxl with
  | [y0, y1], _ =>
    have g0 := hg 0 f0 rfl
    have g1 := hg 1 f1 rfl
    rw [o0, t0, hcs] at g0
    rw [o1, t1, hc] at g1
    obtain ⟨ds, e1, hok⟩ := rd_dg he hu hc hc1 _ _ _ g1
    obtain ⟨l⟩ := cs
    match l, hlen with
    | c0 :: l, hlen =>
      simp only [List.drop_zero, List.take_succ_cons, List.take_zero] at g0
      obtain ⟨A, n, c, ls, rfl, hl, hsl, hls⟩ := open_slNc hs hc (by omega) (rd_dg he hu hc hc1) g0
      simp only [List.drop_succ_cons, List.drop_zero] at e1
      rw [List.take_of_length_le (by simp at hlen; omega)] at e1
      refine ⟨A, n, c, ls, ds, ?_, hok, fun d hd => (hls d hd).1, open_cap hs g0, hsl⟩
      rw [e1]
end Go.Proofs.YtimcjldehememaaDoor
