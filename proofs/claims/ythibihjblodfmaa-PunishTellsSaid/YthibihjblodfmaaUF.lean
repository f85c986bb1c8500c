/- What came in: a thing of the document's with the form's own reach; a digest of the document's; three bytes. -/
import Derived.Test.YthibihjblodfmaaQ1
import Derived.Test.YthibihjblodfmaaSF
import Derived.Test.YthibihjblodfmaaFS
namespace Go.Proofs.Ythibihjblodfmaa
set_option linter.unusedSimpArgs false
set_option linter.unusedVariables false
set_option linter.constructorNameAsVariable false
open Go.ChangeShapes Go.WideShapes Go.ChangeAt Go.RowKit Go.Deep

set_option maxRecDepth 100000 in
theorem open_rtR {H : Type} {enc : TypeId × Value → H} {W : World} {v : Value} {d : DataW H} {p : List MemPlace} {r : Reach} {b0 : Nat} (hv : Value.okWide Try.prog W r b0 25 v)
    (h : DataW.Trod enc Try.prog W 0 (fun _ => true) true 25 v d p) (hw : ∀ q ∈ d.weights Try.prog 25, q ≤ reachBytes) :
    ∃ (k n : Int) (t u : List Int) (A B : Option Addr) (N C M D : Nat) (o : Bool) (bs ss : List Int), v = .agg (rtC k n t u (.slice A N C) (.slice B M D) o).toArray ∧ DgOk t ∧ DgOk u ∧
      Sl W W.heap.size 1 A N (bs.map (.int .u8)) ∧ Sl W W.heap.size 1 B M (ss.map (.int .u8)) ∧ ByOk bs ∧ ByOk ss ∧ (-9223372036854775808 ≤ n ∧ n < 9223372036854775808) ∧ N ≤ 140737488355328 ∧ M ≤ 140737488355328 := by
  obtain ⟨cs, rfl, _⟩ := okWide_struct Try.underlying25 hv
  obtain ⟨fuel, hf⟩ := h
  simp only [Value.cells] at hf
  obtain ⟨xs, m, _, hdx, hlen, hxl, hg⟩ := DataW.trod_struct Try.underlying25 hf
  have hlen21 : cs.toList.length = 21 := by rw [hlen]; kernel_rfl
  match xs, hxl with
  | [y0, y1, y2, y3, y4, y5, y6], _ =>
    have g0 : DataW.trod enc Try.prog W 0 (fun _ => true) true m 3 (List.take (Try.prog.cellsOf 3) (List.drop 0 cs.toList)) = some y0 := hg 0 _ rfl
    have g1 : DataW.trod enc Try.prog W 0 (fun _ => true) true m 22 (List.take (Try.prog.cellsOf 22) (List.drop 1 cs.toList)) = some y1 := hg 1 _ rfl
    have g2 : DataW.trod enc Try.prog W 0 (fun _ => true) true m 3 (List.take (Try.prog.cellsOf 3) (List.drop 9 cs.toList)) = some y2 := hg 2 _ rfl
    have g3 : DataW.trod enc Try.prog W 0 (fun _ => true) true m 22 (List.take (Try.prog.cellsOf 22) (List.drop 10 cs.toList)) = some y3 := hg 3 _ rfl
    have g4 : DataW.trod enc Try.prog W 0 (fun _ => true) true m 23 (List.take (Try.prog.cellsOf 23) (List.drop 18 cs.toList)) = some y4 := hg 4 _ rfl
    have g5 : DataW.trod enc Try.prog W 0 (fun _ => true) true m 23 (List.take (Try.prog.cellsOf 23) (List.drop 19 cs.toList)) = some y5 := hg 5 _ rfl
    have g6 : DataW.trod enc Try.prog W 0 (fun _ => true) true m 4 (List.take (Try.prog.cellsOf 4) (List.drop 20 cs.toList)) = some y6 := hg 6 _ rfl
    have ci : Try.prog.cellsOf 3 = 1 := by kernel_rfl
    have cd : Try.prog.cellsOf 22 = 8 := by kernel_rfl
    have cb : Try.prog.cellsOf 23 = 1 := by kernel_rfl
    have co : Try.prog.cellsOf 4 = 1 := by kernel_rfl
    have cu : Try.prog.cellsOf 5 = 1 := by kernel_rfl
    rw [ci] at g0 g2
    rw [cd] at g1 g3
    rw [cb] at g4 g5
    rw [co] at g6
    obtain ⟨k, e0, _, _⟩ := DataW.trod_int Try.underlying3 g0
    obtain ⟨t, e1, h1⟩ := rd_dg Try.underlying22 Try.underlying5 cd cu _ _ _ g1
    obtain ⟨n, e2, _, hn⟩ := DataW.trod_int Try.underlying3 g2
    obtain ⟨u, e3, h3⟩ := rd_dg Try.underlying22 Try.underlying5 cd cu _ _ _ g3
    obtain ⟨A, N, C, bs, e4, _, h4, h4'⟩ := open_by Try.underlying23 Try.underlying5 cu (by rw [List.length_take, List.length_drop]; omega) g4
    obtain ⟨B, M, D, ss, e5, _, h5, h5'⟩ := open_by Try.underlying23 Try.underlying5 cu (by rw [List.length_take, List.length_drop]; omega) g5
    obtain ⟨o, e6, _⟩ := DataW.trod_bool Try.underlying4 g6
    have hd : d = .agg [y0.1, y1.1, y2.1, y3.1, y4.1, y5.1, y6.1] := by have := congrArg Prod.fst hdx; simpa using this
    have bu : Try.prog.bytesOf 5 = 1 := by kernel_rfl
    rw [e4] at g4
    rw [e5] at g5
    have hr4 := slice_reach Try.underlying23 g4 (fun q hq => hw q (by rw [hd]; simp [DataW.weights, Try.underlying25, DataW.weightsEach, hq]))
    have hr5 := slice_reach Try.underlying23 g5 (fun q hq => hw q (by rw [hd]; simp [DataW.weights, Try.underlying25, DataW.weightsEach, hq]))
    rw [bu] at hr4 hr5
    refine ⟨k, n, t, u, A, B, N, C, M, D, o, bs, ss, ?_, h1, h3, h4, h5, h4', h5', i64_wf hn, by have : reachBytes = 140737488351232 := rfl; omega, by have : reachBytes = 140737488351232 := rfl; omega⟩
    have hc : cs.toList = rtC k n t u (.slice A N C) (.slice B M D) o := by
      rw [show cs.toList = cs.toList.drop 0 from rfl, part_at cs.toList 0 1, e0, part_at cs.toList (0 + 1) 8, e1, part_at cs.toList (0 + 1 + 8) 1, e2, part_at cs.toList (0 + 1 + 8 + 1) 8, e3, part_at cs.toList (0 + 1 + 8 + 1 + 8) 1, e4, part_at cs.toList (0 + 1 + 8 + 1 + 8 + 1) 1, e5, part_at cs.toList (0 + 1 + 8 + 1 + 8 + 1 + 1) 1, e6, List.drop_of_length_le (by omega)]
      simp [rtC, dl]
    rw [← hc]
set_option maxRecDepth 100000 in
theorem open_d8 {H : Type} {enc : TypeId × Value → H} {W : World} {v : Value} {d : DataW H} {p : List MemPlace} {r : Reach} {b0 : Nat} (hv : Value.okWide Try.prog W r b0 22 v)
    (h : DataW.Trod enc Try.prog W 0 (fun _ => true) true 22 v d p) : ∃ ds : List Int, v = .agg (dl ds).toArray ∧ DgOk ds := by
  obtain ⟨cs, rfl⟩ : ∃ cs, v = .agg cs := by
    unfold Value.okWide at hv
    rw [Try.underlying22] at hv
    obtain ⟨cs, hv, _⟩ := hv
    exact ⟨cs, hv⟩
  obtain ⟨fuel, hf⟩ := h
  obtain ⟨ds, he, hok⟩ := trod_dg Try.underlying22 Try.underlying5 (by kernel_rfl) (by kernel_rfl) hf
  refine ⟨ds, ?_, hok⟩
  simp only [Value.cells] at he
  rw [← he]
set_option maxRecDepth 100000 in
theorem open_a3 {H : Type} {enc : TypeId × Value → H} {W : World} {v : Value} {d : DataW H} {p : List MemPlace} {r : Reach} {b0 : Nat} (hv : Value.okWide Try.prog W r b0 48 v)
    (h : DataW.Trod enc Try.prog W 0 (fun _ => true) true 48 v d p) : ∃ a b c : Int, v = .agg #[.int .u8 a, .int .u8 b, .int .u8 c] ∧ ((0 ≤ a ∧ a < 256) ∧ (0 ≤ b ∧ b < 256) ∧ (0 ≤ c ∧ c < 256)) := by
  obtain ⟨cs, rfl⟩ : ∃ cs, v = .agg cs := by
    unfold Value.okWide at hv
    rw [Try.underlying48] at hv
    obtain ⟨cs, hv, _⟩ := hv
    exact ⟨cs, hv⟩
  obtain ⟨fuel, hf⟩ := h
  simp only [Value.cells] at hf
  obtain ⟨xs, m, _, _, hlen, hxl, hg⟩ := DataW.trod_array Try.underlying48 hf
  have hc : Try.prog.cellsOf 48 = 3 := by kernel_rfl
  have hc1 : Try.prog.cellsOf 5 = 1 := by kernel_rfl
  rw [hc] at hlen
  rw [hc1] at hg
  obtain ⟨F, hF⟩ := choose_lt (n := 3) (p := fun i (z : Int) => cs.toList[i]? = some (.int .u8 z) ∧ (Lit.int .u8 z).wf = true) (fun i hi => by
    have h1 := hg i hi
    rw [Nat.mul_one, List.getElem?_eq_getElem (by omega)] at h1
    obtain ⟨z, e1, _, w1⟩ := DataW.trod_int Try.underlying5 h1
    refine ⟨z, ?_, w1⟩
    have := congrArg (·[0]?) e1
    simpa [List.getElem?_take, List.getElem?_drop] using this)
  refine ⟨F 0, F 1, F 2, ?_, u8_wf (hF 0 (by omega)).2, u8_wf (hF 1 (by omega)).2, u8_wf (hF 2 (by omega)).2⟩
  have h0 := (hF 0 (by omega)).1; have h1 := (hF 1 (by omega)).1; have h2 := (hF 2 (by omega)).1
  obtain ⟨l⟩ := cs
  congr 1
  simp only [List.getElem?_toArray] at *
  match l, hlen, h0, h1, h2 with
  | [x, y, z], _, h0, h1, h2 =>
    simp at h0 h1 h2
    rw [h0, h1, h2]
end Go.Proofs.Ythibihjblodfmaa
