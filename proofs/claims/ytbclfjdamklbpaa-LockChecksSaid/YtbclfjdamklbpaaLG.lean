/- What came in: locks; two numbers. -/
import Derived.Test.YtbclfjdamklbpaaSF
import Derived.Test.YtbclfjdamklbpaaL1
namespace Go.Proofs.Ytbclfjdamklbpaa
set_option linter.unusedSimpArgs false
set_option linter.unusedVariables false
set_option linter.constructorNameAsVariable false
open Go.ChangeShapes Go.WideShapes Go.ChangeAt Go.RowKit Go.Deep

theorem flat_dgs (ls : List (List Int)) : ls.flatMap (fun ds : List Int => ds.map (Value.int .u8)) = cellsD ls := rfl
theorem trod_dgs {H : Type} {enc : TypeId × Value → H} {W : World} {m : Nat} {y : DataW H × List MemPlace} {cs : List Value} (hl : cs.length = 1) (h : DataW.trod enc Try.prog W 0 (fun _ => true) true m 24 cs = some y) : ∃ (A : Option Addr) (n c : Nat) (ls : List (List Int)), cs = [.slice A n c] ∧ (n ≤ c ∧ Sl W W.heap.size 8 A n (cellsD ls) ∧ DsOk ls) := by
  match cs, hl with
  | [v], _ =>
    obtain ⟨A, n, c, zs, rfl, _, hsl, hz⟩ := open_slNc (f := fun ds : List Int => ds.map (Value.int .u8)) (ok := DgOk) Try.underlying24 (show Try.prog.cellsOf 23 = 8 by kernel_rfl) (by omega) (rd_dg Try.underlying23 Try.underlying5 (by kernel_rfl) (by kernel_rfl)) h
    exact ⟨A, n, c, zs, rfl, open_cap Try.underlying24 h, hsl, fun d hd => (hz d hd).1⟩
set_option maxRecDepth 100000 in
theorem rs_lk {H : Type} {enc : TypeId × Value → H} {W : World} {fuel : Nat} {cs : List Value} {y : DataW H × List MemPlace} (hf : DataW.trod enc Try.prog W 0 (fun _ => true) true fuel 26 cs = some y) :
    ∃ (k : Int) (hd : List Int) (A : Option Addr) (N : Nat) (C : Nat) (ks : List (List Int)) (s : Int) (c : Int) (u : Int), cs = lkC ⟨k, hd, ks, s, c, u⟩ (.slice A N C) ∧ (-9223372036854775808 ≤ k ∧ k < 9223372036854775808) ∧ DgOk hd ∧ (N ≤ C ∧ Sl W W.heap.size 8 A N (cellsD ks) ∧ DsOk ks) ∧ (-9223372036854775808 ≤ s ∧ s < 9223372036854775808) ∧ (-9223372036854775808 ≤ c ∧ c < 9223372036854775808) ∧ (-9223372036854775808 ≤ u ∧ u < 9223372036854775808) := by
  obtain ⟨xs, m, _, _, hlen, hxl, hg⟩ := DataW.trod_struct Try.underlying26 hf
  have hl : cs.length = 13 := by rw [hlen]; kernel_rfl
  match xs, hxl with
  | [y0, y1, y2, y3, y4, y5], _ =>
    have g0 : DataW.trod enc Try.prog W 0 (fun _ => true) true m 3 (List.take (Try.prog.cellsOf 3) (List.drop 0 cs)) = some y0 := hg 0 _ rfl
    have g1 : DataW.trod enc Try.prog W 0 (fun _ => true) true m 23 (List.take (Try.prog.cellsOf 23) (List.drop 1 cs)) = some y1 := hg 1 _ rfl
    have g2 : DataW.trod enc Try.prog W 0 (fun _ => true) true m 24 (List.take (Try.prog.cellsOf 24) (List.drop 9 cs)) = some y2 := hg 2 _ rfl
    have g3 : DataW.trod enc Try.prog W 0 (fun _ => true) true m 3 (List.take (Try.prog.cellsOf 3) (List.drop 10 cs)) = some y3 := hg 3 _ rfl
    have g4 : DataW.trod enc Try.prog W 0 (fun _ => true) true m 3 (List.take (Try.prog.cellsOf 3) (List.drop 11 cs)) = some y4 := hg 4 _ rfl
    have g5 : DataW.trod enc Try.prog W 0 (fun _ => true) true m 3 (List.take (Try.prog.cellsOf 3) (List.drop 12 cs)) = some y5 := hg 5 _ rfl
    rw [show Try.prog.cellsOf 3 = 1 by kernel_rfl] at g0 g3 g4 g5
    rw [show Try.prog.cellsOf 23 = 8 by kernel_rfl] at g1
    rw [show Try.prog.cellsOf 24 = 1 by kernel_rfl] at g2
    obtain ⟨k, e0, h0⟩ := trod_i64 Try.underlying3 g0
    obtain ⟨hd, e1, h1⟩ := trod_dg Try.underlying23 Try.underlying5 (by kernel_rfl) (by kernel_rfl) g1
    obtain ⟨A, N, C, ks, e2, h2⟩ := trod_dgs  (by rw [List.length_take, List.length_drop]; omega) g2
    obtain ⟨s, e3, h3⟩ := trod_i64 Try.underlying3 g3
    obtain ⟨c, e4, h4⟩ := trod_i64 Try.underlying3 g4
    obtain ⟨u, e5, h5⟩ := trod_i64 Try.underlying3 g5
    refine ⟨k, hd, A, N, C, ks, s, c, u, ?_, h0, h1, h2, h3, h4, h5⟩
    rw [show cs = cs.drop 0 from rfl, part_at cs 0 1, e0, part_at cs (0 + 1) 8, e1, part_at cs (0 + 1 + 8) 1, e2, part_at cs (0 + 1 + 8 + 1) 1, e3, part_at cs (0 + 1 + 8 + 1 + 1) 1, e4, part_at cs (0 + 1 + 8 + 1 + 1 + 1) 1, e5, List.drop_of_length_le (by omega)]
    simp [lkC, dl]
set_option maxRecDepth 100000 in
theorem open_lk {H : Type} {enc : TypeId × Value → H} {W : World} {v : Value} {d : DataW H} {p : List MemPlace} {r : Reach} {b0 : Nat} (hv : Value.okWide Try.prog W r b0 26 v) (h : DataW.Trod enc Try.prog W 0 (fun _ => true) true 26 v d p) :
    ∃ (k : Int) (hd : List Int) (A : Option Addr) (N : Nat) (C : Nat) (ks : List (List Int)) (s : Int) (c : Int) (u : Int), v = .agg (lkC ⟨k, hd, ks, s, c, u⟩ (.slice A N C)).toArray ∧ (-9223372036854775808 ≤ k ∧ k < 9223372036854775808) ∧ DgOk hd ∧ (N ≤ C ∧ Sl W W.heap.size 8 A N (cellsD ks) ∧ DsOk ks) ∧ (-9223372036854775808 ≤ s ∧ s < 9223372036854775808) ∧ (-9223372036854775808 ≤ c ∧ c < 9223372036854775808) ∧ (-9223372036854775808 ≤ u ∧ u < 9223372036854775808) := by
  obtain ⟨cs, rfl, _⟩ := okWide_struct Try.underlying26 hv
  obtain ⟨fuel, hf⟩ := h
  simp only [Value.cells] at hf
  obtain ⟨k, hd, A, N, C, ks, s, c, u, e, h⟩ := rs_lk hf
  exact ⟨k, hd, A, N, C, ks, s, c, u, by rw [← e], h⟩
set_option maxRecDepth 100000 in
theorem open_i2 {H : Type} {enc : TypeId × Value → H} {W : World} {v : Value} {d : DataW H} {p : List MemPlace} {r : Reach} {b0 : Nat} (hv : Value.okWide Try.prog W r b0 28 v)
    (h : DataW.Trod enc Try.prog W 0 (fun _ => true) true 28 v d p) : ∃ a b : Int, v = .agg #[.int .i64 a, .int .i64 b] ∧ ((-9223372036854775808 ≤ a ∧ a < 9223372036854775808) ∧ (-9223372036854775808 ≤ b ∧ b < 9223372036854775808)) := by
  obtain ⟨cs, rfl⟩ : ∃ cs, v = .agg cs := by
    unfold Value.okWide at hv
    rw [Try.underlying28] at hv
    obtain ⟨cs, hv, _⟩ := hv
    exact ⟨cs, hv⟩
  obtain ⟨fuel, hf⟩ := h
  simp only [Value.cells] at hf
  obtain ⟨xs, m, _, _, hlen, hxl, hg⟩ := DataW.trod_array Try.underlying28 hf
  have hc : Try.prog.cellsOf 28 = 2 := by kernel_rfl
  have hc1 : Try.prog.cellsOf 3 = 1 := by kernel_rfl
  rw [hc] at hlen
  rw [hc1] at hg
  obtain ⟨F, hF⟩ := choose_lt (n := 2) (p := fun i (z : Int) => cs.toList[i]? = some (.int .i64 z) ∧ (Lit.int .i64 z).wf = true) (fun i hi => by
    have h1 := hg i hi
    rw [Nat.mul_one, List.getElem?_eq_getElem (by omega)] at h1
    obtain ⟨z, e1, _, w1⟩ := DataW.trod_int Try.underlying3 h1
    refine ⟨z, ?_, w1⟩
    have := congrArg (·[0]?) e1
    simpa [List.getElem?_take, List.getElem?_drop] using this)
  refine ⟨F 0, F 1, ?_, i64_wf (hF 0 (by omega)).2, i64_wf (hF 1 (by omega)).2⟩
  have h0 := (hF 0 (by omega)).1; have h1 := (hF 1 (by omega)).1
  obtain ⟨l⟩ := cs
  congr 1
  simp only [List.getElem?_toArray] at *
  match l, hlen, h0, h1 with
  | [x, y], _, h0, h1 =>
    simp at h0 h1
    rw [h0, h1]
end Go.Proofs.Ytbclfjdamklbpaa
