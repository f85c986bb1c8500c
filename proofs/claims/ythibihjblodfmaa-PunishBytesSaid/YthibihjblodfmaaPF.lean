/- What came in: a thing of the document's, with its bytes. -/
import Derived.Test.YthibihjblodfmaaFrame2
import Derived.Test.YthibihjblodfmaaQ18
namespace Go.Proofs.Ythibihjblodfmaa
set_option linter.constructorNameAsVariable false
open Go.ChangeShapes Go.WideShapes Go.ChangeAt Go.RowKit Go.Deep

theorem u8_wf {z : Int} (h : (Lit.int .u8 z).wf = true) : 0 ≤ z ∧ z < 256 := by
  simp [Lit.wf, IntKind.min, IntKind.max, IntKind.signed, IntKind.bits] at h; omega
/-- A digest that came in. -/
theorem rd_dg {H : Type} {enc : TypeId × Value → H} {P : Program} {W : World} {e u : TypeId} (he : P.underlying e = some (.array 8 u)) (hu : P.underlying u = some (.int .u8)) (hc : P.cellsOf e = 8) (hc1 : P.cellsOf u = 1) :
    RdAs enc P W e (fun ds : List Int => ds.map (Value.int .u8)) DgOk := by
  intro n cs y h
  obtain ⟨xs, m, _, _, hlen, hxl, hf⟩ := DataW.trod_array he h
  rw [hc] at hlen
  rw [hc1] at hf
  obtain ⟨F, hF⟩ := choose_lt (n := 8) (p := fun i (z : Int) => cs[i]? = some (.int .u8 z) ∧ (Lit.int .u8 z).wf = true) (fun i hi => by
    have h1 := hf i hi
    rw [Nat.mul_one, List.getElem?_eq_getElem (by omega)] at h1
    obtain ⟨z, e1, _, w1⟩ := DataW.trod_int hu h1
    refine ⟨z, ?_, w1⟩
    have := congrArg (·[0]?) e1
    simpa [List.getElem?_take, List.getElem?_drop] using this)
  refine ⟨(List.range 8).map F, List.ext_getElem? fun i => ?_, by simp, fun b hb => ?_⟩
  · by_cases hi : i < 8
    · rw [(hF i hi).1]; simp [hi]
    · rw [List.getElem?_eq_none (by omega), List.getElem?_eq_none (by simp; omega)]
  · obtain ⟨i, hi, rfl⟩ := List.mem_map.1 hb
    exact u8_wf (hF i (List.mem_range.1 hi)).2
theorem open_cap {H : Type} {enc : TypeId × Value → H} {P : Program} {W : World} {t e : TypeId} {fuel : Nat} {y : DataW H × List MemPlace} {A : Option Addr} {n c : Nat}
    (ht : P.underlying t = some (.slice e)) (hf : DataW.trod enc P W 0 (fun _ => true) true fuel t [.slice A n c] = some y) : n ≤ c := by
  rcases open_slice ht hf with ⟨hcs, _⟩ | ⟨x, len, cap, m', k, D, Pl, hcs, _, hl, _, _, _, _⟩
  · simp at hcs; omega
  · simp at hcs; omega
theorem part_at (l : List Value) (a b : Nat) : l.drop a = (l.drop a).take b ++ l.drop (a + b) := by rw [← List.drop_drop, List.take_append_drop]
/-- Bytes that came in. -/
theorem open_by {H : Type} {enc : TypeId × Value → H} {P : Program} {W : World} {s u : TypeId} {fuel : Nat} {y : DataW H × List MemPlace} {cs : List Value}
    (hs : P.underlying s = some (.slice u)) (hu : P.underlying u = some (.int .u8)) (hc1 : P.cellsOf u = 1) (hl : cs.length = 1) (hf : DataW.trod enc P W 0 (fun _ => true) true fuel s cs = some y) :
    ∃ (A : Option Addr) (n c : Nat) (zs : List Int), cs = [.slice A n c] ∧ n ≤ c ∧ Sl W W.heap.size 1 A n (zs.map (.int .u8)) ∧ ByOk zs := by
  match cs, hl with
  | [v], _ =>
    obtain ⟨A, n, c, zs, rfl, _, hsl, hz⟩ := open_slNc (f := fun z : Int => [Value.int .u8 z]) (ok := fun z => (Lit.int .u8 z).wf = true) hs hc1 (by omega) (fun n cs y h => by
      obtain ⟨z, rfl, _, hz⟩ := DataW.trod_int hu h
      exact ⟨z, rfl, hz⟩) hf
    refine ⟨A, n, c, zs, rfl, open_cap hs hf, ?_, fun b hb => u8_wf (hz b hb).1⟩
    rw [flat_one] at hsl
    exact hsl
set_option maxRecDepth 100000 in
theorem open_rt {H : Type} {enc : TypeId × Value → H} {W : World} {v : Value} {d : DataW H} {p : List MemPlace} {r : Reach} {b0 : Nat} (hv : Value.okWide Try.prog W r b0 25 v)
    (h : DataW.Trod enc Try.prog W 0 (fun _ => true) true 25 v d p) :
    ∃ (k n : Int) (t u : List Int) (A B : Option Addr) (N C M D : Nat) (o : Bool) (bs ss : List Int), v = .agg (rtC k n t u (.slice A N C) (.slice B M D) o).toArray ∧ DgOk t ∧ DgOk u ∧
      Sl W W.heap.size 1 A N (bs.map (.int .u8)) ∧ Sl W W.heap.size 1 B M (ss.map (.int .u8)) ∧ ByOk bs ∧ ByOk ss := by
  obtain ⟨cs, rfl, _⟩ := okWide_struct Try.underlying25 hv
  obtain ⟨fuel, hf⟩ := h
  simp only [Value.cells] at hf
  obtain ⟨xs, m, _, _, hlen, hxl, hg⟩ := DataW.trod_struct Try.underlying25 hf
  have hlen21 : cs.toList.length = 21 := by rw [hlen]; kernel_rfl
  match xs, hxl with
  | [y0, y1, y2, y3, y4, y5, y6], _ =>
    have g0 : DataW.trod enc Try.prog W 0 (fun _ => true) true m 3 (List.take (Try.prog.cellsOf 3) (List.drop 0 cs.toList)) = some y0 := hg 0 _ rfl
    have g1 : DataW.trod enc Try.prog W 0 (fun _ => true) true m 22 (List.take (Try.prog.cellsOf 22) (List.drop 1 cs.toList)) = some y1 := hg 1 _ rfl
    have g2 : DataW.trod enc Try.prog W 0 (fun _ => true) true m 3 (List.take (Try.prog.cellsOf 3) (List.drop 9 cs.toList)) = some y2 := hg 2 _ rfl
    have g3 : DataW.trod enc Try.prog W 0 (fun _ => true) true m 22 (List.take (Try.prog.cellsOf 22) (List.drop 10 cs.toList)) = some y3 := hg 3 _ rfl
    have g4 : DataW.trod enc Try.prog W 0 (fun _ => true) true m 23 (List.take (Try.prog.cellsOf 23) (List.drop 18 cs.toList)) = some y4 := hg 4 _ rfl
    have g5 : DataW.trod enc Try.prog W 0 (fun _ => true) true m 23 (List.take (Try.prog.cellsOf 23) (List.drop 19 cs.toList)) = some y5 := hg 5 _ rfl
    have g6 : DataW.trod enc Try.prog W 0 (fun _ => true) true m 4 (List.take (Try.prog.cellsOf 4) (List.drop 20 cs.toList)) = some y6 := hg 6 _ rfl
    have ci : Try.prog.cellsOf 3 = 1 := by kernel_rfl
    have cd : Try.prog.cellsOf 22 = 8 := by kernel_rfl
    have cb : Try.prog.cellsOf 23 = 1 := by kernel_rfl
    have co : Try.prog.cellsOf 4 = 1 := by kernel_rfl
    have cu : Try.prog.cellsOf 5 = 1 := by kernel_rfl
    rw [ci] at g0 g2
    rw [cd] at g1 g3
    rw [cb] at g4 g5
    rw [co] at g6
    obtain ⟨k, e0, _, _⟩ := DataW.trod_int Try.underlying3 g0
    obtain ⟨t, e1, h1⟩ := rd_dg Try.underlying22 Try.underlying5 cd cu _ _ _ g1
    obtain ⟨n, e2, _, _⟩ := DataW.trod_int Try.underlying3 g2
    obtain ⟨u, e3, h3⟩ := rd_dg Try.underlying22 Try.underlying5 cd cu _ _ _ g3
    obtain ⟨A, N, C, bs, e4, _, h4, h4'⟩ := open_by Try.underlying23 Try.underlying5 cu (by rw [List.length_take, List.length_drop]; omega) g4
    obtain ⟨B, M, D, ss, e5, _, h5, h5'⟩ := open_by Try.underlying23 Try.underlying5 cu (by rw [List.length_take, List.length_drop]; omega) g5
    obtain ⟨o, e6, _⟩ := DataW.trod_bool Try.underlying4 g6
    refine ⟨k, n, t, u, A, B, N, C, M, D, o, bs, ss, ?_, h1, h3, h4, h5, h4', h5'⟩
    have hc : cs.toList = rtC k n t u (.slice A N C) (.slice B M D) o := by
      rw [show cs.toList = cs.toList.drop 0 from rfl, part_at cs.toList 0 1, e0, part_at cs.toList (0 + 1) 8, e1, part_at cs.toList (0 + 1 + 8) 1, e2, part_at cs.toList (0 + 1 + 8 + 1) 8, e3, part_at cs.toList (0 + 1 + 8 + 1 + 8) 1, e4, part_at cs.toList (0 + 1 + 8 + 1 + 8 + 1) 1, e5, part_at cs.toList (0 + 1 + 8 + 1 + 8 + 1 + 1) 1, e6, List.drop_of_length_le (by omega)]
      simp [rtC, dl]
    rw [← hc]
set_option maxRecDepth 100000 in
theorem open_bs {H : Type} {enc : TypeId × Value → H} {W : World} {v : Value} {d : DataW H} {p : List MemPlace} {r : Reach} {b0 : Nat} (hv : Value.okWide Try.prog W r b0 23 v)
    (h : DataW.Trod enc Try.prog W 0 (fun _ => true) true 23 v d p) :
    ∃ (A : Option Addr) (n c : Nat) (zs : List Int), v = .slice A n c ∧ n ≤ c ∧ Sl W W.heap.size 1 A n (zs.map (.int .u8)) ∧ ByOk zs := by
  obtain ⟨a0, len, cap, rfl⟩ := okWide_slice Try.underlying23 hv
  obtain ⟨fuel, hf⟩ := h
  obtain ⟨A, n, c, zs, e, h1, h2, h3⟩ := open_by (cs := [Value.slice a0 len cap]) Try.underlying23 Try.underlying5 (by kernel_rfl) rfl hf
  injection e with e
  exact ⟨A, n, c, zs, e, h1, h2, h3⟩
set_option maxRecDepth 100000 in
theorem law_PunishBytes' (k n : Int) (t u : List Int) (A B : Option Addr) (N C M D : Nat) (o : Bool) (bs ss : List Int) (E : Option Addr) (L F : Nat) (xs : List Int) (W : World)
    (h0 : DgOk t ∧ DgOk u ∧ Sl W W.heap.size 1 A N (bs.map (.int .u8)) ∧ Sl W W.heap.size 1 B M (ss.map (.int .u8)) ∧ ByOk bs ∧ ByOk ss)
    (h1 : L ≤ F ∧ Sl W W.heap.size 1 E L (xs.map (.int .u8)) ∧ ByOk xs) :
    Calls Try.prog 3 #[.agg (rtC k n t u (.slice A N C) (.slice B M D) o).toArray, .slice E L F] W fun e w' => e = .returned (.bool true) ∧ Below W.heap.size W w' :=
  pbytes_any W k n t u h0.1 h0.2.1 o A B E N C M D L F bs ss xs h0.2.2.1 h0.2.2.2.1 h1.2.1 h0.2.2.2.2.1 h0.2.2.2.2.2 h1.2.2 h1.1
end Go.Proofs.Ythibihjblodfmaa
