/- What came in: structs of states, read as lists. -/
import Derived.Test.YtbclfjdamklbpaaFrame2
import Derived.Test.YtbclfjdamklbpaaS7
namespace Go.Proofs.Ytbclfjdamklbpaa
set_option linter.constructorNameAsVariable false
open Go.ChangeShapes Go.WideShapes Go.ChangeAt Go.RowKit Go.Deep

theorem u8_wf {z : Int} (h : (Lit.int .u8 z).wf = true) : 0 ≤ z ∧ z < 256 := by
  simp [Lit.wf, IntKind.min, IntKind.max, IntKind.signed, IntKind.bits] at h; omega
/-- A digest that came in. -/
theorem rd_dg {H : Type} {enc : TypeId × Value → H} {P : Program} {W : World} {e u : TypeId} (he : P.underlying e = some (.array 8 u)) (hu : P.underlying u = some (.int .u8)) (hc : P.cellsOf e = 8) (hc1 : P.cellsOf u = 1) :
    RdAs enc P W e (fun ds : List Int => ds.map (Value.int .u8)) DgOk := by
  intro n cs y h
  obtain ⟨xs, m, _, _, hlen, hxl, hf⟩ := DataW.trod_array he h
  rw [hc] at hlen
  rw [hc1] at hf
  obtain ⟨F, hF⟩ := choose_lt (n := 8) (p := fun i (z : Int) => cs[i]? = some (.int .u8 z) ∧ (Lit.int .u8 z).wf = true) (fun i hi => by
    have h1 := hf i hi
    rw [Nat.mul_one, List.getElem?_eq_getElem (by omega)] at h1
    obtain ⟨z, e1, _, w1⟩ := DataW.trod_int hu h1
    refine ⟨z, ?_, w1⟩
    have := congrArg (·[0]?) e1
    simpa [List.getElem?_take, List.getElem?_drop] using this)
  refine ⟨(List.range 8).map F, List.ext_getElem? fun i => ?_, by simp, fun b hb => ?_⟩
  · by_cases hi : i < 8
    · rw [(hF i hi).1]; simp [hi]
    · rw [List.getElem?_eq_none (by omega), List.getElem?_eq_none (by simp; omega)]
  · obtain ⟨i, hi, rfl⟩ := List.mem_map.1 hb
    exact u8_wf (hF i (List.mem_range.1 hi)).2
theorem open_cap {H : Type} {enc : TypeId × Value → H} {P : Program} {W : World} {t e : TypeId} {fuel : Nat} {y : DataW H × List MemPlace} {A : Option Addr} {n c : Nat}
    (ht : P.underlying t = some (.slice e)) (hf : DataW.trod enc P W 0 (fun _ => true) true fuel t [.slice A n c] = some y) : n ≤ c := by
  rcases open_slice ht hf with ⟨hcs, _⟩ | ⟨x, len, cap, m', k, D, Pl, hcs, _, hl, _, _, _, _⟩
  · simp at hcs; omega
  · simp at hcs; omega
theorem part_at (l : List Value) (a b : Nat) : l.drop a = (l.drop a).take b ++ l.drop (a + b) := by rw [← List.drop_drop, List.take_append_drop]
/-- Bytes that came in. -/
theorem open_by {H : Type} {enc : TypeId × Value → H} {P : Program} {W : World} {s u : TypeId} {fuel : Nat} {y : DataW H × List MemPlace} {cs : List Value}
    (hs : P.underlying s = some (.slice u)) (hu : P.underlying u = some (.int .u8)) (hc1 : P.cellsOf u = 1) (hl : cs.length = 1) (hf : DataW.trod enc P W 0 (fun _ => true) true fuel s cs = some y) :
    ∃ (A : Option Addr) (n c : Nat) (zs : List Int), cs = [.slice A n c] ∧ n ≤ c ∧ Sl W W.heap.size 1 A n (zs.map (.int .u8)) ∧ ByOk zs := by
  match cs, hl with
  | [v], _ =>
    obtain ⟨A, n, c, zs, rfl, _, hsl, hz⟩ := open_slNc (f := fun z : Int => [Value.int .u8 z]) (ok := fun z => (Lit.int .u8 z).wf = true) hs hc1 (by omega) (fun n cs y h => by
      obtain ⟨z, rfl, _, hz⟩ := DataW.trod_int hu h
      exact ⟨z, rfl, hz⟩) hf
    refine ⟨A, n, c, zs, rfl, open_cap hs hf, ?_, fun b hb => u8_wf (hz b hb).1⟩
    rw [flat_one] at hsl
    exact hsl

theorem i64_wf {z : Int} (h : (Lit.int .i64 z).wf = true) : -9223372036854775808 ≤ z ∧ z < 9223372036854775808 := by
  simp [Lit.wf, IntKind.min, IntKind.max, IntKind.signed, IntKind.bits] at h; omega
section
variable {H : Type} {enc : TypeId × Value → H} {P : Program} {W : World} {t u : TypeId} {m : Nat} {y : DataW H × List MemPlace} {cs : List Value}
theorem trod_i64 (hu : P.underlying t = some (.int .i64)) (h : DataW.trod enc P W 0 (fun _ => true) true m t cs = some y) : ∃ n : Int, cs = [.int .i64 n] ∧ (-9223372036854775808 ≤ n ∧ n < 9223372036854775808) := by
  obtain ⟨n, e, _, hw⟩ := DataW.trod_int hu h
  exact ⟨n, e, i64_wf hw⟩
theorem trod_u8 (hu : P.underlying t = some (.int .u8)) (h : DataW.trod enc P W 0 (fun _ => true) true m t cs = some y) : ∃ n : Int, cs = [.int .u8 n] ∧ (0 ≤ n ∧ n < 256) := by
  obtain ⟨n, e, _, hw⟩ := DataW.trod_int hu h
  exact ⟨n, e, u8_wf hw⟩
theorem trod_b (hu : P.underlying t = some .bool) (h : DataW.trod enc P W 0 (fun _ => true) true m t cs = some y) : ∃ b : Bool, cs = [.bool b] ∧ True := by
  obtain ⟨b, e, _⟩ := DataW.trod_bool hu h
  exact ⟨b, e, trivial⟩
theorem trod_dg (he : P.underlying t = some (.array 8 u)) (hu : P.underlying u = some (.int .u8)) (hc : P.cellsOf t = 8) (hc1 : P.cellsOf u = 1) (h : DataW.trod enc P W 0 (fun _ => true) true m t cs = some y) : ∃ ds : List Int, cs = dl ds ∧ DgOk ds := rd_dg he hu hc hc1 _ _ _ h
end
section
variable {H : Type} {enc : TypeId × Value → H} {W : World} {m : Nat} {y : DataW H × List MemPlace} {cs : List Value}
theorem trod_by (hl : cs.length = 1) (h : DataW.trod enc Try.prog W 0 (fun _ => true) true m 56 cs = some y) : ∃ (A : Option Addr) (n c : Nat) (zs : List Int), cs = [.slice A n c] ∧ (n ≤ c ∧ Sl W W.heap.size 1 A n (zs.map (.int .u8)) ∧ ByOk zs) :=
  open_by Try.underlying56 Try.underlying5 (by kernel_rfl) hl h
theorem trod_is (hl : cs.length = 1) (h : DataW.trod enc Try.prog W 0 (fun _ => true) true m 27 cs = some y) : ∃ (A : Option Addr) (n c : Nat) (zs : List Int), cs = [.slice A n c] ∧ (n ≤ c ∧ Sl W W.heap.size 1 A n (zs.map (.int .i64)) ∧ I64Ok zs) := by
  match cs, hl with
  | [v], _ =>
    obtain ⟨A, n, c, zs, rfl, _, hsl, hz⟩ := open_slNc (f := fun z : Int => [Value.int .i64 z]) (ok := fun z => (Lit.int .i64 z).wf = true) Try.underlying27 (show Try.prog.cellsOf 3 = 1 by kernel_rfl) (by omega) (fun n cs y h => by
      obtain ⟨z, rfl, _, hz⟩ := DataW.trod_int Try.underlying3 h
      exact ⟨z, rfl, hz⟩) h
    refine ⟨A, n, c, zs, rfl, open_cap Try.underlying27 h, ?_, fun b hb => i64_wf (hz b hb).1⟩
    rw [flat_one] at hsl
    exact hsl
theorem trod_bs (hl : cs.length = 1) (h : DataW.trod enc Try.prog W 0 (fun _ => true) true m 160 cs = some y) : ∃ (A : Option Addr) (n c : Nat) (zs : List Bool), cs = [.slice A n c] ∧ (n ≤ c ∧ Sl W W.heap.size 1 A n (zs.map .bool)) := by
  match cs, hl with
  | [v], _ =>
    obtain ⟨A, n, c, zs, rfl, _, hsl, _⟩ := open_slNc (f := fun z : Bool => [Value.bool z]) (ok := fun _ => True) Try.underlying160 (show Try.prog.cellsOf 4 = 1 by kernel_rfl) (by omega) (rd_bool Try.underlying4) h
    refine ⟨A, n, c, zs, rfl, open_cap Try.underlying160 h, ?_⟩
    rw [flat_one] at hsl
    exact hsl
instance : Inhabited Pc := ⟨⟨none, 0, 0, []⟩⟩
theorem trod_pcs (hl : cs.length = 1) (h : DataW.trod enc Try.prog W 0 (fun _ => true) true m 37 cs = some y) : ∃ (A : Option Addr) (n c : Nat) (ps : List Pc), cs = [.slice A n c] ∧ (n ≤ c ∧ Sl W W.heap.size 1 A n (ps.map Pc.v) ∧ PcsOk W ps ∧ PcsBy ps ∧ ∀ p ∈ ps, Pc.n p ≤ Pc.c p) := by
  match cs, hl with
  | [v], _ =>
    obtain ⟨A, n, c, ps, rfl, _, hsl, hz⟩ := open_slNc (f := fun p : Pc => [p.v]) (ok := fun p => Sl W W.heap.size 1 p.A p.n (p.bs.map (.int .u8)) ∧ ByOk p.bs ∧ p.n ≤ p.c) Try.underlying37 (show Try.prog.cellsOf 56 = 1 by kernel_rfl) (by omega) (fun n cs y h => by
      have hl : cs.length = 1 := by
        rcases open_slice Try.underlying56 h with ⟨hcs, _⟩ | ⟨x, len, cap, m', k, D, Pl, hcs, _⟩
        · rw [hcs]; rfl
        · rw [hcs]; rfl
      obtain ⟨A, n, c, zs, rfl, h0, h1, h2⟩ := trod_by hl h
      exact ⟨⟨A, n, c, zs⟩, rfl, h1, h2, h0⟩) h
    refine ⟨A, n, c, ps, rfl, open_cap Try.underlying37 h, ?_, fun p hp => (hz p hp).1.1, fun p hp => (hz p hp).1.2.1, fun p hp => (hz p hp).1.2.2⟩
    rw [flat_one] at hsl
    exact hsl
end
set_option maxRecDepth 100000 in
theorem open_is {H : Type} {enc : TypeId × Value → H} {W : World} {v : Value} {d : DataW H} {p : List MemPlace} {r : Reach} {b0 : Nat} (hv : Value.okWide Try.prog W r b0 27 v)
    (h : DataW.Trod enc Try.prog W 0 (fun _ => true) true 27 v d p) : ∃ (A : Option Addr) (n c : Nat) (zs : List Int), v = .slice A n c ∧ (n ≤ c ∧ Sl W W.heap.size 1 A n (zs.map (.int .i64)) ∧ I64Ok zs) := by
  obtain ⟨a0, len, cap, rfl⟩ := okWide_slice Try.underlying27 hv
  obtain ⟨fuel, hf⟩ := h
  obtain ⟨A, n, c, zs, e, h1⟩ := trod_is (cs := [Value.slice a0 len cap]) rfl hf
  injection e with e
  exact ⟨A, n, c, zs, e, h1⟩
set_option maxRecDepth 100000 in
theorem open_by2 {H : Type} {enc : TypeId × Value → H} {W : World} {v : Value} {d : DataW H} {p : List MemPlace} {r : Reach} {b0 : Nat} (hv : Value.okWide Try.prog W r b0 56 v)
    (h : DataW.Trod enc Try.prog W 0 (fun _ => true) true 56 v d p) : ∃ (A : Option Addr) (n c : Nat) (zs : List Int), v = .slice A n c ∧ (n ≤ c ∧ Sl W W.heap.size 1 A n (zs.map (.int .u8)) ∧ ByOk zs) := by
  obtain ⟨a0, len, cap, rfl⟩ := okWide_slice Try.underlying56 hv
  obtain ⟨fuel, hf⟩ := h
  obtain ⟨A, n, c, zs, e, h1⟩ := trod_by (cs := [Value.slice a0 len cap]) rfl hf
  injection e with e
  exact ⟨A, n, c, zs, e, h1⟩
set_option maxRecDepth 100000 in
theorem open_bs2 {H : Type} {enc : TypeId × Value → H} {W : World} {v : Value} {d : DataW H} {p : List MemPlace} {r : Reach} {b0 : Nat} (hv : Value.okWide Try.prog W r b0 160 v)
    (h : DataW.Trod enc Try.prog W 0 (fun _ => true) true 160 v d p) : ∃ (A : Option Addr) (n c : Nat) (zs : List Bool), v = .slice A n c ∧ (n ≤ c ∧ Sl W W.heap.size 1 A n (zs.map .bool)) := by
  obtain ⟨a0, len, cap, rfl⟩ := okWide_slice Try.underlying160 hv
  obtain ⟨fuel, hf⟩ := h
  obtain ⟨A, n, c, zs, e, h1⟩ := trod_bs (cs := [Value.slice a0 len cap]) rfl hf
  injection e with e
  exact ⟨A, n, c, zs, e, h1⟩
set_option maxRecDepth 100000 in
theorem open_dgs {H : Type} {enc : TypeId × Value → H} {W : World} {v : Value} {d : DataW H} {p : List MemPlace} {r : Reach} {b0 : Nat} (hv : Value.okWide Try.prog W r b0 23 v)
    (h : DataW.Trod enc Try.prog W 0 (fun _ => true) true 23 v d p) : ∃ ds : List Int, v = .agg (dl ds).toArray ∧ DgOk ds := by
  obtain ⟨cs, rfl⟩ : ∃ cs, v = .agg cs := by
    unfold Value.okWide at hv
    rw [Try.underlying23] at hv
    obtain ⟨cs, hv, _⟩ := hv
    exact ⟨cs, hv⟩
  obtain ⟨fuel, hf⟩ := h
  obtain ⟨ds, he, hok⟩ := trod_dg Try.underlying23 Try.underlying5 (by kernel_rfl) (by kernel_rfl) hf
  refine ⟨ds, ?_, hok⟩
  simp only [Value.cells] at he
  rw [← he]
end Go.Proofs.Ytbclfjdamklbpaa
