/- What came in: blocks and transactions of the document's; what is laid is met. -/
import Derived.Test.YtbpmomedhdmloaaDoorFrame2
import Derived.Test.YtbpmomedhdmloaaDoorB5
import Derived.ProofKit
import Derived.LaidMore
import Derived.OpenShut
import Derived.Stop.Joined
import Derived.SizedLaws
namespace Go.Proofs.YtbpmomedhdmloaaDoor
set_option linter.unusedSimpArgs false
set_option linter.unusedVariables false
set_option linter.constructorNameAsVariable false
open Go.ChangeShapes Go.WideShapes Go.ChangeAt Go.RowKit Go.Deep

def tlaid : List (String × DataW Unit) := Rows.blockFeesRow.laid
theorem door_met (os : Os) (args : Array Value) : laidMetH Tryd.prog tlaid ((World.doorLaid Tryd.prog 400 os).forCall (fun _ _ => 0) ⟨#[], args, []⟩).memory :=
  laidMetH_of_parts3 (fuel := 8) (laidMet_of_run' 8 (by kernel_rfl) (by kernel_rfl)) (by kernel_rfl) (by kernel_rfl)

theorem u8_wf {z : Int} (h : (Lit.int .u8 z).wf = true) : 0 ≤ z ∧ z < 256 := by
  simp [Lit.wf, IntKind.min, IntKind.max, IntKind.signed, IntKind.bits] at h; omega
/-- A digest that came in. -/
theorem rd_dg {H : Type} {enc : TypeId × Value → H} {P : Program} {W : World} {e u : TypeId} (he : P.underlying e = some (.array 8 u)) (hu : P.underlying u = some (.int .u8)) (hc : P.cellsOf e = 8) (hc1 : P.cellsOf u = 1) :
    RdAs enc P W e (fun ds : List Int => ds.map (Value.int .u8)) DgOk := by
  intro n cs y h
  obtain ⟨xs, m, _, _, hlen, hxl, hf⟩ := DataW.trod_array he h
  rw [hc] at hlen
  rw [hc1] at hf
  obtain ⟨F, hF⟩ := choose_lt (n := 8) (p := fun i (z : Int) => cs[i]? = some (.int .u8 z) ∧ (Lit.int .u8 z).wf = true) (fun i hi => by
    have h1 := hf i hi
    rw [Nat.mul_one, List.getElem?_eq_getElem (by omega)] at h1
    obtain ⟨z, e1, _, w1⟩ := DataW.trod_int hu h1
    refine ⟨z, ?_, w1⟩
    have := congrArg (·[0]?) e1
    simpa [List.getElem?_take, List.getElem?_drop] using this)
  refine ⟨(List.range 8).map F, List.ext_getElem? fun i => ?_, by simp, fun b hb => ?_⟩
  · by_cases hi : i < 8
    · rw [(hF i hi).1]; simp [hi]
    · rw [List.getElem?_eq_none (by omega), List.getElem?_eq_none (by simp; omega)]
  · obtain ⟨i, hi, rfl⟩ := List.mem_map.1 hb
    exact u8_wf (hF i (List.mem_range.1 hi)).2
theorem open_cap {H : Type} {enc : TypeId × Value → H} {P : Program} {W : World} {t e : TypeId} {fuel : Nat} {y : DataW H × List MemPlace} {A : Option Addr} {n c : Nat}
    (ht : P.underlying t = some (.slice e)) (hf : DataW.trod enc P W 0 (fun _ => true) true fuel t [.slice A n c] = some y) : n ≤ c := by
  rcases open_slice ht hf with ⟨hcs, _⟩ | ⟨x, len, cap, m', k, D, Pl, hcs, _, hl, _, _, _, _⟩
  · simp at hcs; omega
  · simp at hcs; omega
theorem part_at (l : List Value) (a b : Nat) : l.drop a = (l.drop a).take b ++ l.drop (a + b) := by rw [← List.drop_drop, List.take_append_drop]
/-- Bytes that came in. -/
theorem open_by {H : Type} {enc : TypeId × Value → H} {P : Program} {W : World} {s u : TypeId} {fuel : Nat} {y : DataW H × List MemPlace} {cs : List Value}
    (hs : P.underlying s = some (.slice u)) (hu : P.underlying u = some (.int .u8)) (hc1 : P.cellsOf u = 1) (hl : cs.length = 1) (hf : DataW.trod enc P W 0 (fun _ => true) true fuel s cs = some y) :
    ∃ (A : Option Addr) (n c : Nat) (zs : List Int), cs = [.slice A n c] ∧ n ≤ c ∧ Sl W W.heap.size 1 A n (zs.map (.int .u8)) ∧ ByOk zs := by
  match cs, hl with
  | [v], _ =>
    obtain ⟨A, n, c, zs, rfl, _, hsl, hz⟩ := open_slNc (f := fun z : Int => [Value.int .u8 z]) (ok := fun z => (Lit.int .u8 z).wf = true) hs hc1 (by omega) (fun n cs y h => by
      obtain ⟨z, rfl, _, hz⟩ := DataW.trod_int hu h
      exact ⟨z, rfl, hz⟩) hf
    refine ⟨A, n, c, zs, rfl, open_cap hs hf, ?_, fun b hb => u8_wf (hz b hb).1⟩
    rw [flat_one] at hsl
    exact hsl

theorem i64_wf {z : Int} (h : (Lit.int .i64 z).wf = true) : -9223372036854775808 ≤ z ∧ z < 9223372036854775808 := by
  simp [Lit.wf, IntKind.min, IntKind.max, IntKind.signed, IntKind.bits] at h; omega
theorem slice_reach {H : Type} {enc : TypeId × Value → H} {P : Program} {W : World} {t e : TypeId} {fuel n c : Nat} {A : Option Addr} {y : DataW H × List MemPlace} (ht : P.underlying t = some (.slice e))
    (hf : DataW.trod enc P W 0 (fun _ => true) true fuel t [.slice A n c] = some y) (hw : ∀ q ∈ y.1.weights P t, q ≤ reachBytes) : n * P.bytesOf e ≤ reachBytes := by
  rcases open_slice ht hf with ⟨hcs, _⟩ | ⟨x, len, cap, m', k, D, Pl, hcs, _, hl, hmx, hmm, rfl, hx⟩
  · simp at hcs
    obtain ⟨_, rfl, _⟩ := hcs
    simp
  · simp at hcs
    obtain ⟨_, rfl, _⟩ := hcs
    have h1 := hw ((n + (m' - n)) * P.bytesOf e) (by simp [DataW.weights, ht])
    exact Nat.le_trans (Nat.mul_le_mul_right _ (by omega)) h1
theorem weights_all {H : Type} {P : Program} {e : TypeId} : ∀ {l : List (DataW H)} {d : DataW H}, d ∈ l → ∀ q ∈ d.weights P e, q ∈ DataW.weightsAll P e l
  | x :: l, d, hd, q, hq => by
    unfold DataW.weightsAll
    rcases List.mem_cons.1 hd with rfl | hd
    · exact List.mem_append_left _ hq
    · exact List.mem_append_right _ (weights_all hd q hq)
/-- Every reading of type e whose parts are no greater than the form's reach. -/
def RdW {H : Type} (enc : TypeId × Value → H) (P : Program) (W : World) (e : TypeId) {α : Type} (f : α → List Value) (ok : α → Prop) : Prop :=
  ∀ (n : Nat) (cs : List Value) (y : DataW H × List MemPlace), DataW.trod enc P W 0 (fun _ => true) true n e cs = some y → (∀ q ∈ y.1.weights P e, q ≤ reachBytes) → ∃ a, cs = f a ∧ ok a
theorem open_slW {H : Type} {enc : TypeId × Value → H} {P : Program} {W : World} {t e : TypeId} {v : Value} {fuel : Nat} {y : DataW H × List MemPlace} {α : Type} [Inhabited α] {f : α → List Value} {ok : α → Prop} {m : Nat}
    (ht : P.underlying t = some (.slice e)) (hm : P.cellsOf e = m) (hpos : 0 < m) (hrd : RdW enc P W e f ok)
    (hf : DataW.trod enc P W 0 (fun _ => true) true fuel t [v] = some y) (hw : ∀ q ∈ y.1.weights P t, q ≤ reachBytes) :
    ∃ (A : Option Addr) (n c : Nat) (zs : List α), v = .slice A n c ∧ zs.length = n ∧ n ≤ c ∧ Sl W W.heap.size m A n (zs.flatMap f) ∧ ∀ z ∈ zs, ok z ∧ (f z).length = m := by
  rcases open_slice ht hf with ⟨hcs, _⟩ | ⟨x, len, cap, m', n, D, Pl, hcs, _, hl, hmx, hmm, hy, hx⟩
  · simp at hcs
    subst hcs
    exact ⟨none, 0, 0, [], rfl, rfl, Nat.le_refl _, Sl.nil, by simp⟩
  · simp at hcs
    subst hcs
    rw [hm] at hx
    have hlm : len ≤ m' := by simp at hmm; omega
    have hwt : ∀ i, i < len → ∀ q ∈ (D i).weights P e, q ≤ reachBytes := fun i hi q hq => hw q (by
      rw [hy]
      simp only [DataW.weights, ht]
      have h1 := weights_all (l := (List.range len).map D) (List.mem_map.2 ⟨i, List.mem_range.2 hi, rfl⟩) q hq
      simp only [List.mem_cons, List.mem_append]
      exact Or.inr (Or.inl h1))
    obtain ⟨F, hF⟩ := choose_lt (n := len) (p := fun i a => (∀ j, j < m → W.cell? (x.add (i * m + j)) = (f a)[j]?) ∧ ok a ∧ (f a).length = m) (fun i hi => by
      obtain ⟨cs', h1, h2⟩ := hx i (by omega)
      obtain ⟨_, h3, h4⟩ := World.cells?_some h1
      obtain ⟨a, rfl, h5⟩ := hrd _ _ _ h2 (hwt i hi)
      exact ⟨a, fun j hj => by rw [← h4 j hj, add_add'], h5, h3⟩)
    have hlen : ∀ z ∈ (List.range len).map F, (f z).length = m := fun z hz => by
      obtain ⟨i, hi, rfl⟩ := List.mem_map.1 hz
      exact (hF i (List.mem_range.1 hi)).2.2
    refine ⟨_, len, cap, (List.range len).map F, rfl, by simp, hl, ⟨by rw [flat_len _ hlen]; simp, by unfold maxLen at hmx; omega, fun hn => ⟨x, rfl, ?_, fun j u hu => ?_⟩⟩, fun z hz => ?_⟩
    · have h1 := (hF 0 hn).1 0 hpos
      have h2 := (hF 0 hn).2.2
      rw [List.getElem?_eq_getElem (by omega)] at h1
      have := cell_lt h1; rwa [add_block] at this
    · have hjl : j < len * m := by
        have := (List.getElem?_eq_some_iff.1 hu).1; rw [flat_len _ hlen] at this; simpa using this
      have e : j = j / m * m + j % m := by rw [Nat.mul_comm]; exact (Nat.div_add_mod j m).symm
      have hi : j / m < len := (Nat.div_lt_iff_lt_mul hpos).2 hjl
      have hr : j % m < m := Nat.mod_lt _ hpos
      rw [e, flat_get _ hlen (j / m) (j % m) (F (j / m)) (by simp [hi]) hr] at hu
      rw [e, (hF _ hi).1 _ hr, hu]
    · obtain ⟨i, hi, rfl⟩ := List.mem_map.1 hz
      exact (hF i (List.mem_range.1 hi)).2
instance : Inhabited TxT := ⟨⟨[], 0, 0, 0, [], []⟩⟩
def txIn (W : World) (x : List Value × TxT) : Prop := Txg W x.1 x.2 ∧ x.2.b.length ≤ 140737488355328 ∧ x.2.s.length ≤ 140737488355328
set_option maxRecDepth 100000 in
theorem rd_tx {H : Type} {enc : TypeId × Value → H} {W : World} : RdW enc Tryd.prog W 42 (fun x : List Value × TxT => x.1) (txIn W) := by
  intro fuel cs y hf hw
  obtain ⟨xs, m, _, hdx, hlen, hxl, hg⟩ := DataW.trod_struct Tryd.underlying42 hf
  have hl13 : cs.length = 13 := by rw [hlen]; kernel_rfl
  match xs, hxl with
  | [y0, y1, y2, y3, y4, y5], _ =>
    have g0 : DataW.trod enc Tryd.prog W 0 (fun _ => true) true m 22 (List.take (Tryd.prog.cellsOf 22) (List.drop 0 cs)) = some y0 := hg 0 _ rfl
    have g1 : DataW.trod enc Tryd.prog W 0 (fun _ => true) true m 3 (List.take (Tryd.prog.cellsOf 3) (List.drop 8 cs)) = some y1 := hg 1 _ rfl
    have g2 : DataW.trod enc Tryd.prog W 0 (fun _ => true) true m 3 (List.take (Tryd.prog.cellsOf 3) (List.drop 9 cs)) = some y2 := hg 2 _ rfl
    have g3 : DataW.trod enc Tryd.prog W 0 (fun _ => true) true m 3 (List.take (Tryd.prog.cellsOf 3) (List.drop 10 cs)) = some y3 := hg 3 _ rfl
    have g4 : DataW.trod enc Tryd.prog W 0 (fun _ => true) true m 40 (List.take (Tryd.prog.cellsOf 40) (List.drop 11 cs)) = some y4 := hg 4 _ rfl
    have g5 : DataW.trod enc Tryd.prog W 0 (fun _ => true) true m 40 (List.take (Tryd.prog.cellsOf 40) (List.drop 12 cs)) = some y5 := hg 5 _ rfl
    have ci : Tryd.prog.cellsOf 3 = 1 := by kernel_rfl
    have cd : Tryd.prog.cellsOf 22 = 8 := by kernel_rfl
    have cb : Tryd.prog.cellsOf 40 = 1 := by kernel_rfl
    have cu : Tryd.prog.cellsOf 5 = 1 := by kernel_rfl
    rw [ci] at g1 g2 g3
    rw [cd] at g0
    rw [cb] at g4 g5
    obtain ⟨f, e0, h0⟩ := rd_dg Tryd.underlying22 Tryd.underlying5 cd cu _ _ _ g0
    obtain ⟨n, e1, _, hn⟩ := DataW.trod_int Tryd.underlying3 g1
    obtain ⟨e, e2, _, he⟩ := DataW.trod_int Tryd.underlying3 g2
    obtain ⟨k, e3, _, hk⟩ := DataW.trod_int Tryd.underlying3 g3
    obtain ⟨A, N, C, bs, e4, hc4, h4, h4'⟩ := open_by Tryd.underlying40 Tryd.underlying5 cu (by rw [List.length_take, List.length_drop]; omega) g4
    obtain ⟨B, M, D, ss, e5, hc5, h5, h5'⟩ := open_by Tryd.underlying40 Tryd.underlying5 cu (by rw [List.length_take, List.length_drop]; omega) g5
    have hd : y.1 = .agg [y0.1, y1.1, y2.1, y3.1, y4.1, y5.1] := by have := congrArg Prod.fst hdx; simpa using this
    have bu : Tryd.prog.bytesOf 5 = 1 := by kernel_rfl
    rw [e4] at g4
    rw [e5] at g5
    have hr4 := slice_reach Tryd.underlying40 g4 (fun q hq => hw q (by rw [hd]; simp [DataW.weights, Tryd.underlying42, DataW.weightsEach, hq]))
    have hr5 := slice_reach Tryd.underlying40 g5 (fun q hq => hw q (by rw [hd]; simp [DataW.weights, Tryd.underlying42, DataW.weightsEach, hq]))
    rw [bu] at hr4 hr5
    have hrb : reachBytes = 140737488351232 := rfl
    refine ⟨(cs, ⟨f, n, e, k, bs, ss⟩), rfl, ⟨⟨A, B, N, C, M, D, ?_, h4, h5, hc4, hc5⟩, h0, h4', h5', i64_wf hn, i64_wf he, i64_wf hk⟩, by show bs.length ≤ _; rw [h4.length]; omega, by show ss.length ≤ _; rw [h5.length]; omega⟩
    show cs = txC _ _ _
    rw [show cs = cs.drop 0 from rfl, part_at cs 0 8, e0, part_at cs (0 + 8) 1, e1, part_at cs (0 + 8 + 1) 1, e2, part_at cs (0 + 8 + 1 + 1) 1, e3, part_at cs (0 + 8 + 1 + 1 + 1) 1, e4, part_at cs (0 + 8 + 1 + 1 + 1 + 1) 1, e5, List.drop_of_length_le (by omega)]
    simp [txC, dl]
set_option maxRecDepth 100000 in
theorem open_tx {H : Type} {enc : TypeId × Value → H} {W : World} {v : Value} {d : DataW H} {p : List MemPlace} {r : Reach} {b0 : Nat} (hv : Value.okWide Tryd.prog W r b0 42 v)
    (h : DataW.Trod enc Tryd.prog W 0 (fun _ => true) true 42 v d p) (hw : ∀ q ∈ d.weights Tryd.prog 42, q ≤ reachBytes) :
    ∃ (ct : List Value) (t : TxT), v = .agg ct.toArray ∧ txIn W (ct, t) := by
  obtain ⟨cs, rfl, _⟩ := okWide_struct Tryd.underlying42 hv
  obtain ⟨fuel, hf⟩ := h
  simp only [Value.cells] at hf
  obtain ⟨⟨ct, t⟩, e, h1⟩ := rd_tx _ _ _ hf hw
  refine ⟨ct, t, ?_, h1⟩
  have e : cs.toList = ct := e
  rw [← e]
set_option maxRecDepth 100000 in
theorem open_blk {H : Type} {enc : TypeId × Value → H} {W : World} {v : Value} {d : DataW H} {p : List MemPlace} {r : Reach} {b0 : Nat} (hv : Value.okWide Tryd.prog W r b0 25 v)
    (h : DataW.Trod enc Tryd.prog W 0 (fun _ => true) true 25 v d p) (hw : ∀ q ∈ d.weights Tryd.prog 25, q ≤ reachBytes) :
    ∃ (pa : List Int) (hi : Int) (mk : List Int) (A : Option Addr) (N C : Nat) (xs : List (List Value × TxT)), v = .agg (bkC pa hi mk (.slice A N C)).toArray ∧ DgOk pa ∧ DgOk mk ∧ (-9223372036854775808 ≤ hi ∧ hi < 9223372036854775808) ∧ N ≤ C ∧ Txs W A N xs ∧ ∀ x ∈ xs, x.2.b.length ≤ 140737488355328 ∧ x.2.s.length ≤ 140737488355328 := by
  obtain ⟨cs, rfl, _⟩ := okWide_struct Tryd.underlying25 hv
  obtain ⟨fuel, hf⟩ := h
  simp only [Value.cells] at hf
  obtain ⟨xs, m, _, hdx, hlen, hxl, hg⟩ := DataW.trod_struct Tryd.underlying25 hf
  have hl18 : cs.toList.length = 18 := by rw [hlen]; kernel_rfl
  match xs, hxl with
  | [y0, y1, y2, y3], _ =>
    have g0 : DataW.trod enc Tryd.prog W 0 (fun _ => true) true m 22 (List.take (Tryd.prog.cellsOf 22) (List.drop 0 cs.toList)) = some y0 := hg 0 _ rfl
    have g1 : DataW.trod enc Tryd.prog W 0 (fun _ => true) true m 3 (List.take (Tryd.prog.cellsOf 3) (List.drop 8 cs.toList)) = some y1 := hg 1 _ rfl
    have g2 : DataW.trod enc Tryd.prog W 0 (fun _ => true) true m 22 (List.take (Tryd.prog.cellsOf 22) (List.drop 9 cs.toList)) = some y2 := hg 2 _ rfl
    have g3 : DataW.trod enc Tryd.prog W 0 (fun _ => true) true m 23 (List.take (Tryd.prog.cellsOf 23) (List.drop 17 cs.toList)) = some y3 := hg 3 _ rfl
    have ci : Tryd.prog.cellsOf 3 = 1 := by kernel_rfl
    have cd : Tryd.prog.cellsOf 22 = 8 := by kernel_rfl
    have cb : Tryd.prog.cellsOf 23 = 1 := by kernel_rfl
    have cu : Tryd.prog.cellsOf 5 = 1 := by kernel_rfl
    rw [ci] at g1
    rw [cd] at g0 g2
    rw [cb] at g3
    obtain ⟨pa, e0, h0⟩ := rd_dg Tryd.underlying22 Tryd.underlying5 cd cu _ _ _ g0
    obtain ⟨hi, e1, _, h1⟩ := DataW.trod_int Tryd.underlying3 g1
    obtain ⟨mk, e2, h2⟩ := rd_dg Tryd.underlying22 Tryd.underlying5 cd cu _ _ _ g2
    obtain ⟨v3, e3⟩ : ∃ v, List.take 1 (List.drop 17 cs.toList) = [v] := by
      have hl : (List.take 1 (List.drop 17 cs.toList)).length = 1 := by rw [List.length_take, List.length_drop]; omega
      match List.take 1 (List.drop 17 cs.toList), hl with
      | [v], _ => exact ⟨v, rfl⟩
    rw [e3] at g3
    have hd : d = .agg [y0.1, y1.1, y2.1, y3.1] := by have := congrArg Prod.fst hdx; simpa using this
    obtain ⟨A, N, C, zs, rfl, hl, hc, hs, hz⟩ := open_slW (m := 13) Tryd.underlying23 (by kernel_rfl) (by omega) rd_tx g3 (fun q hq => hw q (by rw [hd]; simp [DataW.weights, Tryd.underlying25, DataW.weightsEach, hq]))
    refine ⟨pa, hi, mk, A, N, C, zs, ?_, h0, h2, i64_wf h1, hc, ⟨by rw [← List.flatMap_def]; exact hs, fun x hx => (hz x hx).1.1⟩, fun x hx => (hz x hx).1.2⟩
    have hce : cs.toList = bkC pa hi mk (.slice A N C) := by
      rw [show cs.toList = cs.toList.drop 0 from rfl, part_at cs.toList 0 8, e0, part_at cs.toList (0 + 8) 1, e1, part_at cs.toList (0 + 8 + 1) 8, e2, part_at cs.toList (0 + 8 + 1 + 8) 1, e3, List.drop_of_length_le (by omega)]
      simp [bkC, dl]
    rw [← hce]
end Go.Proofs.YtbpmomedhdmloaaDoor
