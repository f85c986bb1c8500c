/- fund.Fund: where it lies, and what its small methods tell: has, Lay, Phase, Back, Given. -/
import Derived.Test.YtfapechlnllfaabA1
import Derived.Test.YtfapechlnllfaabLib2
import Derived.BigRegion
import Derived.Deep.RegionLaw
import Derived.StillTailTactics
namespace Go.Proofs.Ytfapechlnllfaab
open Go.RowKit

theorem Try.infoInt : (Try.prog.info? 3).map (fun i => (i.zero, i.size, i.bytes)) = some (some (.int .i64 0), 1, 8) := by kernel_rfl
theorem Try.infoBool : (Try.prog.info? 4).map (fun i => (i.zero, i.size, i.bytes)) = some (some (.bool false), 1, 1) := by kernel_rfl

/-! ### Arrays of truths, compared -/
def eqB (xs ys : List Bool) : Bool := decide (xs = ys)
theorem all_range_eqB : ∀ (xs ys : List Bool), xs.length = ys.length → ((List.range xs.length).all fun i => xs.getD i false == ys.getD i false) = eqB xs ys
  | [], [], _ => rfl
  | x :: xs, y :: ys, h => by
    have ih := all_range_eqB xs ys (by simpa using h)
    rw [List.length_cons, List.range_succ_eq_map, List.all_cons, List.all_map]
    simp only [List.getD_cons_zero, Function.comp_def, List.getD_cons_succ, ih]
    by_cases hx : x = y <;> simp [eqB, hx]
  | [], _ :: _, h => by simp at h
  | _ :: _, [], h => by simp at h
theorem run_equalIn_bools {P : Program} (d : Nat) (t e : TypeId) (n : Nat) (ht : P.underlying t = some (.array n e)) (he : P.underlying e = some .bool) {i : TypeInfo} (hi : P.info? e = some i) (hsz : i.size = 1)
    (xs ys : List Bool) (hx : xs.length = n) (hy : ys.length = n) (w : World) :
    (Op.equalIn (d + 2) t (.agg (xs.map Value.bool).toArray) (.agg (ys.map Value.bool).toArray)).run P w = .ok (eqB xs ys) w := by
  rw [← all_range_eqB xs ys (hx.trans hy.symm), hx, List.range_eq_range', Op.equalIn]
  have hs : ∀ w, (sizeOf e).run P w = .ok 1 w := fun w => by simp [sizeOf, typeInfo, hi, hsz]
  simp only [Sem.run_bind, run_underlying ht, Result.andThen_ok, hs, Std.Legacy.Range.forIn_eq_forIn_range', Std.Legacy.Range.size, Nat.sub_zero, Nat.add_sub_cancel, Nat.div_one]
  have hl : ∀ i ∈ List.range' 0 n 1, i < n := fun i hi => by simpa using (List.mem_range'_1.1 hi).2
  generalize List.range' 0 n 1 = l at hl ⊢
  induction l with
  | nil => simp
  | cons j l ih =>
    have hj : j < n := hl j (by simp)
    have px : (part e (xs.map Value.bool).toArray (j * 1)).run P w = .ok (.bool (xs.getD j false)) w := by
      simp [part, isAgg, run_underlying he, List.getD, List.getElem?_eq_getElem (show j < xs.length by omega)]
    have py : (part e (ys.map Value.bool).toArray (j * 1)).run P w = .ok (.bool (ys.getD j false)) w := by
      simp [part, isAgg, run_underlying he, List.getD, List.getElem?_eq_getElem (show j < ys.length by omega)]
    have pe : (Op.equalIn (d + 1) e (.bool (xs.getD j false)) (.bool (ys.getD j false))).run P w = .ok (xs.getD j false == ys.getD j false) w := run_equalIn_bool w d e _ _ he
    simp only [List.forIn_cons, Sem.run_bind, px, py, pe, Result.andThen_ok, List.all_cons]
    cases hb : (xs.getD j false == ys.getD j false)
    · simp
    · simp only [Bool.not_true, Bool.false_eq_true, if_false, Sem.run_pure, Result.andThen_ok, Bool.true_and]
      exact ih fun i hi => hl i (by simp [hi])

/-! ### Where a fund lies -/
def fill8I (l : List Int) : List Int := l ++ List.replicate (8 - l.length) 0
def fill8B (d : List Bool) : List Bool := d ++ List.replicate (8 - d.length) false
def fundCells (l : List Int) (d : List Bool) (b : Int) : List Value := .int .i64 (l.length : Nat) :: ((fill8I l).map (.int .i64) ++ ((fill8B d).map .bool ++ [.int .i64 b]))
/-- What New lets in. -/
structure FundOk (l : List Int) (d : List Bool) (b : Int) : Prop where
  n2 : 2 ≤ l.length
  n8 : l.length ≤ 8
  dl : d.length = l.length
  pos : ∀ x ∈ l, 0 < x ∧ x ≤ 1125899906842624
  sum : l.foldr (· + ·) 0 ≤ 1125899906842624
  b0 : 0 ≤ b
  b1 : b ≤ 1099511627776
structure FundAt (w : World) (g : Nat) (l : List Int) (d : List Bool) (b : Int) : Prop where
  bk : Bk w g 64 (fundCells l d b)
  ok : FundOk l d b
theorem fill8I_len {l : List Int} (h : l.length ≤ 8) : (fill8I l).length = 8 := by simp [fill8I]; omega
theorem fill8B_len {d : List Bool} (h : d.length ≤ 8) : (fill8B d).length = 8 := by simp [fill8B]; omega
theorem fill8I_get {l : List Int} {i : Nat} {x : Int} (h : l[i]? = some x) : (fill8I l)[i]? = some x := by
  obtain ⟨hl, rfl⟩ := List.getElem?_eq_some_iff.1 h
  rw [fill8I, List.getElem?_append_left hl]; exact h
theorem fill8B_get {l : List Bool} {i : Nat} {x : Bool} (h : l[i]? = some x) : (fill8B l)[i]? = some x := by
  obtain ⟨hl, rfl⟩ := List.getElem?_eq_some_iff.1 h
  rw [fill8B, List.getElem?_append_left hl]; exact h
theorem fill8B_set {d : List Bool} {i : Nat} (h : i < d.length) (u : Bool) : fill8B (d.set i u) = (fill8B d).set i u := by
  simp [fill8B, List.set_append, h]
section
variable {w w' : World} {g : Nat} {l : List Int} {d : List Bool} {b : Int}
theorem fundCells_0 : (fundCells l d b)[0]? = some (.int .i64 (l.length : Nat)) := rfl
theorem fundCells_st (h : l.length ≤ 8) {i : Nat} {x : Int} (hx : l[i]? = some x) : (fundCells l d b)[1 + i]? = some (.int .i64 x) := by
  have h1 := fill8I_get hx
  have h2 := fill8I_len h
  have h3 : i < 8 := by have := (List.getElem?_eq_some_iff.1 hx).1; omega
  rw [Nat.add_comm, fundCells, List.getElem?_cons_succ, List.getElem?_append_left (by simp [h2]; omega)]
  simp [h1]
theorem fundCells_ld (h : l.length ≤ 8) (hd : d.length = l.length) {i : Nat} {x : Bool} (hx : d[i]? = some x) : (fundCells l d b)[9 + i]? = some (.bool x) := by
  have h1 := fill8B_get hx
  have h2 := fill8I_len h
  have h4 := fill8B_len (d := d) (by omega)
  have h3 : i < 8 := by have := (List.getElem?_eq_some_iff.1 hx).1; omega
  have e : 9 + i = (8 + i) + 1 := by omega
  rw [e, fundCells, List.getElem?_cons_succ, List.getElem?_append_right (by simp [h2]), List.getElem?_append_left (by simp [h2, h4]; omega)]
  simp [h1, h2]
theorem fundCells_by (h : l.length ≤ 8) (hd : d.length = l.length) : (fundCells l d b)[17]? = some (.int .i64 b) := by
  have h2 := fill8I_len h
  have h4 := fill8B_len (d := d) (by omega)
  rw [fundCells, List.getElem?_cons_succ, List.getElem?_append_right (by simp [h2]), List.getElem?_append_right (by simp [h2, h4])]
  simp [h2, h4]
theorem FundAt.c0 (h : FundAt w g l d b) : w.cell? ⟨g, 0, none⟩ = some (.int .i64 (l.length : Nat)) := by rw [h.bk.cell]; rfl
theorem FundAt.cs (h : FundAt w g l d b) {i : Nat} {x : Int} (hx : l[i]? = some x) : w.cell? ⟨g, 1 + i, none⟩ = some (.int .i64 x) := by rw [h.bk.cell]; exact fundCells_st h.ok.n8 hx
theorem FundAt.cl (h : FundAt w g l d b) {i : Nat} {x : Bool} (hx : d[i]? = some x) : w.cell? ⟨g, 9 + i, none⟩ = some (.bool x) := by rw [h.bk.cell]; exact fundCells_ld h.ok.n8 h.ok.dl hx
theorem FundAt.cb (h : FundAt w g l d b) : w.cell? ⟨g, 17, none⟩ = some (.int .i64 b) := by rw [h.bk.cell]; exact fundCells_by h.ok.n8 h.ok.dl
theorem FundAt.fr (h : FundAt w g l d b) (i : Nat) : w.frozen? ⟨g, i, none⟩ = false := h.bk.frozen i
theorem FundAt.lt (h : FundAt w g l d b) : g < w.heap.size := h.bk.lt
theorem FundAt.later (h : FundAt w g l d b) (hb : Below w.heap.size w w') : FundAt w' g l d b := ⟨h.bk.later hb, h.ok⟩
theorem FundAt.grown (h : FundAt w g l d b) {row : Option Nat} (hb : w.grownBy w' row) (hg : some g ≠ row) : FundAt w' g l d b := ⟨h.bk.grown hb hg, h.ok⟩
theorem FundAt.drewN (h : FundAt w g l d b) (n : Nat) : FundAt (w.drewN n) g l d b := ⟨h.bk.drewN n, h.ok⟩
theorem FundAt.put (h : FundAt w g l d b) {i : Nat} (hi : i < l.length) (u : Bool) : FundAt (w.setCell ⟨g, 9 + i, none⟩ (.bool u)) g l (d.set i u) b := by
  refine ⟨?_, h.ok.n2, h.ok.n8, by simpa using h.ok.dl, h.ok.pos, h.ok.sum, h.ok.b0, h.ok.b1⟩
  have h1 := h.bk.set_ (9 + i) (.bool u)
  have h2 := fill8I_len h.ok.n8
  have h4 := fill8B_len (d := d) (by have := h.ok.dl; have := h.ok.n8; omega)
  have h5 : i < d.length := by have := h.ok.dl; omega
  have e : 9 + i = (8 + i) + 1 := by omega
  have h6 := h.ok.n8
  have h7 : (8 + i) - 8 = i := by omega
  have h8 : ¬ (8 + i < 8) := by omega
  have h9 : i < 8 := by omega
  rw [e] at h1
  rw [fundCells, List.set_cons_succ, List.set_append, List.length_map, h2, if_neg h8, h7, List.set_append, List.length_map, h4, if_pos h9, ← List.map_set, ← fill8B_set h5] at h1
  rw [e]
  exact h1
end

theorem pair_nn {n : Nat} {x : Int} (h0 : 0 ≤ x) (h : x < n) : ∃ i : Nat, x = i ∧ i < n := ⟨x.toNat, by omega, by omega⟩

def hasB (l : List Int) (seat : Int) : Bool := decide (0 ≤ seat) && decide (seat < (l.length : Nat))
theorem has_any (w : World) (g : Nat) (l : List Int) (d : List Bool) (b : Int) (h : FundAt w g l d b) (seat : Int) :
    Calls Try.prog 28 #[.pointer (some ⟨g, 0, none⟩), .int .i64 seat] w fun e w' => e = .returned (.bool (hasB l seat)) ∧ w = w' := by
  have h0 := h.c0
  go_enter Try.func28, Try.ntmps28
  go_wp2_with fail
  all_goals
    go_ret
    go_light
    exact ⟨by simp_all [hasB] <;> omega, rfl⟩
end Go.Proofs.Ytfapechlnllfaab
