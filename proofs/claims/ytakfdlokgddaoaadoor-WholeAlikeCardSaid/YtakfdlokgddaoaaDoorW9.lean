/- A ring in memory: its ledger, and which key a message has. -/
import Derived.Test.YtakfdlokgddaoaaDoorW8
import Derived.Test.YtakfdlokgddaoaaDoorNA
import Derived.Test.YtakfdlokgddaoaaDoorRL
namespace Go.Proofs.YtakfdlokgddaoaaDoor
set_option linter.unusedSimpArgs false
set_option linter.unusedVariables false
open Go.RowKit Go.Maps

def dgK (d : List Int) : Lit := .string (keyBytes (d.map (Lit.int .u8)))
theorem Tryd.deepDg : WideMaps.KeyLaw Tryd.prog 23 := deep_law_laid (by kernel_rfl) (m := 3) (by omega) (of_decide_eq_true (by kernel_rfl)) (by kernel_rfl) (by kernel_rfl)
theorem Tryd.keyedDg : Keyed Tryd.prog 23 := Keyed.of_law Tryd.deepDg
theorem keyType_dg : Tryd.prog.keyType 23 = true := by kernel_rfl
theorem cells_dg : Tryd.prog.cellsOf 23 = 8 := by kernel_rfl
theorem keyOf_dg {d : List Int} (h : DgOk d) : keyOf Tryd.prog 23 (.agg (dl d).toArray) = some (dgK d) := by
  have hsz : ∃ m, Tryd.prog.types.size + 1 = m + 2 := ⟨Tryd.prog.types.size - 1, by have : 2 ≤ Tryd.prog.types.size := of_decide_eq_true (by kernel_rfl); omega⟩
  obtain ⟨m, hm⟩ := hsz
  unfold keyOf
  simp only [Tryd.underlying23]
  rw [if_pos (by rw [keyType_dg]; simp [Value.formed, Tryd.underlying23, cells_dg, dl_len, h.len]), hm]
  simp only [Value.cells]
  simp [lits_dg h, dgK]
theorem dgK_inj {e f : List Int} (he : DgOk e) (hf : DgOk f) (h : dgK e = dgK f) : e = f := by
  have h2 := keyOf_dg hf
  rw [← h] at h2
  have := Tryd.keyedDg.inj (keyOf_dg he) h2
  have := Value.agg.inj this
  exact dl_inj (by simpa using this)
theorem dgK_lit (e : List Int) : WideAt.IsKeyLit (dgK e) := trivial
def ledF : List (List Int) → Nat → DataW Unit → DataW Unit
  | [], _, D => D
  | e :: es, i, D => ledF es (i + 1) (D.put (dgK e) (.lit (.int .i64 i)))
def ledD (es : List (List Int)) : DataW Unit := ledF es 0 (.map [])
theorem ledF_snoc : ∀ (es : List (List Int)) (e : List Int) (i : Nat) (D : DataW Unit), ledF (es ++ [e]) i D = (ledF es i D).put (dgK e) (.lit (.int .i64 ((i + es.length : Nat) : Int)))
  | [], e, i, D => by simp [ledF]
  | x :: es, e, i, D => by
    rw [List.cons_append, ledF, ledF_snoc es e (i + 1), ledF, List.length_cons]
    congr 4; omega
theorem ledD_snoc (es : List (List Int)) (e : List Int) : ledD (es ++ [e]) = (ledD es).put (dgK e) (.lit (.int .i64 (es.length : Int))) := by
  have := ledF_snoc es e 0 (.map []); simpa [ledD] using this
theorem ledF_map : ∀ (es : List (List Int)) (i : Nat) (D : DataW Unit), IsMap D → IsMap (ledF es i D)
  | [], _, _, h => h
  | _e :: es, i, _D, h => ledF_map es (i + 1) _ (h.put _ _)
theorem ledD_map (es : List (List Int)) : IsMap (ledD es) := ledF_map es 0 _ isMap_empty
theorem led_facts (es : List (List Int)) : DsOk es → es.Nodup → ∀ e, DgOk e → Maps.has (ledD es) (dgK e) = decide (e ∈ es) ∧ (e ∈ es → ∀ z, (ledD es).atKey (dgK e) z = .lit (.int .i64 (es.idxOf e : Int))) := by
  induction es using snoc_ind with
  | h0 => intro _ _ e _; exact ⟨rfl, fun h => by simp at h⟩
  | h1 es f ih =>
    intro hok hnd e he
    have hf : DgOk f := hok f (by simp)
    have ih' := ih (fun x hx => hok x (by simp [hx])) (List.nodup_append.1 hnd).1 e he
    have hfn : f ∉ es := fun hm => (List.nodup_append.1 hnd).2.2 f hm f (by simp) rfl
    rw [ledD_snoc]
    by_cases h : e = f
    · subst h
      refine ⟨by rw [has_put_same (ledD_map es) (dgK_lit e)]; simp, fun _ z => ?_⟩
      rw [atKey_put_same (ledD_map es) (dgK_lit e), List.idxOf_append, if_neg hfn]; simp
    · have hne : dgK e ≠ dgK f := fun hk => h (dgK_inj he hf hk)
      refine ⟨by rw [has_put_other hne, ih'.1]; simp [h], fun hm z => ?_⟩
      have hm' : e ∈ es := by simpa [h] using hm
      rw [atKey_put_other hne, ih'.2 hm', List.idxOf_append, if_pos hm']
abbrev LMap (w : World) (b n : Nat) (L : List (List Int)) : Prop := w.ownsMap (H := Unit) Tryd.prog 23 (plainElem Tryd.prog 3) b n (ledD L)
theorem led_look {w : World} {b n : Nat} {L : List (List Int)} {e : List Int} (h : LMap w b n L) (hok : DsOk L) (hnd : L.Nodup) (he : DgOk e) :
    (Instr.lookup 64 (.map (some b)) (.agg (dl e).toArray) true).run Tryd.prog w = .ok (.tuple #[.int .i64 (if e ∈ L then (L.idxOf e : Int) else 0), .bool (decide (e ∈ L))]) w := by
  obtain ⟨v, ps, hrun, hv⟩ := World.ownsMap.look_ok h Tryd.keyedDg Tryd.underlying64 (zeroInt w) (plainElem_int Tryd.underlying3 (by decide)) (keyOf_dg he)
  obtain ⟨c, rfl, hc, _⟩ := plainElem_int_inv Tryd.underlying3 hv
  have hc := congrArg Prod.fst hc
  simp only at hc
  obtain ⟨f1, f2⟩ := led_facts L hok hnd e he
  rw [hrun, f1]
  by_cases hm : e ∈ L
  · rw [f2 hm] at hc
    have hc := (Lit.int.inj (DataW.lit.inj hc)).2
    rw [if_pos hm, ← hc]
  · rw [atKey_of_not_has (by rw [f1]; simp [hm])] at hc
    have hc := (Lit.int.inj (DataW.lit.inj hc)).2
    rw [if_neg hm, ← hc]
theorem led_store {w : World} {b : Nat} {L : List (List Int)} {e : List Int} (h : LMap w b L.length L) (he : DgOk e) (hl : L.length ≤ 65536) :
    ∃ w', (Instr.mapUpdate 64 (.map (some b)) (.agg (dl e).toArray) (.int .i64 (L.length : Int))).run Tryd.prog w = .ok () w' ∧ LMap w' b (L ++ [e]).length (L ++ [e]) ∧ w.grownBy w' (some b) := by
  obtain ⟨w', h1, h2, h3⟩ := World.ownsMap.update h Tryd.keyedDg Tryd.underlying64 (by unfold maxLen; omega) (keyOf_dg he) (plainElem_int (a := (L.length : Int)) Tryd.underlying3 (by
    have h1 : IntKind.i64.min = -9223372036854775808 := by decide
    have h2 : IntKind.i64.max = 9223372036854775807 := by decide
    simp only [Lit.wf, h1, h2, Bool.and_eq_true, decide_eq_true_eq]; omega))
  exact ⟨w', h1, by show World.ownsMap _ _ _ _ _ _ _; rw [ledD_snoc, List.length_append]; exact h2, h3⟩
theorem bs_dw {d : List Int} (h : DgOk d) (w : World) : (Instr.buildSlice 32 1 #[(0, .agg (dl d).toArray)]).run Tryd.prog w = .ok (.slice (some ⟨w.heap.size, 0, none⟩) 1 1) (w.alloc (.cells (dl d).toArray 23)) := by
  obtain ⟨x0, x1, x2, x3, x4, x5, x6, x7, rfl⟩ := list8 d h.len
  kernel_rfl
theorem dg_partsw : ∃ i z, Tryd.prog.info? 23 = some i ∧ i.zero = some z ∧ i.size = 8 ∧ i.bytes = 8 ∧ z.cells.size = 8 := by
  obtain ⟨d0, h1, h2, h3, h4⟩ := info_parts Tryd.infoDg
  exact ⟨d0, _, h1, h2, h3, h4, rfl⟩

/-! ### The ring's cells -/
def rgC (sec : List Int) (h : Int) (tp V m : Value) : List Value := dl sec ++ [.int .i64 h, tp, V, m]
structure RgM (w : World) (g : Nat) (sec : List Int) (h : Int) (tp V m : Value) : Prop where
  r0 : w.rangeAt g 0 (dl sec)
  c8 : w.cell? ⟨g, 8, none⟩ = some (.int .i64 h)
  c9 : w.cell? ⟨g, 9, none⟩ = some tp
  c10 : w.cell? ⟨g, 10, none⟩ = some V
  c11 : w.cell? ⟨g, 11, none⟩ = some m
theorem rg_mem {w : World} {g : Nat} {sec : List Int} {h : Int} {tp V m : Value} {ty : TypeId} (hs : DgOk sec) (hk : Bk w g ty (rgC sec h tp V m)) : RgM w g sec h tp V m := by
  have ls := hs.len
  have h1 : Bk w g ty ([] ++ (dl sec ++ [.int .i64 h, tp, V, m])) := hk
  have h2 : Bk w g ty (dl sec ++ .int .i64 h :: [tp, V, m]) := hk
  have h3 : Bk w g ty ((dl sec ++ [.int .i64 h]) ++ tp :: [V, m]) := by have := hk; simpa [rgC] using this
  have h4 : Bk w g ty ((dl sec ++ [.int .i64 h, tp]) ++ V :: [m]) := by have := hk; simpa [rgC] using this
  have h5 : Bk w g ty ((dl sec ++ [.int .i64 h, tp, V]) ++ m :: []) := by have := hk; simpa [rgC] using this
  exact ⟨h1.range rfl, h2.at1 (by simp [dl_len, ls]), h3.at1 (by simp [dl_len, ls]), h4.at1 (by simp [dl_len, ls]), h5.at1 (by simp [dl_len, ls])⟩

/-- What turns is the ring's alone. -/
structure Chg (w w' : World) (g b : Nat) (V : Value) : Prop where
  os : w'.os = w.os
  tape : w'.tape = w.tape
  output : w'.output = w.output
  size : w.heap.size ≤ w'.heap.size
  blk : ∀ i, i < w.heap.size → i ≠ g → i ≠ b → V.ownBlock ≠ some i → w'.heap[i]? = w.heap[i]?
end Go.Proofs.YtakfdlokgddaoaaDoor
