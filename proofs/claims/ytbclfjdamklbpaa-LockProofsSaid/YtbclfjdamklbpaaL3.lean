/- How locks are opened: the table of their kinds. -/
import Derived.Test.YtbclfjdamklbpaaL2
import Derived.WideMake
namespace Go.Proofs.Ytbclfjdamklbpaa
set_option linter.unusedSimpArgs false
set_option linter.unusedVariables false
open Go.RowKit Go.Maps

section
variable {P : Program} {w : World}
theorem run_upd_int (mty kt et : TypeId) (r clock : Nat) (k : Int) (val : Value) {es : Array MapEntry} (hm : P.underlying mty = some (.map kt et)) (hk : P.underlying kt = some (.int .i64)) (hb : w.heap[r]? = some (.map es clock)) (hf : Instr.findNow (.int .i64) (.int .i64 k) es.toList 0 = some none) :
    (Instr.mapUpdate mty (.map (some r)) (.int .i64 k) val).run P w = .ok () { w with heap := w.heap.setIfInBounds r (.map (es.push { key := .int .i64 k, val := val, born := clock }) (clock + 1)) } := by
  have hc : (Instr.checkKey false 10000 kt (.int .i64 k)).run P w = .ok () w := MapKept.run_checkKey (k := .int .i64 k) hk (by simp [MapKept.IsKey]) false 9999
  simp [Instr.mapUpdate, run_underlying hm, MapKept.run_getObj_map hb, hc, MapKept.run_findKey hk hf, MapKept.run_setObj_map _ hb, Result.andThen]
theorem run_look_int (mty kt et : TypeId) (r clock : Nat) (k : Int) {es : Array MapEntry} {i : Nat} {v : Value} (hm : P.underlying mty = some (.map kt et)) (hk : P.underlying kt = some (.int .i64)) (hb : w.heap[r]? = some (.map es clock)) (hf : Instr.findNow (.int .i64) (.int .i64 k) es.toList 0 = some (some (i, v))) :
    (Instr.lookup mty (.map (some r)) (.int .i64 k) false).run P w = .ok v w := by
  have hc : (Instr.checkKey es.isEmpty 10000 kt (.int .i64 k)).run P w = .ok () w := MapKept.run_checkKey (k := .int .i64 k) hk (by simp [MapKept.IsKey]) _ 9999
  simp [Instr.lookup, run_underlying hm, MapKept.run_getObj_map hb, hc, MapKept.run_findKey hk hf, Result.andThen]
theorem wpList_ins {ops : Array Oper} {rest : List Oper} {o : Oper} {a : Act} {Q : Exit → Act → World → Prop} (hgd : o.guard = none) (t : TypeId) (m x v : Operand) (ho : o.op = .insert t m x v) (M X V : Value) (hm : a.eval m = M) (hx : a.eval x = X) (hv : a.eval v = V) (w' : World)
    (hb : (Instr.mapUpdate t M X V).run P w = .ok () w') (h : wpList P ops Q rest (a.put o.dst undef) w') : wpList P ops Q (o :: rest) a w :=
  wpList_plain hgd fun _ hK => by
    unfold Oper.wp
    simp [execOp, ho, hm, hx, hv, hb, Result.andThen]
    exact hK _ _ h
theorem wp_look {o : Oper} {a : Act} {K : Act → World → Prop} {Q : Exit → Act → World → Prop} (t : TypeId) (m x : Operand) (ok : Bool) (ho : o.op = .lookup t m x ok) (M X V : Value) (hm : a.eval m = M) (hx : a.eval x = X)
    (hb : (Instr.lookup t M X ok).run P w = .ok V w) (h : K (a.put o.dst V) w) : o.wp P a w K Q := by
  unfold Oper.wp
  simp [execOp, ho, hm, hx, hb, Result.andThen]
  exact h
end
def opsE : Array MapEntry := #[{ key := .int .i64 0, val := .func (.func 69) #[] #[], born := 0 }, { key := .int .i64 1, val := .func (.func 70) #[] #[], born := 1 }]
def OpsAt (w : World) (b : Nat) : Prop := w.heap[b]? = some (.map opsE 2)
theorem OpsAt.look0 {w : World} {b : Nat} (h : OpsAt w b) : (Instr.lookup 87 (.map (some b)) (.int .i64 0) false).run Try.prog w = .ok (.func (.func 69) #[] #[]) w :=
  run_look_int _ 3 86 b 2 0 (i := 0) Try.underlying87 Try.underlying3 h rfl
theorem OpsAt.look1 {w : World} {b : Nat} (h : OpsAt w b) : (Instr.lookup 87 (.map (some b)) (.int .i64 1) false).run Try.prog w = .ok (.func (.func 70) #[] #[]) w :=
  run_look_int _ 3 86 b 2 1 (i := 1) Try.underlying87 Try.underlying3 h rfl
theorem map_set {w w1 : World} {b : Nat} {o o' : Obj} (hb : w1.heap[b]? = some o) (hB : Below w.heap.size w w1) (hg : w.heap.size ≤ b) : Below w.heap.size w { w1 with heap := w1.heap.setIfInBounds b o' } :=
  hB.grown (row := some b) ⟨rfl, rfl, rfl, by simp, fun k hk hne => by simp [show b ≠ k from fun e => hne (by rw [e])]⟩ hB.size (fun q hq => by injection hq with hq; omega)
theorem new_at (w : World) (o : Obj) : (w.alloc o).heap[w.heap.size]? = some o := by
  show (w.heap.push o)[w.heap.size]? = some o
  rw [Array.getElem?_push_size]
set_option maxRecDepth 20000 in
theorem openers_any (w : World) : Calls Try.prog 38 #[] w fun e w' => (∃ b, e = .returned (.map (some b)) ∧ OpsAt w' b) ∧ Below w.heap.size w w' := by
  have hmm := @run_makeMap Try.prog
  have hb1 : Below w.heap.size w (w.alloc (.map #[] 0)) := below_new w _
  have h1 := new_at w (.map #[] 0)
  have hu0 := run_upd_int (w := w.alloc (.map #[] 0)) 87 3 86 w.heap.size 0 0 (.func (.func 69) #[] #[]) Try.underlying87 Try.underlying3 h1 rfl
  obtain ⟨w2, hw2⟩ : ∃ w2, { (w.alloc (.map #[] 0)) with heap := (w.alloc (.map #[] 0)).heap.setIfInBounds w.heap.size (.map ((#[] : Array MapEntry).push { key := .int .i64 0, val := .func (.func 69) #[] #[], born := 0 }) (0 + 1)) } = w2 := ⟨_, rfl⟩
  rw [hw2] at hu0
  have hb2 : Below w.heap.size w w2 := by rw [← hw2]; exact map_set h1 hb1 (Nat.le_refl _)
  have h2 : w2.heap[w.heap.size]? = some (.map ((#[] : Array MapEntry).push { key := .int .i64 0, val := .func (.func 69) #[] #[], born := 0 }) (0 + 1)) := by rw [← hw2]; exact (MapKept.heap_set h1).1
  have hu1 := run_upd_int (w := w2) 87 3 86 w.heap.size 1 1 (.func (.func 70) #[] #[]) Try.underlying87 Try.underlying3 h2 rfl
  obtain ⟨w3, hw3⟩ : ∃ w3, { w2 with heap := w2.heap.setIfInBounds w.heap.size (.map (((#[] : Array MapEntry).push { key := .int .i64 0, val := .func (.func 69) #[] #[], born := 0 }).push { key := .int .i64 1, val := .func (.func 70) #[] #[], born := 1 }) (1 + 1)) } = w3 := ⟨_, rfl⟩
  rw [hw3] at hu1
  have HB3 : Hid (Below w.heap.size w w3) := by show Below _ _ _; rw [← hw3]; exact map_set h2 hb2 (Nat.le_refl _)
  have H3 : Hid (OpsAt w3 w.heap.size) := by show OpsAt _ _; rw [← hw3]; exact (MapKept.heap_set h2).1
  have HU0 := Lib.hid hu0; have HU1 := Lib.hid hu1
  clear hb1 h1 hw2 hb2 h2 hw3 hu0 hu1
  go_enter Try.func38, Try.ntmps38
  go_wp2_with (first
    | (refine wpList_ins rfl 87 _ _ _ rfl _ _ _ rfl rfl rfl _ HU0.out ?_)
    | (refine wpList_ins rfl 87 _ _ _ rfl _ _ _ rfl rfl rfl _ HU1.out ?_))
  go_ret
  exact ⟨⟨_, rfl, H3.out⟩, HB3.out⟩
theorem OpsAt.later {w w' : World} {b : Nat} (h : OpsAt w b) (hb : Below w.heap.size w w') : OpsAt w' b := by
  have hlt : b < w.heap.size := (Array.getElem?_eq_some_iff.1 h).1
  exact (hb.block b hlt).trans h
end Go.Proofs.Ytbclfjdamklbpaa
