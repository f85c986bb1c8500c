/- What is built, where its guard may say no: the world behind it is a letter. The example of states. The example of states: the walk. -/
import Derived.Test.YtbclfjdamklbpaaNB
import Derived.Test.YtbclfjdamklbpaaQ4
import Derived.Test.YtbclfjdamklbpaaS5
import Derived.Lib.SlBytesConst
/-! What is built, where its guard may say no: the world behind it is a letter. -/
namespace Go.Proofs.Ytbclfjdamklbpaa
open Go.RowKit Go.Maps

section
variable {P : Program}
theorem wpList_bsliceG {ops : Array Oper} {rest : List Oper} {o : Oper} {a : Act} {w : World} {Q : Exit → Act → World → Prop} (hw : Region.wanted o (yielded ops a.tmps) = true) (t : TypeId) (n : Nat) (parts : Array (Nat × Operand)) (ho : o.op = .buildSlice t n parts) (vals : Array (Nat × Value))
    (hv : (parts.map fun x => (x.1, a.eval x.2)) = vals) (T : TypeId) (cs : List Value)
    (hb : ∀ w : World, (Instr.buildSlice t n vals).run P w = .ok (.slice (some ⟨w.heap.size, 0, none⟩) n n) (w.alloc (.cells cs.toArray T)))
    (h : ∀ q w', w.heap.size = q → Bk w' q T cs → Below w.heap.size w w' → wpList P ops Q rest (a.put o.dst (.slice (some ⟨q, 0, none⟩) n n)) w') : wpList P ops Q (o :: rest) a w :=
  wpList_step fun _ hK => by rw [if_pos hw]; exact wp_bslice t n parts ho vals hv _ _ (hb w) (hK _ _ (h _ _ rfl (Bk.new' w T cs.toArray (by simp)) (below_new w _)))
theorem wp_allocL {o : Oper} {a : Act} {w : World} {K : Act → World → Prop} {Q : Exit → Act → World → Prop} (t : TypeId) (ho : o.op = .alloc t) (v : Value) (w' : World)
    (hb : (execOp a.eval { o with op := .alloc t }).run P w = .ok (.value v) w') (h : K (a.put o.dst v) w') : o.wp P a w K Q := by
  unfold Oper.wp
  rw [← ho] at hb
  rw [hb]
  exact h
theorem wpList_allocG {ops : Array Oper} {rest : List Oper} {o : Oper} {a : Act} {w : World} {Q : Exit → Act → World → Prop} (hw : Region.wanted o (yielded ops a.tmps) = true) (t : TypeId) (ho : o.op = .alloc t) (T : TypeId) (cs : List Value)
    (hb : ∀ w : World, (execOp a.eval { o with op := .alloc t }).run P w = .ok (.value (.pointer (some ⟨w.heap.size, 0, none⟩))) (w.alloc (.cells cs.toArray T)))
    (h : ∀ q w', w.heap.size = q → Bk w' q T cs → Below w.heap.size w w' → wpList P ops Q rest (a.put o.dst (.pointer (some ⟨q, 0, none⟩))) w') : wpList P ops Q (o :: rest) a w :=
  wpList_step fun _ hK => by rw [if_pos hw]; exact wp_allocL t ho _ _ (hb w) (hK _ _ (h _ _ rfl (Bk.new' w T cs.toArray (by simp)) (below_new w _)))
theorem wpList_buildG {ops : Array Oper} {rest : List Oper} {o : Oper} {a : Act} {w : World} {Q : Exit → Act → World → Prop} (hw : Region.wanted o (yielded ops a.tmps) = true) (t : TypeId) (parts : Array (Nat × Operand)) (ho : o.op = .build t parts) (vals : Array (Nat × Value))
    (hv : (parts.map fun x => (x.1, a.eval x.2)) = vals) (v : Value) (hb : (Instr.build t vals).run P w = .ok v w) (h : wpList P ops Q rest (a.put o.dst v) w) : wpList P ops Q (o :: rest) a w :=
  wpList_step fun _ hK => by rw [if_pos hw]; exact wp_build t parts ho vals hv v hb (hK _ _ h)
theorem wpList_load_bkG {ops : Array Oper} {rest : List Oper} {o : Oper} {a : Act} {w : World} {Q : Exit → Act → World → Prop} (hw : Region.wanted o (yielded ops a.tmps) = true) (ty : TypeId) (x : Operand) (ho : o.op = .load ty x)
    (g : Nat) (hx : a.eval x = .pointer (some ⟨g, 0, none⟩)) (cs : List Value) (t : TypeId) (hb : Bk w g t cs) (d : TypeDesc) (hu : P.underlying ty = some d) (hd : d.isRow = true) (hi : (P.info? ty).map (·.size) = some cs.length)
    (h : wpList P ops Q rest (a.put o.dst (.agg cs.toArray)) w) : wpList P ops Q (o :: rest) a w :=
  wpList_load_midG hw ty x ho g 0 hx cs d (Bk.range (pre := []) (post := []) (by simpa using hb) rfl) hu hd hi h
end
/-! Blocks as slices. -/
theorem Bk.sl1 {w : World} {g n : Nat} {t : TypeId} {xs : List Value} (h : Bk w g t xs) (hn : xs.length = n) (hl : n ≤ 1000000) : Sl w w.heap.size 1 (some ⟨g, 0, none⟩) n xs := h.sl (by omega) (by omega) (fun _ _ h => h)
theorem Bk.sl8 {w : World} {g n : Nat} {t : TypeId} {ls : List (List Int)} (h : Bk w g t (cellsD ls)) (ho : DsOk ls) (hn : ls.length = n) (hl : n ≤ 1000000) : Sl w w.heap.size 8 (some ⟨g, 0, none⟩) n (cellsD ls) := h.sl (by rw [cellsD_len ho, hn]) (by omega) (fun _ _ h => h)
def zSt : List Value := [.int .u8 0, .int .u8 0, .int .u8 0, .int .u8 0, .int .u8 0, .int .u8 0, .int .u8 0, .int .u8 0, .int .i64 0, .slice none 0 0]
end Go.Proofs.Ytbclfjdamklbpaa

/-! The example of states. -/
namespace Go.Proofs.Ytbclfjdamklbpaa
open Go.RowKit Go.Maps

def tD1 : List Int := [1, 0, 0, 0, 0, 0, 0, 0]
def tD2 : List Int := [2, 0, 0, 0, 0, 0, 0, 0]
def tD9 : List Int := [9, 0, 0, 0, 0, 0, 0, 0]
def tMsg : List Int := ofI (stB tD9 3 [112])
theorem tD1_ok : DgOk tD1 := ⟨rfl, fun b hb => by simp [tD1] at hb; omega⟩
theorem tD2_ok : DgOk tD2 := ⟨rfl, fun b hb => by simp [tD2] at hb; omega⟩
theorem tD9_ok : DgOk tD9 := ⟨rfl, fun b hb => by simp [tD9] at hb; omega⟩
theorem tMsg_ok : DgOk tMsg := ofI_ok _
theorem tMsg_ne : eqL tMsg zeroD = false := by decide +kernel
theorem t_all (p : Pc) (q : Pc) (hp : p.bs = [0, 0]) (hq : q.bs = []) : allB [(tD1, tMsg)] tMsg [tD1, tD2] [p, q] [false, true] = true ∧ allB [(tD1, tMsg)] tMsg [tD1, tD2] [p, q] [] = false ∧ cntB [(tD1, tMsg)] tMsg [tD1, tD2] [p, q] = 1 := by
  obtain ⟨m, hm⟩ : ∃ m, tMsg = m := ⟨_, rfl⟩
  rw [hm]
  have v1 : verB [(tD1, m)] (tD1, m) [0, 0] = true := by simp [verB, sigB]
  have v2 : verB [(tD1, m)] (tD2, m) [] = false := by simp [verB, sigB]
  have b0 : ∀ fs, fs.getD 0 false = false → badB [(tD1, m)] m [tD1, tD2] [p, q] fs 0 = false := fun fs h => by
    unfold badB; rw [h]; simp [hp, v1]
  have b1 : ∀ fs, fs.getD 1 false = false → badB [(tD1, m)] m [tD1, tD2] [p, q] fs 1 = true := fun fs h => by
    unfold badB; rw [h]; simp [hq, v2]
  have b2 : ∀ fs, fs.getD 1 false = true → badB [(tD1, m)] m [tD1, tD2] [p, q] fs 1 = false := fun fs h => by
    unfold badB; rw [h]; rfl
  refine ⟨?_, ?_, ?_⟩
  · simp [allB, missB, List.range, List.range.loop, b0 [false, true] rfl, b2 [false, true] rfl]
  · simp [allB, missB, List.range, List.range.loop, b0 [] rfl, b1 [] rfl]
  · simp [cntB, hp, hq, v1, v2]
end Go.Proofs.Ytbclfjdamklbpaa

/-! The example of states: the walk. -/
namespace Go.Proofs.Ytbclfjdamklbpaa
open Go.RowKit Go.Maps

theorem nil_wr (X : Array Value) (f : Nat) (w : World) : (nilAhead (f + 1) 131 (.agg X) "Sign").run Try.prog w = .ok (some false) w := by kernel_rfl
theorem meth_wr (X : Array Value) (f : Nat) (w : World) : (method (f + 1) 131 (.agg X) "Sign").run Try.prog w = .ok (129, .agg X) w := by kernel_rfl
theorem stop_bs {P : Program} {ops : Array Oper} {rest : List Oper} {o : Oper} {a : Act} {w : World} {Q : Exit → Act → World → Prop} (t : TypeId) (n : Nat) (parts : Array (Nat × Operand)) (_ho : o.op = .buildSlice t n parts) (h : StopD (wpList P ops Q (o :: rest) a w)) : wpList P ops Q (o :: rest) a w := h
/-- A block of a constant string's bytes: it bears the run-time's mark behind its last cell. -/
def BkM (w : World) (g : Nat) (t : TypeId) (xs : List Value) : Prop := w.heap[g]? = some (.cells xs.toArray t (xs.length, xs.length + 1))
theorem BkM.lt {w : World} {g : Nat} {t : TypeId} {xs : List Value} (h : BkM w g t xs) : g < w.heap.size := by
  rcases Nat.lt_or_ge g w.heap.size with hlt | hge
  · exact hlt
  · unfold BkM at h; rw [Array.getElem?_eq_none hge] at h; cases h
theorem BkM.later {w w' : World} {g : Nat} {t : TypeId} {xs : List Value} (h : BkM w g t xs) (hb : Below w.heap.size w w') : BkM w' g t xs := (hb.block g h.lt).trans h
theorem BkM.keeps {w w' : World} {g : Nat} {t : TypeId} {xs : List Value} (h : BkM w g t xs) (hk : Keeps w w') (h1 : t ≠ 82) (h2 : t ≠ 182) : BkM w' g t xs := (hk.blk g _ t _ h h1 h2).trans h
theorem BkM.cell {w : World} {g : Nat} {t : TypeId} {xs : List Value} (h : BkM w g t xs) (i : Nat) : w.cell? ⟨g, i, none⟩ = xs[i]? := (cell_of_row w g i _ t _ h).trans (by simp)
theorem BkM.sl {w : World} {g n : Nat} {t : TypeId} {xs : List Value} (h : BkM w g t xs) (hn : xs.length = n) (hl : n ≤ 1000000) : Sl w w.heap.size 1 (some ⟨g, 0, none⟩) n xs :=
  ⟨by omega, by omega, fun _ => ⟨_, rfl, h.lt, fun j u hu => by rw [add_plain, Nat.zero_add, h.cell]; exact hu⟩⟩
theorem BkM.new (w : World) (t : TypeId) (cs : Array Value) {xs : List Value} (h : cs.toList = xs) (fr : Nat × Nat) (hf : fr = (xs.length, xs.length + 1)) : BkM (w.alloc (.cells cs t fr)) w.heap.size t xs := by
  subst h; subst hf; unfold BkM; simpa using heap_alloc_new w (.cells cs t (cs.toList.length, cs.toList.length + 1))
theorem bs_two {x y : List Int} (hx : DgOk x) (hy : DgOk y) (w : World) : (Instr.buildSlice 24 2 #[(0, .agg (dl x).toArray), (1, .agg (dl y).toArray)]).run Try.prog w = .ok (.slice (some ⟨w.heap.size, 0, none⟩) 2 2) (w.alloc (.cells (cellsD [x, y]).toArray 23)) := by
  obtain ⟨x0, x1, x2, x3, x4, x5, x6, x7, rfl⟩ := list8 x hx.len
  obtain ⟨y0, y1, y2, y3, y4, y5, y6, y7, rfl⟩ := list8 y hy.len
  kernel_rfl
theorem bs_pcs (A B : Option Addr) (n m c d : Nat) (xs ys : List Int) (w : World) : (Instr.buildSlice 37 2 #[(0, .slice A n c), (1, .slice B m d)]).run Try.prog w = .ok (.slice (some ⟨w.heap.size, 0, none⟩) 2 2) (w.alloc (.cells ([(⟨A, n, c, xs⟩ : Pc), ⟨B, m, d, ys⟩].map Pc.v).toArray 56)) := by kernel_rfl
theorem bs_112 (w : World) : (Instr.buildSlice 56 1 #[(0, .int .u8 112)]).run Try.prog w = .ok (.slice (some ⟨w.heap.size, 0, none⟩) 1 1) (w.alloc (.cells (([112] : List Int).map (.int .u8)).toArray 5)) := by kernel_rfl
theorem bs_ft (w : World) : (Instr.buildSlice 160 2 #[(0, .bool false), (1, .bool true)]).run Try.prog w = .ok (.slice (some ⟨w.heap.size, 0, none⟩) 2 2) (w.alloc (.cells (([false, true] : List Bool).map .bool).toArray 4)) := by kernel_rfl
theorem build_d1 (w : World) : (Instr.build 23 #[(0, .int .u8 1)]).run Try.prog w = .ok (.agg (dl tD1).toArray) w := by kernel_rfl
theorem build_d2 (w : World) : (Instr.build 23 #[(0, .int .u8 2)]).run Try.prog w = .ok (.agg (dl tD2).toArray) w := by kernel_rfl
theorem build_d9 (w : World) : (Instr.build 23 #[(0, .int .u8 9)]).run Try.prog w = .ok (.agg (dl tD9).toArray) w := by kernel_rfl
theorem build_d0 (w : World) : (Instr.build 23 #[]).run Try.prog w = .ok (.agg (dl zeroD).toArray) w := by kernel_rfl
end Go.Proofs.Ytbclfjdamklbpaa
