/- What is built, where its guard may say no: the world behind it is a letter. -/
import Derived.Test.YthibihjblodfmaaN7
import Derived.Test.YthibihjblodfmaaQ4
namespace Go.Proofs.Ythibihjblodfmaa
open Go.RowKit Go.Maps

section
variable {P : Program}
theorem wpList_bsliceG {ops : Array Oper} {rest : List Oper} {o : Oper} {a : Act} {w : World} {Q : Exit → Act → World → Prop} (hw : Region.wanted o (yielded ops a.tmps) = true) (t : TypeId) (n : Nat) (parts : Array (Nat × Operand)) (ho : o.op = .buildSlice t n parts) (vals : Array (Nat × Value))
    (hv : (parts.map fun x => (x.1, a.eval x.2)) = vals) (T : TypeId) (cs : List Value)
    (hb : ∀ w : World, (Instr.buildSlice t n vals).run P w = .ok (.slice (some ⟨w.heap.size, 0, none⟩) n n) (w.alloc (.cells cs.toArray T)))
    (h : ∀ q w', w.heap.size = q → Bk w' q T cs → Below w.heap.size w w' → wpList P ops Q rest (a.put o.dst (.slice (some ⟨q, 0, none⟩) n n)) w') : wpList P ops Q (o :: rest) a w :=
  wpList_step fun _ hK => by rw [if_pos hw]; exact wp_bslice t n parts ho vals hv _ _ (hb w) (hK _ _ (h _ _ rfl (Bk.new' w T cs.toArray (by simp)) (below_new w _)))
theorem wp_allocL {o : Oper} {a : Act} {w : World} {K : Act → World → Prop} {Q : Exit → Act → World → Prop} (t : TypeId) (ho : o.op = .alloc t) (v : Value) (w' : World)
    (hb : (execOp a.eval { o with op := .alloc t }).run P w = .ok (.value v) w') (h : K (a.put o.dst v) w') : o.wp P a w K Q := by
  unfold Oper.wp
  rw [← ho] at hb
  rw [hb]
  exact h
theorem wpList_allocG {ops : Array Oper} {rest : List Oper} {o : Oper} {a : Act} {w : World} {Q : Exit → Act → World → Prop} (hw : Region.wanted o (yielded ops a.tmps) = true) (t : TypeId) (ho : o.op = .alloc t) (T : TypeId) (cs : List Value)
    (hb : ∀ w : World, (execOp a.eval { o with op := .alloc t }).run P w = .ok (.value (.pointer (some ⟨w.heap.size, 0, none⟩))) (w.alloc (.cells cs.toArray T)))
    (h : ∀ q w', w.heap.size = q → Bk w' q T cs → Below w.heap.size w w' → wpList P ops Q rest (a.put o.dst (.pointer (some ⟨q, 0, none⟩))) w') : wpList P ops Q (o :: rest) a w :=
  wpList_step fun _ hK => by rw [if_pos hw]; exact wp_allocL t ho _ _ (hb w) (hK _ _ (h _ _ rfl (Bk.new' w T cs.toArray (by simp)) (below_new w _)))
theorem wpList_buildG {ops : Array Oper} {rest : List Oper} {o : Oper} {a : Act} {w : World} {Q : Exit → Act → World → Prop} (hw : Region.wanted o (yielded ops a.tmps) = true) (t : TypeId) (parts : Array (Nat × Operand)) (ho : o.op = .build t parts) (vals : Array (Nat × Value))
    (hv : (parts.map fun x => (x.1, a.eval x.2)) = vals) (v : Value) (hb : (Instr.build t vals).run P w = .ok v w) (h : wpList P ops Q rest (a.put o.dst v) w) : wpList P ops Q (o :: rest) a w :=
  wpList_step fun _ hK => by rw [if_pos hw]; exact wp_build t parts ho vals hv v hb (hK _ _ h)
theorem wpList_load_bkG {ops : Array Oper} {rest : List Oper} {o : Oper} {a : Act} {w : World} {Q : Exit → Act → World → Prop} (hw : Region.wanted o (yielded ops a.tmps) = true) (ty : TypeId) (x : Operand) (ho : o.op = .load ty x)
    (g : Nat) (hx : a.eval x = .pointer (some ⟨g, 0, none⟩)) (cs : List Value) (t : TypeId) (hb : Bk w g t cs) (d : TypeDesc) (hu : P.underlying ty = some d) (hd : d.isRow = true) (hi : (P.info? ty).map (·.size) = some cs.length)
    (h : wpList P ops Q rest (a.put o.dst (.agg cs.toArray)) w) : wpList P ops Q (o :: rest) a w :=
  wpList_load_midG hw ty x ho g 0 hx cs d (Bk.range (pre := []) (post := []) (by simpa using hb) rfl) hu hd hi h
end
/-! Blocks as slices. -/
theorem Bk.sl1 {w : World} {g n : Nat} {t : TypeId} {xs : List Value} (h : Bk w g t xs) (hn : xs.length = n) (hl : n ≤ 1000000) : Sl w w.heap.size 1 (some ⟨g, 0, none⟩) n xs := h.sl (by omega) (by omega) (fun _ _ h => h)
theorem Bk.sl8 {w : World} {g n : Nat} {t : TypeId} {ls : List (List Int)} (h : Bk w g t (cellsD ls)) (ho : DsOk ls) (hn : ls.length = n) (hl : n ≤ 1000000) : Sl w w.heap.size 8 (some ⟨g, 0, none⟩) n (cellsD ls) := h.sl (by rw [cellsD_len ho, hn]) (by omega) (fun _ _ h => h)
def zSt : List Value := [.int .u8 0, .int .u8 0, .int .u8 0, .int .u8 0, .int .u8 0, .int .u8 0, .int .u8 0, .int .u8 0, .int .i64 0, .slice none 0 0]
end Go.Proofs.Ythibihjblodfmaa
