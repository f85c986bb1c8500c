/- Things in memory: the program's and the document's. -/
import Derived.Test.YtakfdlokgddaoaaDoorOC
import Derived.Test.YtakfdlokgddaoaaDoorHA
import Derived.Deep.RegionHeld3
namespace Go.Proofs.YtakfdlokgddaoaaDoor
open Go.RowKit

def dl (ds : List Int) : List Value := ds.map (Value.int .u8)
theorem dl_len (ds : List Int) : (dl ds).length = ds.length := by simp [dl]
theorem dl_dgA (ds : List Int) : (dl ds).toArray = dgA ds := rfl
/-- The cells of a state, of an act, of a thing; of the document's thing. -/
def staC (n : Int) (t : List Int) (p : Value) : List Value := dl t ++ [.int .i64 n, p]
def actC (m : Int) (u v : List Int) (q : Value) : List Value := dl u ++ .int .i64 m :: (dl v ++ [q])
def thC (k n m : Int) (t u v : List Int) (p q s : Value) : List Value := .int .i64 k :: (staC n t p ++ (actC m u v q ++ [s]))
def rtC (k n : Int) (t v : List Int) (b s : Value) (o : Bool) : List Value := .int .i64 k :: (dl t ++ .int .i64 n :: (dl v ++ [b, s, .bool o]))
theorem staC_len {n : Int} {t : List Int} {p : Value} (h : DgOk t) : (staC n t p).length = 10 := by simp [staC, dl_len, h.len]
theorem actC_len {m : Int} {u v : List Int} {q : Value} (h : DgOk u) (h' : DgOk v) : (actC m u v q).length = 18 := by simp [actC, dl_len, h.len, h'.len]
theorem thC_len {k n m : Int} {t u v : List Int} {p q s : Value} (ht : DgOk t) (hu : DgOk u) (hv : DgOk v) : (thC k n m t u v p q s).length = 30 := by simp [thC, staC_len ht, actC_len hu hv]
theorem rtC_len {k n : Int} {t v : List Int} {b s : Value} {o : Bool} (ht : DgOk t) (hv : DgOk v) : (rtC k n t v b s o).length = 21 := by simp [rtC, dl_len, ht.len, hv.len]
/-- The walk stands still ahead of a store of that type. -/
def StopD (p : Prop) : Prop := p
theorem StopD.go {p : Prop} (h : p) : StopD p := h
theorem stop_store {P : Program} {ops : Array Oper} {rest : List Oper} {o : Oper} {a : Act} {w : World} {Q : Exit → Act → World → Prop} (ty : TypeId) (x y : Operand) (_ho : o.op = .store ty x y) (h : StopD (wpList P ops Q (o :: rest) a w)) : wpList P ops Q (o :: rest) a w := h

/-! ### A struct built out of parts that are opaque -/
section
variable {P : Program}
theorem wp_build {o : Oper} {a : Act} {w : World} {K : Act → World → Prop} {Q : Exit → Act → World → Prop} (t : TypeId) (parts : Array (Nat × Operand)) (ho : o.op = .build t parts) (vals : Array (Nat × Value))
    (hv : (parts.map fun x => (x.1, a.eval x.2)) = vals) (v : Value) (hb : (Instr.build t vals).run P w = .ok v w) (h : K (a.put o.dst v) w) : o.wp P a w K Q := by
  subst hv
  unfold Oper.wp execOp
  simp only [ho, Sem.run_bind, hb, Result.andThen_ok, Sem.run_pure]
  exact h
theorem wpList_build {ops : Array Oper} {rest : List Oper} {o : Oper} {a : Act} {w : World} {Q : Exit → Act → World → Prop} (hgd : o.guard = none) (t : TypeId) (parts : Array (Nat × Operand)) (ho : o.op = .build t parts) (vals : Array (Nat × Value))
    (hv : (parts.map fun x => (x.1, a.eval x.2)) = vals) (v : Value) (hb : (Instr.build t vals).run P w = .ok v w) (h : wpList P ops Q rest (a.put o.dst v) w) : wpList P ops Q (o :: rest) a w :=
  wpList_plain hgd fun _ hK => wp_build t parts ho vals hv v hb (hK _ _ h)
theorem yieldsIf_build {ops : Array Oper} {S : World → Prop} {o : Oper} {a : Act} (hw : Region.wanted o (yielded ops a.tmps) = true) (t : TypeId) (parts : Array (Nat × Operand)) (ho : o.op = .build t parts) (vals : Array (Nat × Value))
    (hv : (parts.map fun x => (x.1, a.eval x.2)) = vals) (v : Value) (hb : ∀ w, (Instr.build t vals).run P w = .ok v w) : YieldsIf P ops S o v a :=
  .inl ⟨hw, fun w _ => by
    subst hv
    unfold execOp
    simp only [ho, Sem.run_bind, hb, Result.andThen_ok, Sem.run_pure]⟩
end

/-! ### A block's parts -/
theorem Bk.range {w : World} {g : Nat} {ty : TypeId} {pre sub post : List Value} (h : Bk w g ty (pre ++ (sub ++ post))) {o : Nat} (ho : pre.length = o) : w.rangeAt g o sub := fun j v hv => by
  rw [h.cell, ← ho, List.getElem?_append_right (by omega), show pre.length + j - pre.length = j by omega, List.getElem?_append_left (List.getElem?_eq_some_iff.1 hv).1]
  exact hv
theorem Bk.at1 {w : World} {g : Nat} {ty : TypeId} {pre post : List Value} {x : Value} (h : Bk w g ty (pre ++ x :: post)) {o : Nat} (ho : pre.length = o) : w.cell? ⟨g, o, none⟩ = some x := by
  rw [h.cell, ← ho, List.getElem?_append_right (by omega), Nat.sub_self]; rfl
theorem Bk.there {w : World} {g : Nat} {ty : TypeId} {xs : List Value} (h : Bk w g ty xs) (o n : Nat) (hn : o + n ≤ xs.length) : w.there g o n := fun j hj => by
  rw [h.cell, List.getElem?_eq_getElem (by omega)]
  exact ⟨rfl, h.frozen _⟩
theorem Bk.setCells {g : Nat} {ty : TypeId} : ∀ (vs : List Value) (o : Nat) {w : World} {pre sub post : List Value}, Bk w g ty (pre ++ (sub ++ post)) → pre.length = o → sub.length = vs.length → Bk (w.setCells g o vs) g ty (pre ++ (vs ++ post))
  | [], o, w, pre, sub, post, h, _, hs => by
    obtain rfl : sub = [] := List.eq_nil_of_length_eq_zero (by simpa using hs)
    exact h
  | v :: vs, o, w, pre, [], post, h, _, hs => by simp at hs
  | v :: vs, o, w, pre, x :: sub, post, h, ho, hs => by
    have h1 := h.set_ o v
    rw [List.set_append, if_neg (by omega), ho, Nat.sub_self, List.cons_append, List.set_cons_zero] at h1
    have h2 := Bk.setCells (g := g) (ty := ty) vs (o + 1) (w := w.setCell ⟨g, o, none⟩ v) (pre := pre ++ [v]) (sub := sub) (post := post) (by simpa using h1) (by simp [ho]) (by simpa using hs)
    rw [World.setCells]
    simpa using h2
theorem Bk.farCells {g g' : Nat} {ty : TypeId} {xs : List Value} (hne : g ≠ g') : ∀ (vs : List Value) (o : Nat) {w : World}, Bk w g ty xs → Bk (w.setCells g' o vs) g ty xs
  | [], _, _, h => h
  | v :: vs, o, w, h => by
    rw [World.setCells]
    exact Bk.farCells hne vs (o + 1) (Bk.far h (p := ⟨g', o, none⟩) hne v)
theorem below_cells {B : Nat} {w0 : World} {g : Nat} (hg : B ≤ g) : ∀ (vs : List Value) (o : Nat) {w : World}, Below B w0 w → Below B w0 (w.setCells g o vs)
  | [], _, _, h => h
  | v :: vs, o, w, h => by
    rw [World.setCells]
    exact below_cells hg vs (o + 1) (h.setCell (p := ⟨g, o, none⟩) hg v)
theorem only_cells {g : Nat} {w0 : World} : ∀ (vs : List Value) (o : Nat) {w : World}, w0.grownBy w (some g) → w0.grownBy (w.setCells g o vs) (some g)
  | [], _, _, h => h
  | v :: vs, o, w, h => by
    rw [World.setCells]
    exact only_cells vs (o + 1) (only_set h o v)
theorem size_cells {g : Nat} : ∀ (vs : List Value) (o : Nat) (w : World), (w.setCells g o vs).heap.size = w.heap.size
  | [], _, _ => rfl
  | v :: vs, o, w => by rw [World.setCells, size_cells vs (o + 1)]; simp [World.setCell]

/-! ### A whole block, or a part of one, is written: the world behind it is a letter -/
section
variable {P : Program}
/-- What a store into block g leaves. -/
structure Put (w w' : World) (g : Nat) (t : TypeId) (cs : List Value) : Prop where
  bk : Bk w' g t cs
  only : w.grownBy w' (some g)
  size : w'.heap.size = w.heap.size
theorem wpList_store_bk {ops : Array Oper} {rest : List Oper} {o : Oper} {a : Act} {w : World} {Q : Exit → Act → World → Prop} (hgd : o.guard = none) (ty : TypeId) (x y : Operand) (ho : o.op = .store ty x y)
    (g : Nat) (cs : List Value) (hx : a.eval x = .pointer (some ⟨g, 0, none⟩)) (hy : a.eval y = .agg cs.toArray)
    (t : TypeId) (old : List Value) (hb : Bk w g t old) (hi : (P.info? ty).map (·.size) = some cs.length) (hl : old.length = cs.length) (h1 : ∀ v ∈ cs, v.oneCell' = true)
    (h : ∀ w', Put w w' g t cs → wpList P ops Q rest (a.put o.dst undef) w') : wpList P ops Q (o :: rest) a w :=
  wpList_store_row hgd ty x y ho g cs.toArray hx hy t old.toArray hb (by simpa using hi) (by simpa using hl) (all_oneCell_toArray h1)
    (h _ ⟨by simpa using Bk.row hb cs.toArray, only_row (only_refl w g) _, by simp⟩)
theorem wpList_load_bk {ops : Array Oper} {rest : List Oper} {o : Oper} {a : Act} {w : World} {Q : Exit → Act → World → Prop} (hgd : o.guard = none) (ty : TypeId) (x : Operand) (ho : o.op = .load ty x)
    (g : Nat) (hx : a.eval x = .pointer (some ⟨g, 0, none⟩)) (cs : List Value) (t : TypeId) (hb : Bk w g t cs) (d : TypeDesc) (hu : P.underlying ty = some d) (hd : (match d with | .struct _ | .array _ _ => true | _ => false) = true) (hi : (P.info? ty).map (·.size) = some cs.length)
    (h : wpList P ops Q rest (a.put o.dst (.agg cs.toArray)) w) : wpList P ops Q (o :: rest) a w :=
  wpList_load_row hgd ty x ho g hx t cs.toArray (0, 0) d hb hu hd (by simpa using hi) h
theorem results_cell_bk {fn : Func} {p : Tmp} {ty : TypeId} (h : fn.results = #[.cell p ty]) (tmps : Array Value) (w : World) (g : Nat) (t : TypeId) (cs : List Value) (d : TypeDesc)
    (hp : tmps.getD p undef = .pointer (some ⟨g, 0, none⟩)) (hg : Bk w g t cs)
    (hu : P.underlying ty = some d) (hd : (match d with | .struct _ | .array _ _ => true | _ => false) = true) (hi : (P.info? ty).map (·.size) = some cs.length) :
    (results fn tmps).run P w = .ok (.agg cs.toArray) w := results_cell_row h tmps w g t cs.toArray (0, 0) d hp hg hu hd (by simpa using hi)
theorem run_storeAt_part (w : World) (b o : Nat) (ty : TypeId) (V : Value) (cs : List Value) (hV : V.cells = cs.toArray) (ht : w.there b o cs.length) (hi : (P.info? ty).map (·.size) = some cs.length) (h1 : ∀ v ∈ cs, v.oneCell' = true) :
    (Instr.storeAt ty (.pointer (some ⟨b, o, none⟩)) V).run P w = .ok () (w.setCells b o cs) := by
  have := run_storeCells_cells (P := P) b o cs 0 w (fun j hj => by simpa using (ht j hj).1) (fun j hj => by simpa using (ht j hj).2) h1
  cases hq : P.info? ty with
  | none => simp [hq] at hi
  | some i =>
    have hs : cs.length = i.size := by simp [hq] at hi; omega
    simp only [Nat.add_zero] at this
    simp [Instr.storeAt, Instr.sureAddr, storeVar, sizeOf, typeInfo, hq, hV, hs, this]
theorem wp_store_part {op : Oper} {a : Act} {w : World} {K : Act → World → Prop} {Q : Exit → Act → World → Prop} (ty : TypeId) (x y : Operand) (ho : op.op = .store ty x y)
    (b o : Nat) (V : Value) (cs : List Value) (hx : a.eval x = .pointer (some ⟨b, o, none⟩)) (hy : a.eval y = V) (hV : V.cells = cs.toArray)
    (t : TypeId) (pre sub post : List Value) (hb : Bk w b t (pre ++ (sub ++ post))) (hp : pre.length = o) (hl : sub.length = cs.length) (hi : (P.info? ty).map (·.size) = some cs.length) (h1 : ∀ v ∈ cs, v.oneCell' = true)
    (h : ∀ w', Put w w' b t (pre ++ (cs ++ post)) → K (a.put op.dst undef) w') : op.wp P a w K Q := by
  unfold Oper.wp execOp
  simp only [ho, hx, hy, Sem.run_bind, Sem.run_pure, run_storeAt_part w b o ty V cs hV (hb.there o _ (by simp; omega)) hi h1, Result.andThen_ok]
  exact h _ ⟨Bk.setCells cs o hb hp hl, only_cells cs o (only_refl w b), size_cells _ _ _⟩
theorem wpList_store_part {ops : Array Oper} {rest : List Oper} {op : Oper} {a : Act} {w : World} {Q : Exit → Act → World → Prop} (hgd : op.guard = none) (ty : TypeId) (x y : Operand) (ho : op.op = .store ty x y)
    (b o : Nat) (V : Value) (cs : List Value) (hx : a.eval x = .pointer (some ⟨b, o, none⟩)) (hy : a.eval y = V) (hV : V.cells = cs.toArray)
    (t : TypeId) (pre sub post : List Value) (hb : Bk w b t (pre ++ (sub ++ post))) (hp : pre.length = o) (hl : sub.length = cs.length) (hi : (P.info? ty).map (·.size) = some cs.length) (h1 : ∀ v ∈ cs, v.oneCell' = true)
    (h : ∀ w', Put w w' b t (pre ++ (cs ++ post)) → wpList P ops Q rest (a.put op.dst undef) w') : wpList P ops Q (op :: rest) a w :=
  wpList_plain hgd fun _ hK => wp_store_part ty x y ho b o V cs hx hy hV t pre sub post hb hp hl hi h1 fun w' hp' => hK _ _ (h w' hp')
end

/-- What a thing's block holds. -/
structure ThM (w : World) (g : Nat) (k n m : Int) (t u v : List Int) (p q s : Value) : Prop where
  c0 : w.cell? ⟨g, 0, none⟩ = some (.int .i64 k)
  c9 : w.cell? ⟨g, 9, none⟩ = some (.int .i64 n)
  c10 : w.cell? ⟨g, 10, none⟩ = some p
  c19 : w.cell? ⟨g, 19, none⟩ = some (.int .i64 m)
  c28 : w.cell? ⟨g, 28, none⟩ = some q
  c29 : w.cell? ⟨g, 29, none⟩ = some s
  r1 : w.rangeAt g 1 (dl t)
  r11 : w.rangeAt g 11 (dl u)
  r20 : w.rangeAt g 20 (dl v)
  rS : w.rangeAt g 1 (staC n t p)
  rA : w.rangeAt g 11 (actC m u v q)
structure RtM (w : World) (g : Nat) (k n : Int) (t v : List Int) (b s : Value) (o : Bool) : Prop where
  c0 : w.cell? ⟨g, 0, none⟩ = some (.int .i64 k)
  c9 : w.cell? ⟨g, 9, none⟩ = some (.int .i64 n)
  c18 : w.cell? ⟨g, 18, none⟩ = some b
  c19 : w.cell? ⟨g, 19, none⟩ = some s
  c20 : w.cell? ⟨g, 20, none⟩ = some (.bool o)
  r1 : w.rangeAt g 1 (dl t)
  r10 : w.rangeAt g 10 (dl v)
theorem zero_ok : DgOk zeroD := ⟨rfl, fun b hb => by simp [zeroD] at hb; omega⟩
end Go.Proofs.YtakfdlokgddaoaaDoor
