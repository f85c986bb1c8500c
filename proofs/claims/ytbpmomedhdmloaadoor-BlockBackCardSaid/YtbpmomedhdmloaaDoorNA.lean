/- The book of who signed what: plain, and in memory. The book in memory: a new one, and a look into it. The book: a message is signed. The book: who signs, and whether it was signed. -/
import Derived.Test.YtbpmomedhdmloaaDoorS3
import Derived.Maps.OwnSet
import Derived.Maps.OwnOps
import Derived.Maps.Views
import Derived.DeepKeys4
import Derived.Lib.EndianBits
import Derived.Test.YtbpmomedhdmloaaDoorFrame2
/-! The book of who signed what: plain, and in memory. -/
namespace Go.Proofs.YtbpmomedhdmloaaDoor
open Go.RowKit Go.Maps

/-- A key, and what it signed. -/
abbrev Ent := List Int × List Int
def EntOk (e : Ent) : Prop := DgOk e.1 ∧ DgOk e.2
def entC (e : Ent) : List Value := dl e.1 ++ dl e.2
theorem entC_len {e : Ent} (h : EntOk e) : (entC e).length = 16 := by simp [entC, dl_len, h.1.len, h.2.len]
theorem entC_one (e : Ent) : ∀ v ∈ entC e, v.oneCell' = true := by
  intro v hv
  rcases List.mem_append.1 hv with hv | hv
  · exact dl_one' _ v hv
  · exact dl_one' _ v hv
theorem dl_inj {a b : List Int} (h : dl a = dl b) : a = b := by
  have : ∀ (a b : List Int), dl a = dl b → a = b := by
    intro a
    induction a with
    | nil => intro b h; cases b with
      | nil => rfl
      | cons y b => simp [dl] at h
    | cons x a ih => intro b h; cases b with
      | nil => simp [dl] at h
      | cons y b =>
        simp only [dl, List.map_cons, List.cons.injEq, Value.int.injEq, true_and] at h
        rw [h.1, ih b h.2]
  exact this a b h
theorem entC_inj {e f : Ent} (he : EntOk e) (hf : EntOk f) (h : entC e = entC f) : e = f := by
  have := List.append_inj h (by rw [dl_len, dl_len, he.1.len, hf.1.len])
  exact Prod.ext (dl_inj this.1) (dl_inj this.2)

/-- What the key of a map of entries reads as. -/
def entK (e : Ent) : Lit := .string (keyBytes ((e.1 ++ e.2).map (Lit.int .u8)))
theorem wf8 {x : Int} (h : 0 ≤ x ∧ x < 256) : (Lit.int .u8 x).wf = true := by
  have h1 : IntKind.u8.min = 0 := by decide
  have h2 : IntKind.u8.max = 255 := by decide
  simp only [Lit.wf, h1, h2, Bool.and_eq_true, decide_eq_true_eq]; omega
theorem lits_dg {d : Nat} {a : List Int} (h : DgOk a) : Tryd.prog.keyLits (d + 2) 28 (dl a) = some (a.map (Lit.int .u8)) := by
  obtain ⟨a0, a1, a2, a3, a4, a5, a6, a7, rfl⟩ := list8 a h.len
  have b := h.byt
  have w0 := wf8 (b a0 (by simp)); have w1 := wf8 (b a1 (by simp)); have w2 := wf8 (b a2 (by simp)); have w3 := wf8 (b a3 (by simp))
  have w4 := wf8 (b a4 (by simp)); have w5 := wf8 (b a5 (by simp)); have w6 := wf8 (b a6 (by simp)); have w7 := wf8 (b a7 (by simp))
  have c1 : Tryd.prog.cellsOf 5 = 1 := by kernel_rfl
  have c8 : Tryd.prog.cellsOf 28 = 8 := by kernel_rfl
  have hu : ∀ x : Int, (Lit.int .u8 x).wf = true → Tryd.prog.keyLits (d + 1) 5 [.int .u8 x] = some [.int .u8 x] := fun x hx => by
    unfold Program.keyLits
    simp [Tryd.underlying5, hx]
  unfold Program.keyLits
  simp only [Tryd.underlying28]
  rw [if_pos (by rw [c8]; rfl), c1]
  simp [List.range, List.range.loop, dl, hu _ w0, hu _ w1, hu _ w2, hu _ w3, hu _ w4, hu _ w5, hu _ w6, hu _ w7]
theorem entK_lit (e : Ent) : WideAt.IsKeyLit (entK e) := trivial

/-! The map of a book's entries, as read. -/
def bookF : List Ent → Nat → DataW Unit → DataW Unit
  | [], _, D => D
  | e :: es, i, D => bookF es (i + 1) (D.put (entK e) (.lit (.int .i64 i)))
def bookD (es : List Ent) : DataW Unit := bookF es 0 (.map [])
theorem bookF_snoc : ∀ (es : List Ent) (e : Ent) (i : Nat) (D : DataW Unit), bookF (es ++ [e]) i D = (bookF es i D).put (entK e) (.lit (.int .i64 ((i + es.length : Nat) : Int)))
  | [], e, i, D => by simp [bookF]
  | x :: es, e, i, D => by
    rw [List.cons_append, bookF, bookF_snoc es e (i + 1), bookF, List.length_cons]
    congr 4; omega
theorem bookD_snoc (es : List Ent) (e : Ent) : bookD (es ++ [e]) = (bookD es).put (entK e) (.lit (.int .i64 (es.length : Int))) := by
  have := bookF_snoc es e 0 (.map []); simpa [bookD] using this
theorem bookF_map : ∀ (es : List Ent) (i : Nat) (D : DataW Unit), IsMap D → IsMap (bookF es i D)
  | [], _, _, h => h
  | _e :: es, i, _D, h => bookF_map es (i + 1) _ (h.put _ _)
def BookOk (es : List Ent) : Prop := (∀ e ∈ es, EntOk e) ∧ es.Nodup
theorem bookD_map (es : List Ent) : IsMap (bookD es) := bookF_map es 0 _ isMap_empty
theorem BookOk.init {es : List Ent} {e : Ent} (h : BookOk (es ++ [e])) : BookOk es := ⟨fun x hx => h.1 x (by simp [hx]), (List.nodup_append.1 h.2).1⟩
theorem idx_app_old {es : List Ent} {e : Ent} (h : e ∈ es) (l : List Ent) : (es ++ l).idxOf e = es.idxOf e := by rw [List.idxOf_append, if_pos h]
theorem idx_app_new {es : List Ent} {e : Ent} (h : e ∉ es) : (es ++ [e]).idxOf e = es.length := by rw [List.idxOf_append, if_neg h]; simp
theorem snoc_ind {α : Type} {p : List α → Prop} (h0 : p []) (h1 : ∀ l a, p l → p (l ++ [a])) (l : List α) : p l := by
  have : ∀ l : List α, p l.reverse := fun l => by
    induction l with
    | nil => exact h0
    | cons a l ih => rw [List.reverse_cons]; exact h1 _ a ih
  have := this l.reverse
  rwa [List.reverse_reverse] at this
/-- With one entry more, if it isn't there. -/
def bookS (es : List Ent) (e : Ent) : List Ent := if e ∈ es then es else es ++ [e]
theorem bookS_ok {es : List Ent} {e : Ent} (h : BookOk es) (he : EntOk e) : BookOk (bookS es e) := by
  unfold bookS
  split
  · exact h
  · rename_i hn
    exact ⟨fun x hx => by rcases List.mem_append.1 hx with hx | hx; · exact h.1 x hx
                          · rw [List.mem_singleton] at hx; exact hx ▸ he, List.nodup_append.2 ⟨h.2, by simp, fun a ha b hb => by rw [List.mem_singleton] at hb; subst hb; rintro rfl; exact hn ha⟩⟩
theorem bookS_len (es : List Ent) (e : Ent) : (bookS es e).length ≤ es.length + 1 := by unfold bookS; split <;> simp
theorem idx_le (es : List Ent) (e : Ent) : es.idxOf e ≤ es.length := List.idxOf_le_length
/-- A signature's bytes. -/
def sigB (i : Nat) : List Int := [(i % 256 : Nat), (i / 256 : Nat)]
/-- Has that been signed? -/
def verB (es : List Ent) (e : Ent) (sig : List Int) : Bool := decide (e ∈ es ∧ sig = sigB (es.idxOf e))
end Go.Proofs.YtbpmomedhdmloaaDoor

/-! The book in memory: a new one, and a look into it. -/
namespace Go.Proofs.YtbpmomedhdmloaaDoor
open Go.RowKit Go.Maps

section
variable {w w' : World} {lo g : Nat} {es : List Ent}
end

/-- A look into the map. -/
theorem zeroInt (w : World) : (zeroValue 3).run Tryd.prog w = .ok (.int .i64 0) w := by kernel_rfl
def wrC (g : Nat) (k : List Int) : List Value := .pointer (some ⟨g, 0, none⟩) :: dl k
theorem sig_or {x y : Int} (hx : 0 ≤ x ∧ x < 256) (hy : 0 ≤ y ∧ y < 256) : bits .or .i64 x (y * 256) = x + y * 256 :=
  bits_join_low .i64 63 (by decide) (fun n h0 h1 => by rw [IntKind.wrap_i64]; omega) 8 x (y * 256) hx.1 (by omega) (by omega) (by omega) (by omega) (by omega)
end Go.Proofs.YtbpmomedhdmloaaDoor

/-! The book: a message is signed. -/
namespace Go.Proofs.YtbpmomedhdmloaaDoor
open Go.RowKit Go.Maps

section
variable {P : Program}
theorem wp_bslice {o : Oper} {a : Act} {w : World} {K : Act → World → Prop} {Q : Exit → Act → World → Prop} (t : TypeId) (n : Nat) (parts : Array (Nat × Operand)) (ho : o.op = .buildSlice t n parts) (vals : Array (Nat × Value))
    (hv : (parts.map fun x => (x.1, a.eval x.2)) = vals) (v : Value) (w' : World) (hb : (Instr.buildSlice t n vals).run P w = .ok v w') (h : K (a.put o.dst v) w') : o.wp P a w K Q := by
  subst hv
  unfold Oper.wp execOp
  simp only [ho, Sem.run_bind, hb, Result.andThen_ok, Sem.run_pure]
  exact h
theorem wp_mapU {o : Oper} {a : Act} {w : World} {K : Act → World → Prop} {Q : Exit → Act → World → Prop} (t : TypeId) (m x v : Operand) (ho : o.op = .mapUpdate t m x v) (M X V : Value) (hm : a.eval m = M) (hx : a.eval x = X) (hv : a.eval v = V) (w' : World)
    (hb : (Instr.mapUpdate t M X V).run P w = .ok () w') (h : K (a.put o.dst undef) w') : o.wp P a w K Q := by
  unfold Oper.wp
  simp [execOp, ho, hm, hx, hv, hb, Result.andThen]
  exact h
end
theorem map_apart {w : World} {base size n m b : Nat} {e : TypeId} {v : Value} {xs : List Value} {P : Program} {k : TypeId} {R : Value → Option (DataW Unit × List MemPlace)} {D : DataW Unit} (h : w.ownsMap P k R b m D) (ho : w.ownsRow base e size v n xs) : some b ≠ v.ownBlock := by
  intro he
  rcases own_bk ho with ⟨rfl, _⟩ | ⟨q, cap, zs, rfl, _, hb, _⟩
  · simp [Value.ownBlock] at he
  · have he : b = q := by simpa [Value.ownBlock] using he
    subst he
    obtain ⟨ms, c, hm, _⟩ := h
    unfold Bk at hb; rw [hb] at hm; cases hm
theorem map_ne {w : World} {m b g : Nat} {t : TypeId} {xs : List Value} {P : Program} {k : TypeId} {R : Value → Option (DataW Unit × List MemPlace)} {D : DataW Unit} (h : w.ownsMap P k R b m D) (ho : Bk w g t xs) : b ≠ g := by
  rintro rfl
  obtain ⟨ms, c, hm, _⟩ := h
  unfold Bk at ho; rw [ho] at hm; cases hm
theorem bk2 {w : World} {g : Nat} {t : TypeId} {a b : Value} (h : Bk w g t [a, b]) : w.cell? ⟨g, 0, none⟩ = some a ∧ w.cell? ⟨g, 1, none⟩ = some b := ⟨by rw [h.cell]; rfl, by rw [h.cell]; rfl⟩
theorem sig_own {w : World} {i : Nat} (_hi : i < 65536) : OwnB w.heap.size (sigB i) w (.slice (some ⟨w.heap.size, 0, none⟩) 2 2) (w.alloc (.cells #[.int .u8 ((i : Int) % 256), .int .u8 ((i : Int) / 256)] 5)) := by
  have e : (sigB i).map (Value.int .u8) = [.int .u8 ((i : Int) % 256), .int .u8 ((i : Int) / 256)] := by simp [sigB]
  refine ⟨?_, below_new w _⟩
  rw [e]
  exact (Bk.new' w 5 #[.int .u8 ((i : Int) % 256), .int .u8 ((i : Int) / 256)] rfl).own (Nat.le_refl _) (Nat.le_refl _) (by omega) rfl rfl

theorem entC_nat {es : List Ent} (h : BookOk es) : (es.flatMap entC).length = es.length * 16 := flat_len es (fun e he => entC_len (h.1 e he))
end Go.Proofs.YtbpmomedhdmloaaDoor

/-! The book: who signs, and whether it was signed. -/
namespace Go.Proofs.YtbpmomedhdmloaaDoor
open Go.RowKit Go.Maps

structure WrM (w : World) (q g : Nat) (k : List Int) : Prop where
  c0 : w.cell? ⟨q, 0, none⟩ = some (.pointer (some ⟨g, 0, none⟩))
  r1 : w.rangeAt q 1 (dl k)
theorem wr_mem {w : World} {q g : Nat} {k : List Int} {ty : TypeId} (h : Bk w q ty (wrC g k)) : WrM w q g k := by
  have h1 : Bk w q ty ([] ++ .pointer (some ⟨g, 0, none⟩) :: dl k) := h
  have h2 : Bk w q ty ([.pointer (some ⟨g, 0, none⟩)] ++ (dl k ++ [])) := by simpa [wrC] using h
  exact ⟨h1.at1 rfl, h2.range rfl⟩

theorem ver_bytes {I : Nat} (_hI : I < 65536) {x y : Int} (hx : 0 ≤ x ∧ x < 256) (_hy : 0 ≤ y ∧ y < 256) : decide ((I : Int) = x + y * 256) = decide ([x, y] = sigB I) := by
  have : ((I : Int) = x + y * 256) ↔ [x, y] = sigB I := by
    simp only [sigB, List.cons.injEq, and_true]; omega
  simp only [this]

end Go.Proofs.YtbpmomedhdmloaaDoor
