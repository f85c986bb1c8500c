/- The book of who signed what: plain, and in memory. The book in memory: a new one, and a look into it. The book: a message is signed. The book: who signs, and whether it was signed. -/
import Derived.Test.YtakfdlokgddaoaaDoorS3
import Derived.Maps.OwnSet
import Derived.Maps.OwnOps
import Derived.Maps.Views
import Derived.DeepKeys4
import Derived.Lib.EndianBits
import Derived.Test.YtakfdlokgddaoaaDoorFrame2
/-! The book of who signed what: plain, and in memory. -/
namespace Go.Proofs.YtakfdlokgddaoaaDoor
open Go.RowKit Go.Maps

/-- A key, and what it signed. -/
abbrev Ent := List Int × List Int
def EntOk (e : Ent) : Prop := DgOk e.1 ∧ DgOk e.2
def entC (e : Ent) : List Value := dl e.1 ++ dl e.2
theorem entC_len {e : Ent} (h : EntOk e) : (entC e).length = 16 := by simp [entC, dl_len, h.1.len, h.2.len]
theorem entC_one (e : Ent) : ∀ v ∈ entC e, v.oneCell' = true := by
  intro v hv
  rcases List.mem_append.1 hv with hv | hv
  · exact dl_one' _ v hv
  · exact dl_one' _ v hv
theorem dl_inj {a b : List Int} (h : dl a = dl b) : a = b := by
  have : ∀ (a b : List Int), dl a = dl b → a = b := by
    intro a
    induction a with
    | nil => intro b h; cases b with
      | nil => rfl
      | cons y b => simp [dl] at h
    | cons x a ih => intro b h; cases b with
      | nil => simp [dl] at h
      | cons y b =>
        simp only [dl, List.map_cons, List.cons.injEq, Value.int.injEq, true_and] at h
        rw [h.1, ih b h.2]
  exact this a b h
theorem entC_inj {e f : Ent} (he : EntOk e) (hf : EntOk f) (h : entC e = entC f) : e = f := by
  have := List.append_inj h (by rw [dl_len, dl_len, he.1.len, hf.1.len])
  exact Prod.ext (dl_inj this.1) (dl_inj this.2)

/-- What the key of a map of entries reads as. -/
def entK (e : Ent) : Lit := .string (keyBytes ((e.1 ++ e.2).map (Lit.int .u8)))
theorem Tryd.deepEnt : WideMaps.KeyLaw Tryd.prog 101 := deep_law_laid (by kernel_rfl) (m := 4) (by omega) (of_decide_eq_true (by kernel_rfl)) (by kernel_rfl) (by kernel_rfl)
theorem Tryd.keyedEnt : Keyed Tryd.prog 101 := Keyed.of_law Tryd.deepEnt
theorem keyType_ent : Tryd.prog.keyType 101 = true := by kernel_rfl
theorem cells_ent : Tryd.prog.cellsOf 101 = 16 := by kernel_rfl
theorem wf8 {x : Int} (h : 0 ≤ x ∧ x < 256) : (Lit.int .u8 x).wf = true := by
  have h1 : IntKind.u8.min = 0 := by decide
  have h2 : IntKind.u8.max = 255 := by decide
  simp only [Lit.wf, h1, h2, Bool.and_eq_true, decide_eq_true_eq]; omega
theorem lits_dg {d : Nat} {a : List Int} (h : DgOk a) : Tryd.prog.keyLits (d + 2) 23 (dl a) = some (a.map (Lit.int .u8)) := by
  obtain ⟨a0, a1, a2, a3, a4, a5, a6, a7, rfl⟩ := list8 a h.len
  have b := h.byt
  have w0 := wf8 (b a0 (by simp)); have w1 := wf8 (b a1 (by simp)); have w2 := wf8 (b a2 (by simp)); have w3 := wf8 (b a3 (by simp))
  have w4 := wf8 (b a4 (by simp)); have w5 := wf8 (b a5 (by simp)); have w6 := wf8 (b a6 (by simp)); have w7 := wf8 (b a7 (by simp))
  have c1 : Tryd.prog.cellsOf 5 = 1 := by kernel_rfl
  have c8 : Tryd.prog.cellsOf 23 = 8 := by kernel_rfl
  have hu : ∀ x : Int, (Lit.int .u8 x).wf = true → Tryd.prog.keyLits (d + 1) 5 [.int .u8 x] = some [.int .u8 x] := fun x hx => by
    unfold Program.keyLits
    simp [Tryd.underlying5, hx]
  unfold Program.keyLits
  simp only [Tryd.underlying23]
  rw [if_pos (by rw [c8]; rfl), c1]
  simp [List.range, List.range.loop, dl, hu _ w0, hu _ w1, hu _ w2, hu _ w3, hu _ w4, hu _ w5, hu _ w6, hu _ w7]
theorem keyOf_ent {e : Ent} (h : EntOk e) : keyOf Tryd.prog 101 (.agg (entC e).toArray) = some (entK e) := by
  have cd : Tryd.prog.cellsOf 23 = 8 := by kernel_rfl
  have hl := entC_len h
  have hsz : ∃ m, Tryd.prog.types.size + 1 = m + 3 := ⟨Tryd.prog.types.size - 2, by have : 2 ≤ Tryd.prog.types.size := of_decide_eq_true (by kernel_rfl); omega⟩
  obtain ⟨m, hm⟩ := hsz
  have t1 : (entC e).take 8 = dl e.1 := by rw [entC, List.take_append_of_le_length (by rw [dl_len, h.1.len]; omega), List.take_of_length_le (by rw [dl_len, h.1.len]; omega)]
  have t2 : ((entC e).drop 8).take 8 = dl e.2 := by
    rw [entC, List.drop_append, List.drop_of_length_le (by rw [dl_len, h.1.len]; omega), List.nil_append, dl_len, h.1.len, Nat.sub_self, List.drop_zero, List.take_of_length_le (by rw [dl_len, h.2.len]; omega)]
  unfold keyOf
  simp only [Tryd.underlying101]
  rw [if_pos (by rw [keyType_ent]; simp [Value.formed, Tryd.underlying101, cells_ent, hl]), hm]
  unfold Program.keyLits
  simp only [Tryd.underlying101, Value.cells]
  rw [if_pos ⟨by rw [cells_ent]; simpa using hl, by simp⟩]
  simp [cd, t1, t2, lits_dg h.1, lits_dg h.2, entK]
theorem entK_inj {e f : Ent} (he : EntOk e) (hf : EntOk f) (h : entK e = entK f) : e = f := by
  have h2 := keyOf_ent hf
  rw [← h] at h2
  have := Tryd.keyedEnt.inj (keyOf_ent he) h2
  have := Value.agg.inj this
  exact entC_inj he hf (by simpa using this)
theorem entK_lit (e : Ent) : WideAt.IsKeyLit (entK e) := trivial

/-! The map of a book's entries, as read. -/
def bookF : List Ent → Nat → DataW Unit → DataW Unit
  | [], _, D => D
  | e :: es, i, D => bookF es (i + 1) (D.put (entK e) (.lit (.int .i64 i)))
def bookD (es : List Ent) : DataW Unit := bookF es 0 (.map [])
theorem bookF_snoc : ∀ (es : List Ent) (e : Ent) (i : Nat) (D : DataW Unit), bookF (es ++ [e]) i D = (bookF es i D).put (entK e) (.lit (.int .i64 ((i + es.length : Nat) : Int)))
  | [], e, i, D => by simp [bookF]
  | x :: es, e, i, D => by
    rw [List.cons_append, bookF, bookF_snoc es e (i + 1), bookF, List.length_cons]
    congr 4; omega
theorem bookD_snoc (es : List Ent) (e : Ent) : bookD (es ++ [e]) = (bookD es).put (entK e) (.lit (.int .i64 (es.length : Int))) := by
  have := bookF_snoc es e 0 (.map []); simpa [bookD] using this
theorem bookF_map : ∀ (es : List Ent) (i : Nat) (D : DataW Unit), IsMap D → IsMap (bookF es i D)
  | [], _, _, h => h
  | _e :: es, i, _D, h => bookF_map es (i + 1) _ (h.put _ _)
def BookOk (es : List Ent) : Prop := (∀ e ∈ es, EntOk e) ∧ es.Nodup
theorem bookD_map (es : List Ent) : IsMap (bookD es) := bookF_map es 0 _ isMap_empty
theorem BookOk.init {es : List Ent} {e : Ent} (h : BookOk (es ++ [e])) : BookOk es := ⟨fun x hx => h.1 x (by simp [hx]), (List.nodup_append.1 h.2).1⟩
theorem idx_app_old {es : List Ent} {e : Ent} (h : e ∈ es) (l : List Ent) : (es ++ l).idxOf e = es.idxOf e := by rw [List.idxOf_append, if_pos h]
theorem idx_app_new {es : List Ent} {e : Ent} (h : e ∉ es) : (es ++ [e]).idxOf e = es.length := by rw [List.idxOf_append, if_neg h]; simp
theorem snoc_ind {α : Type} {p : List α → Prop} (h0 : p []) (h1 : ∀ l a, p l → p (l ++ [a])) (l : List α) : p l := by
  have : ∀ l : List α, p l.reverse := fun l => by
    induction l with
    | nil => exact h0
    | cons a l ih => rw [List.reverse_cons]; exact h1 _ a ih
  have := this l.reverse
  rwa [List.reverse_reverse] at this
theorem book_facts (es : List Ent) : BookOk es → ∀ e, EntOk e → Maps.has (bookD es) (entK e) = decide (e ∈ es) ∧ (e ∈ es → ∀ z, (bookD es).atKey (entK e) z = .lit (.int .i64 (es.idxOf e : Int))) := by
  induction es using snoc_ind with
  | h0 => intro _ e _; exact ⟨rfl, fun h => by simp at h⟩
  | h1 es f ih =>
    intro hok e he
    have hf : EntOk f := hok.1 f (by simp)
    have ih' := ih hok.init e he
    have hfn : f ∉ es := by
      intro hm
      have := (List.nodup_append.1 hok.2).2.2
      exact this f hm f (by simp) rfl
    rw [bookD_snoc]
    by_cases h : e = f
    · subst h
      refine ⟨by rw [has_put_same (bookD_map es) (entK_lit e)]; simp, fun _ z => ?_⟩
      rw [atKey_put_same (bookD_map es) (entK_lit e), idx_app_new hfn]
    · have hne : entK e ≠ entK f := fun hk => h (entK_inj he hf hk)
      refine ⟨by rw [has_put_other hne, ih'.1]; simp [h], fun hm z => ?_⟩
      have hm' : e ∈ es := by simpa [h] using hm
      rw [atKey_put_other hne, ih'.2 hm', idx_app_old hm' _]

/-- With one entry more, if it isn't there. -/
def bookS (es : List Ent) (e : Ent) : List Ent := if e ∈ es then es else es ++ [e]
theorem bookS_ok {es : List Ent} {e : Ent} (h : BookOk es) (he : EntOk e) : BookOk (bookS es e) := by
  unfold bookS
  split
  · exact h
  · rename_i hn
    exact ⟨fun x hx => by rcases List.mem_append.1 hx with hx | hx; · exact h.1 x hx
                          · rw [List.mem_singleton] at hx; exact hx ▸ he, List.nodup_append.2 ⟨h.2, by simp, fun a ha b hb => by rw [List.mem_singleton] at hb; subst hb; rintro rfl; exact hn ha⟩⟩
theorem bookS_len (es : List Ent) (e : Ent) : (bookS es e).length ≤ es.length + 1 := by unfold bookS; split <;> simp
theorem idx_le (es : List Ent) (e : Ent) : es.idxOf e ≤ es.length := List.idxOf_le_length
/-- A signature's bytes. -/
def sigB (i : Nat) : List Int := [(i % 256 : Nat), (i / 256 : Nat)]
/-- Has that been signed? -/
def verB (es : List Ent) (e : Ent) (sig : List Int) : Bool := decide (e ∈ es ∧ sig = sigB (es.idxOf e))
end Go.Proofs.YtakfdlokgddaoaaDoor

/-! The book in memory: a new one, and a look into it. -/
namespace Go.Proofs.YtakfdlokgddaoaaDoor
open Go.RowKit Go.Maps

/-- A book: block g; all its blocks lie from lo on. -/
def BookAt (w : World) (lo g : Nat) (es : List Ent) : Prop :=
  ∃ (V : Value) (b : Nat), Bk w g 95 [V, .map (some b)] ∧ w.ownsRow lo 101 16 V es.length (es.flatMap entC) ∧ w.ownsMap (H := Unit) Tryd.prog 101 (plainElem Tryd.prog 3) b es.length (bookD es) ∧ lo ≤ g ∧ lo ≤ b ∧ BookOk es
/-- What is no part of a book stays. -/
structure Keeps (w w' : World) : Prop where
  size : w.heap.size ≤ w'.heap.size
  blk : ∀ (i : Nat) (cs : Array Value) (t : TypeId) (fr : Nat × Nat), w.heap[i]? = some (.cells cs t fr) → t ≠ 95 → t ≠ 101 → w'.heap[i]? = w.heap[i]?
theorem Keeps.refl (w : World) : Keeps w w := ⟨Nat.le_refl _, fun _ _ _ _ _ _ _ => rfl⟩
theorem Keeps.trans {a b c : World} (h : Keeps a b) (k : Keeps b c) : Keeps a c :=
  ⟨Nat.le_trans h.size k.size, fun i cs t fr hi h1 h2 => (k.blk i cs t fr ((h.blk i cs t fr hi h1 h2).trans hi) h1 h2).trans (h.blk i cs t fr hi h1 h2)⟩
theorem Keeps.of_below {w w' : World} (h : Below w.heap.size w w') : Keeps w w' :=
  ⟨h.size, fun i _cs _t _fr hi _ _ => h.block i (Array.getElem?_eq_some_iff.1 hi).1⟩
theorem Keeps.of_grown {w w' : World} {q : Nat} {t : TypeId} {cs : Array Value} {fr : Nat × Nat} (h : w.grownBy w' (some q)) (hq : w.heap[q]? = some (.cells cs t fr)) (ht : t = 95 ∨ t = 101) : Keeps w w' :=
  ⟨h.size, fun i cs' t' fr' hi h1 h2 => h.block i (Array.getElem?_eq_some_iff.1 hi).1 (by
    rintro e; injection e with e; subst e; rw [hi] at hq; injection hq with hq; injection hq with _ hq; rcases ht with ht | ht
    · exact h1 (hq.trans ht)
    · exact h2 (hq.trans ht))⟩
theorem Keeps.of_map {w w' : World} {q : Nat} {es : Array MapEntry} {c : Nat} (h : w.grownBy w' (some q)) (hq : w.heap[q]? = some (.map es c)) : Keeps w w' :=
  ⟨h.size, fun i cs' t' fr' hi h1 h2 => h.block i (Array.getElem?_eq_some_iff.1 hi).1 (by rintro e; injection e with e; subst e; rw [hi] at hq; cases hq)⟩
theorem Bk.keeps {w w' : World} {g : Nat} {t : TypeId} {xs : List Value} (h : Bk w g t xs) (hk : Keeps w w') (h1 : t ≠ 95) (h2 : t ≠ 101) : Bk w' g t xs := (hk.blk g _ t _ h h1 h2).trans h
theorem own_keeps {w w' : World} {base size n : Nat} {e : TypeId} {v : Value} {xs : List Value} (h : w.ownsRow base e size v n xs) (hk : Keeps w w') (h1 : e ≠ 95) (h2 : e ≠ 101) : w'.ownsRow base e size v n xs := by
  obtain ⟨hl, h⟩ := h
  refine ⟨hl, h.imp id ?_⟩
  rintro ⟨g', cap, cur, e1, e2, e3, r⟩
  exact ⟨g', cap, cur, e1, e2, (hk.blk g' _ e _ e3 h1 h2).trans e3, r⟩

section
variable {w w' : World} {lo g : Nat} {es : List Ent}
theorem BookAt.lt (h : BookAt w lo g es) : g < w.heap.size := by obtain ⟨V, b, h1, _⟩ := h; exact h1.lt
theorem BookAt.ok (h : BookAt w lo g es) : BookOk es := by obtain ⟨V, b, _, _, _, _, _, h⟩ := h; exact h
theorem BookAt.later (h : BookAt w lo g es) (hb : Below w.heap.size w w') : BookAt w' lo g es := by
  obtain ⟨V, b, h1, h2, h3, h4⟩ := h
  exact ⟨V, b, h1.later hb, own_keep h2 hb, h3.kept (row := none) ⟨hb.os, hb.tape, hb.output, hb.size, fun k hk _ => hb.block k hk⟩ (by simp), h4⟩
/-- Another block turns. -/
theorem BookAt.apart {q : Nat} {t : TypeId} {cs : Array Value} {fr : Nat × Nat} (h : BookAt w lo g es) (hg : w.grownBy w' (some q)) (hq : w.heap[q]? = some (.cells cs t fr)) (h1 : t ≠ 95) (h2 : t ≠ 101) : BookAt w' lo g es := by
  obtain ⟨V, b, k1, k2, k3, k4⟩ := h
  refine ⟨V, b, k1.grown hg ?_, ?_, k3.kept hg ?_, k4⟩
  · rintro e; injection e with e; subst e; unfold Bk at k1; rw [hq] at k1; injection k1 with k1; injection k1 with _ k1; exact h1 k1
  · rcases own_bk k2 with ⟨rfl, _⟩ | ⟨g', cap, zs, rfl, _, hb, _⟩
    · exact k2.kept hg (by simp [Value.ownBlock])
    · refine own_only k2 hg ?_
      intro e
      have e : g' = q := by simpa [Value.ownBlock] using e
      subst e; unfold Bk at hb; rw [hq] at hb; injection hb with hb; injection hb with _ hb; exact h2 hb
  · rintro e; injection e with e; subst e
    obtain ⟨ms, c, hm, _⟩ := k3
    rw [hq] at hm; cases hm
theorem BookAt.own {base size n : Nat} {e : TypeId} {v : Value} {xs : List Value} (h : BookAt w lo g es) (ho : w.ownsRow base e size v n xs) (hg : w.grownBy w' v.ownBlock) (h1 : e ≠ 95) (h2 : e ≠ 101) : BookAt w' lo g es := by
  rcases own_bk ho with ⟨rfl, _⟩ | ⟨q, cap, zs, rfl, _, hb, _⟩
  · obtain ⟨V, b, k1, k2, k3, k4⟩ := h
    exact ⟨V, b, k1.grown hg (by simp [Value.ownBlock]), k2.kept hg (by cases V.ownBlock <;> simp [Value.ownBlock]), k3.kept hg (by simp [Value.ownBlock]), k4⟩
  · exact h.apart hg hb h1 h2
theorem BookAt.put {q : Nat} {t : TypeId} {cs : List Value} (h : BookAt w lo g es) (hp : Put w w' q t cs) {ys : List Value} (hq : Bk w q t ys) (h1 : t ≠ 95) (h2 : t ≠ 101) : BookAt w' lo g es := h.apart hp.only hq h1 h2
end

theorem newBook_any (w : World) : Calls Tryd.prog 16 #[] w fun e w' => (∃ g, e = .returned (.pointer (some ⟨g, 0, none⟩)) ∧ BookAt w' w.heap.size g []) ∧ Below w.heap.size w w' := by
  have hmm := @run_makeMap Tryd.prog
  go_enter Tryd.func16, Tryd.ntmps16
  go_wp2_with fail
  go_ret
  have hb : Below w.heap.size w ((w.alloc (.map #[] 0)).alloc (.cells #[.slice none 0 0, .map (some w.heap.size)] 95)) := (below_new w _).alloc (by simp) _
  exact ⟨⟨_, rfl, .slice none 0 0, w.heap.size, Bk.at_ _ _ _ (by simp) rfl, World.ownsRow_nil _ _ _ _, (World.ownsMap_made w _ _ _).alloc _, by simp, Nat.le_refl _, ⟨by simp, by simp⟩⟩, hb⟩

/-- A look into the map. -/
theorem zeroInt (w : World) : (zeroValue 3).run Tryd.prog w = .ok (.int .i64 0) w := by kernel_rfl
theorem book_look {w : World} {b n : Nat} {es : List Ent} {e : Ent} (h : w.ownsMap (H := Unit) Tryd.prog 101 (plainElem Tryd.prog 3) b n (bookD es)) (hok : BookOk es) (he : EntOk e) :
    (Instr.lookup 92 (.map (some b)) (.agg (entC e).toArray) true).run Tryd.prog w = .ok (.tuple #[.int .i64 (if e ∈ es then (es.idxOf e : Int) else 0), .bool (decide (e ∈ es))]) w := by
  obtain ⟨v, ps, hrun, hv⟩ := h.look_ok Tryd.keyedEnt Tryd.underlying92 (zeroInt w) (plainElem_int Tryd.underlying3 (by decide)) (keyOf_ent he)
  obtain ⟨c, rfl, hc, _⟩ := plainElem_int_inv Tryd.underlying3 hv
  have hc := congrArg Prod.fst hc
  simp only at hc
  obtain ⟨f1, f2⟩ := book_facts es hok e he
  rw [hrun, f1]
  by_cases hm : e ∈ es
  · rw [f2 hm] at hc
    have hc := (Lit.int.inj (DataW.lit.inj hc)).2
    rw [if_pos hm, ← hc]
  · rw [atKey_of_not_has (by rw [f1]; simp [hm])] at hc
    have hc := (Lit.int.inj (DataW.lit.inj hc)).2
    rw [if_neg hm, ← hc]
/-- A new entry. -/
theorem book_store {w : World} {b : Nat} {es : List Ent} {e : Ent} (h : w.ownsMap (H := Unit) Tryd.prog 101 (plainElem Tryd.prog 3) b es.length (bookD es)) (he : EntOk e) (hl : es.length ≤ 65536) :
    ∃ w', (Instr.mapUpdate 92 (.map (some b)) (.agg (entC e).toArray) (.int .i64 (es.length : Int))).run Tryd.prog w = .ok () w' ∧ w'.ownsMap (H := Unit) Tryd.prog 101 (plainElem Tryd.prog 3) b (es ++ [e]).length (bookD (es ++ [e])) ∧ w.grownBy w' (some b) := by
  obtain ⟨w', h1, h2, h3⟩ := h.update Tryd.keyedEnt Tryd.underlying92 (by unfold maxLen; omega) (keyOf_ent he) (plainElem_int (a := (es.length : Int)) Tryd.underlying3 (by
    have h1 : IntKind.i64.min = -9223372036854775808 := by decide
    have h2 : IntKind.i64.max = 9223372036854775807 := by decide
    simp only [Lit.wf, h1, h2, Bool.and_eq_true, decide_eq_true_eq]; omega))
  exact ⟨w', h1, by rw [bookD_snoc, List.length_append]; exact h2, h3⟩
theorem bs_ent {e : Ent} (h : EntOk e) (w : World) : (Instr.buildSlice 93 1 #[(0, .agg (entC e).toArray)]).run Tryd.prog w = .ok (.slice (some ⟨w.heap.size, 0, none⟩) 1 1) (w.alloc (.cells (entC e).toArray 101)) := by
  obtain ⟨x, y⟩ := e
  obtain ⟨x0, x1, x2, x3, x4, x5, x6, x7, rfl⟩ := list8 x h.1.len
  obtain ⟨y0, y1, y2, y3, y4, y5, y6, y7, rfl⟩ := list8 y h.2.len
  kernel_rfl
theorem build_ent {x y : List Int} (hx : DgOk x) (hy : DgOk y) (w : World) : (Instr.build 101 #[(0, .agg (dl x).toArray), (1, .agg (dl y).toArray)]).run Tryd.prog w = .ok (.agg (entC (x, y)).toArray) w := by
  obtain ⟨x0, x1, x2, x3, x4, x5, x6, x7, rfl⟩ := list8 x hx.len
  obtain ⟨y0, y1, y2, y3, y4, y5, y6, y7, rfl⟩ := list8 y hy.len
  kernel_rfl
def wrC (g : Nat) (k : List Int) : List Value := .pointer (some ⟨g, 0, none⟩) :: dl k
theorem build_wr {k : List Int} (hk : DgOk k) (g : Nat) (w : World) : (Instr.build 99 #[(0, .pointer (some ⟨g, 0, none⟩)), (1, .agg (dl k).toArray)]).run Tryd.prog w = .ok (.agg (wrC g k).toArray) w := by
  obtain ⟨x0, x1, x2, x3, x4, x5, x6, x7, rfl⟩ := list8 k hk.len
  kernel_rfl
theorem sig_or {x y : Int} (hx : 0 ≤ x ∧ x < 256) (hy : 0 ≤ y ∧ y < 256) : bits .or .i64 x (y * 256) = x + y * 256 :=
  bits_join_low .i64 63 (by decide) (fun n h0 h1 => by rw [IntKind.wrap_i64]; omega) 8 x (y * 256) hx.1 (by omega) (by omega) (by omega) (by omega) (by omega)
end Go.Proofs.YtakfdlokgddaoaaDoor

/-! The book: a message is signed. -/
namespace Go.Proofs.YtakfdlokgddaoaaDoor
open Go.RowKit Go.Maps

section
variable {P : Program}
theorem wp_bslice {o : Oper} {a : Act} {w : World} {K : Act → World → Prop} {Q : Exit → Act → World → Prop} (t : TypeId) (n : Nat) (parts : Array (Nat × Operand)) (ho : o.op = .buildSlice t n parts) (vals : Array (Nat × Value))
    (hv : (parts.map fun x => (x.1, a.eval x.2)) = vals) (v : Value) (w' : World) (hb : (Instr.buildSlice t n vals).run P w = .ok v w') (h : K (a.put o.dst v) w') : o.wp P a w K Q := by
  subst hv
  unfold Oper.wp execOp
  simp only [ho, Sem.run_bind, hb, Result.andThen_ok, Sem.run_pure]
  exact h
theorem wp_mapU {o : Oper} {a : Act} {w : World} {K : Act → World → Prop} {Q : Exit → Act → World → Prop} (t : TypeId) (m x v : Operand) (ho : o.op = .mapUpdate t m x v) (M X V : Value) (hm : a.eval m = M) (hx : a.eval x = X) (hv : a.eval v = V) (w' : World)
    (hb : (Instr.mapUpdate t M X V).run P w = .ok () w') (h : K (a.put o.dst undef) w') : o.wp P a w K Q := by
  unfold Oper.wp
  simp [execOp, ho, hm, hx, hv, hb, Result.andThen]
  exact h
end
theorem map_apart {w : World} {base size n m b : Nat} {e : TypeId} {v : Value} {xs : List Value} {P : Program} {k : TypeId} {R : Value → Option (DataW Unit × List MemPlace)} {D : DataW Unit} (h : w.ownsMap P k R b m D) (ho : w.ownsRow base e size v n xs) : some b ≠ v.ownBlock := by
  intro he
  rcases own_bk ho with ⟨rfl, _⟩ | ⟨q, cap, zs, rfl, _, hb, _⟩
  · simp [Value.ownBlock] at he
  · have he : b = q := by simpa [Value.ownBlock] using he
    subst he
    obtain ⟨ms, c, hm, _⟩ := h
    unfold Bk at hb; rw [hb] at hm; cases hm
theorem map_ne {w : World} {m b g : Nat} {t : TypeId} {xs : List Value} {P : Program} {k : TypeId} {R : Value → Option (DataW Unit × List MemPlace)} {D : DataW Unit} (h : w.ownsMap P k R b m D) (ho : Bk w g t xs) : b ≠ g := by
  rintro rfl
  obtain ⟨ms, c, hm, _⟩ := h
  unfold Bk at ho; rw [ho] at hm; cases hm
theorem keeps_own {w w' : World} {base size n : Nat} {v : Value} {xs : List Value} (ho : w.ownsRow base 101 size v n xs) (hg : w.grownBy w' v.ownBlock) : Keeps w w' := by
  rcases own_bk ho with ⟨rfl, _⟩ | ⟨q, cap, zs, rfl, _, hb, _⟩
  · exact ⟨hg.size, fun i cs t fr hi _ _ => hg.block i (Array.getElem?_eq_some_iff.1 hi).1 (by simp [Value.ownBlock])⟩
  · exact Keeps.of_grown hg hb (.inr rfl)
theorem keeps_map {w w' : World} {m b : Nat} {P : Program} {k : TypeId} {R : Value → Option (DataW Unit × List MemPlace)} {D : DataW Unit} (h : w.ownsMap P k R b m D) (hg : w.grownBy w' (some b)) : Keeps w w' := by
  obtain ⟨ms, c, hm, _⟩ := h
  exact Keeps.of_map hg hm

theorem bk2 {w : World} {g : Nat} {t : TypeId} {a b : Value} (h : Bk w g t [a, b]) : w.cell? ⟨g, 0, none⟩ = some a ∧ w.cell? ⟨g, 1, none⟩ = some b := ⟨by rw [h.cell]; rfl, by rw [h.cell]; rfl⟩
theorem sig_own {w : World} {i : Nat} (_hi : i < 65536) : OwnB w.heap.size (sigB i) w (.slice (some ⟨w.heap.size, 0, none⟩) 2 2) (w.alloc (.cells #[.int .u8 ((i : Int) % 256), .int .u8 ((i : Int) / 256)] 5)) := by
  have e : (sigB i).map (Value.int .u8) = [.int .u8 ((i : Int) % 256), .int .u8 ((i : Int) / 256)] := by simp [sigB]
  refine ⟨?_, below_new w _⟩
  rw [e]
  exact (Bk.new' w 5 #[.int .u8 ((i : Int) % 256), .int .u8 ((i : Int) / 256)] rfl).own (Nat.le_refl _) (Nat.le_refl _) (by omega) rfl rfl

/-- What signing hands back. -/
def RetSig (lo g : Nat) (es : List Ent) (e : Ent) (w : World) (en : Ending) (w' : World) : Prop :=
  (∃ A c, en = .returned (.tuple #[.slice A 2 c, .int .i64 0]) ∧ w'.ownsRow w.heap.size 5 1 (.slice A 2 c) 2 ((sigB (es.idxOf e)).map (.int .u8))) ∧ BookAt w' lo g (bookS es e) ∧ Below lo w w' ∧ Keeps w w'
theorem entC_nat {es : List Ent} (h : BookOk es) : (es.flatMap entC).length = es.length * 16 := flat_len es (fun e he => entC_len (h.1 e he))
theorem Tryd.infoEnt : (Tryd.prog.info? 101).map (fun i => (i.zero.map fun z => z.cells.size, i.size, i.bytes)) = some (some 16, 16, 16) := by kernel_rfl

set_option maxRecDepth 20000 in
set_option maxHeartbeats 4000000 in
theorem sign_any (w : World) (lo g : Nat) (es : List Ent) (hbk : BookAt w lo g es) (e : Ent) (he : EntOk e) (hl : es.length < 65536) :
    Calls Tryd.prog 120 #[.pointer (some ⟨g, 0, none⟩), .agg (entC e).toArray] w (RetSig lo g es e w) := by
  have hgl := hbk.lt
  obtain ⟨V, b, k1, k2, k3, hlg, hlb, hok⟩ := hbk
  obtain ⟨A, c, rfl⟩ := own_form k2
  obtain ⟨n, hn⟩ : ∃ n, es.length = n := ⟨_, rfl⟩
  have HN := Lib.hid hn
  rw [hn] at k1 k2 k3 hl
  have HRB : Hid (∀ q, (Value.slice A n c).ownBlock = some q → q < w.heap.size) := fun q h => (k2.lt q h).2
  have hlw : lo ≤ w.heap.size := Nat.le_trans hlg (Nat.le_of_lt hgl)
  obtain ⟨X, hX⟩ : ∃ X, (entC e).toArray = X := ⟨_, rfl⟩
  obtain ⟨w1, hw1⟩ : ∃ w1, w.alloc (.cells X 101) = w1 := ⟨_, rfl⟩
  have hb1 : Below w.heap.size w w1 := hw1 ▸ below_new w _
  have kx : Bk w1 w.heap.size 101 (entC e) := hw1 ▸ Bk.new' w _ X (by rw [← hX])
  have HW := Lib.hid hw1; have HB1 := Lib.hid hb1; have HX := Lib.hid kx; have HE := Lib.hid he; have HOK := Lib.hid hok
  have HK1 := Lib.hid (k1.later hb1); have HK2 := Lib.hid (own_keep k2 hb1)
  have HK3 : Hid (w1.ownsMap (H := Unit) Tryd.prog 101 (plainElem Tryd.prog 3) b n (bookD es)) := k3.kept (row := none) ⟨hb1.os, hb1.tape, hb1.output, hb1.size, fun k hk _ => hb1.block k hk⟩ (by simp)
  have HE16 : Hid ((Tryd.prog.info? 101).map (·.size) = some (entC e).length) := by show _ = _; rw [entC_len he]; kernel_rfl
  obtain ⟨i0, hi0, hi1⟩ : ∃ i, Tryd.prog.info? 101 = some i ∧ (i.zero.map (fun z => z.cells.size), i.size, i.bytes) = (some 16, 16, 16) := by
    have := Tryd.infoEnt
    cases hq : Tryd.prog.info? 101 with
    | none => rw [hq] at this; cases this
    | some i => rw [hq] at this; exact ⟨i, rfl, by simpa using this⟩
  simp only [Prod.mk.injEq] at hi1
  obtain ⟨hiz, his, hib⟩ := hi1
  obtain ⟨z0, hz0, hz1⟩ := Option.map_eq_some_iff.1 hiz
  rw [hX]
  clear hX hw1 hb1 kx he hok k1 k2 k3 hiz hn
  obtain ⟨I, hI⟩ : ∃ I, es.idxOf e = I := ⟨_, rfl⟩
  have hI0 := idx_le es e
  rw [hI, HN.out] at hI0
  have HI := Lib.hid hI
  clear hI
  have hI1 : (I : Int) < 65536 := by omega
  have hw1 : IntKind.u8.wrap (I : Int) = (I : Int) % 256 := IntKind.wrap_u8 _
  have hw2 : IntKind.u8.wrap ((I : Int) / 256) = (I : Int) / 256 := by rw [IntKind.wrap_u8]; omega
  by_cases hm : e ∈ es
  · have HLK : Hid (∀ w', w'.ownsMap (H := Unit) Tryd.prog 101 (plainElem Tryd.prog 3) b n (bookD es) → (Instr.lookup 92 (.map (some b)) (.agg (entC e).toArray) true).run Tryd.prog w' = .ok (.tuple #[.int .i64 I, .bool true]) w') := fun w' h => by
      have := book_look h HOK.out HE.out
      rw [if_pos hm, HI.out, show decide (e ∈ es) = true by simpa using hm] at this
      exact this
    have HES : Hid (bookS es e = es) := by show _ = _; rw [bookS, if_pos hm]
    clear hm
    go_enter Tryd.func120, Tryd.ntmps120
    go_upto_region 1 with fail
    rw [HW.out]
    go_wp2_with fail
    refine wp_region_held_drew (S := fun w' => Bk w' w.heap.size 101 (entC e) ∧ Bk w' g 95 [.slice A n c, .map (some b)] ∧ w'.ownsMap (H := Unit) Tryd.prog 101 (plainElem Tryd.prog 3) b n (bookD es)) (by kernel_rfl) ⟨Bk.drew HX.out, Bk.drew HK1.out, HK3.out.drew⟩ (fun hHeld => ?_)
    refine wpAnyH_take (i := 0) (v := ?_) rfl (by kernel_rfl) (by kernel_rfl) (by kernel_rfl) (fun _ _ _ h => h) (Or.inl ⟨by rfl, ?_⟩) (by assumption) ?_
    rotate_left
    · intro w hSw
      (try dsimp only at hSw)
      go_simp
      try with_reducible rfl
    try simp only [Act.put, List.setIfInBounds_toArray, List.set_cons_zero, List.set_cons_succ, List.getElem_toArray, List.getElem_cons_zero]
    refine wpAnyH_take (i := 1) (v := ?_) rfl (by kernel_rfl) (by kernel_rfl) (by kernel_rfl) (fun _ _ _ h => h) (Or.inl ⟨by rfl, ?_⟩) (by assumption) ?_
    rotate_left
    · intro w hSw
      (try dsimp only at hSw)
      go_simp
      try with_reducible rfl
    try simp only [Act.put, List.setIfInBounds_toArray, List.set_cons_zero, List.set_cons_succ, List.getElem_toArray, List.getElem_cons_zero, List.getElem_cons_succ]
    refine wpAnyH_take (i := 2) (v := ?_) rfl (by kernel_rfl) (by kernel_rfl) (by kernel_rfl) (fun _ _ _ h => h) (Or.inl ⟨by rfl, ?_⟩) (by assumption) ?_
    rotate_left
    · intro w hSw
      (try dsimp only at hSw)
      go_simp
      try with_reducible rfl
    try simp only [Act.put, List.setIfInBounds_toArray, List.set_cons_zero, List.set_cons_succ, List.getElem_toArray, List.getElem_cons_zero, List.getElem_cons_succ]
    refine wpAnyH_take (i := 3) (v := ?_) rfl (by kernel_rfl) (by kernel_rfl) (by kernel_rfl) (fun _ _ _ h => h) (Or.inl ⟨by rfl, ?_⟩) (by assumption) ?_
    rotate_left
    · intro w hSw
      have hcell := (bk2 hSw.2.1).2
      clear hSw
      go_simp
      try with_reducible rfl
    try simp only [Act.put, List.setIfInBounds_toArray, List.set_cons_zero, List.set_cons_succ, List.getElem_toArray, List.getElem_cons_zero, List.getElem_cons_succ]
    refine wpAnyH_take (i := 4) (v := .agg (List.toArray (entC e))) rfl (by kernel_rfl) (by kernel_rfl) (by kernel_rfl) (fun _ _ _ h => h) (yieldsIf_load_mid (by rfl) _ _ rfl _ _ rfl (entC e) _ (fun w hSw => (Bk.range (pre := []) (post := []) (by simpa using hSw.1) rfl)) Tryd.underlying101 rfl (HE16.out)) (by assumption) ?_
    try simp only [Act.put, List.setIfInBounds_toArray, List.set_cons_zero, List.set_cons_succ, List.getElem_toArray, List.getElem_cons_zero, List.getElem_cons_succ]
    refine wpAnyH_take (i := 5) (v := ?_) rfl (by kernel_rfl) (by kernel_rfl) (by kernel_rfl) (fun _ _ _ h => h) (Or.inl ⟨by rfl, ?_⟩) (by assumption) ?_
    rotate_left
    · intro w hSw
      have hcell := HLK.out _ hSw.2.2
      clear hSw
      go_simp
      try with_reducible rfl
    try simp only [Act.put, List.setIfInBounds_toArray, List.set_cons_zero, List.set_cons_succ, List.getElem_toArray, List.getElem_cons_zero, List.getElem_cons_succ]
    refine wpAnyH_take (i := 6) (v := ?_) rfl (by kernel_rfl) (by kernel_rfl) (by kernel_rfl) (fun _ _ _ h => h) (Or.inl ⟨by rfl, ?_⟩) (by assumption) ?_
    rotate_left
    · intro w hSw
      (try dsimp only at hSw)
      go_simp
      try with_reducible rfl
    try simp only [Act.put, List.setIfInBounds_toArray, List.set_cons_zero, List.set_cons_succ, List.getElem_toArray, List.getElem_cons_zero, List.getElem_cons_succ]
    refine wpAnyH_take (i := 7) (v := ?_) rfl (by kernel_rfl) (by kernel_rfl) (by kernel_rfl) (fun _ _ _ h => h) (Or.inl ⟨by rfl, ?_⟩) (by assumption) ?_
    rotate_left
    · intro w hSw
      (try dsimp only at hSw)
      go_simp
      try with_reducible rfl
    try simp only [Act.put, List.setIfInBounds_toArray, List.set_cons_zero, List.set_cons_succ, List.getElem_toArray, List.getElem_cons_zero, List.getElem_cons_succ]
    refine wpAnyH_take (i := 8) (v := ?_) rfl (by kernel_rfl) (by kernel_rfl) (by kernel_rfl) (fun _ _ _ h => h) (Or.inl ⟨by rfl, ?_⟩) (by assumption) ?_
    rotate_left
    · intro w hSw
      (try dsimp only at hSw)
      go_simp
      try with_reducible rfl
    try simp only [Act.put, List.setIfInBounds_toArray, List.set_cons_zero, List.set_cons_succ, List.getElem_toArray, List.getElem_cons_zero, List.getElem_cons_succ]
    refine wpAnyH_take (i := 9) (v := ?_) rfl (by kernel_rfl) (by kernel_rfl) (by kernel_rfl) (fun _ _ _ h => h) (Or.inl ⟨by rfl, ?_⟩) (by assumption) ?_
    rotate_left
    · intro w hSw
      (try dsimp only at hSw)
      go_simp
      try with_reducible rfl
    try simp only [Act.put, List.setIfInBounds_toArray, List.set_cons_zero, List.set_cons_succ, List.getElem_toArray, List.getElem_cons_zero, List.getElem_cons_succ]
    refine wpAnyH_take (i := 10) (v := ?_) rfl (by kernel_rfl) (by kernel_rfl) (by kernel_rfl) (fun _ _ _ h => h) (Or.inl ⟨by rfl, ?_⟩) (by assumption) ?_
    rotate_left
    · intro w hSw
      (try dsimp only at hSw)
      go_simp
      try with_reducible rfl
    try simp only [Act.put, List.setIfInBounds_toArray, List.set_cons_zero, List.set_cons_succ, List.getElem_toArray, List.getElem_cons_zero, List.getElem_cons_succ]
    refine wpAnyH_done (by kernel_rfl) ?_ _
    clear hHeld
    go_wp2_with fail
    go_ret2
    have hs := sig_own (w := w1) (i := I) (by omega)
    refine ⟨⟨_, _, rfl, ?_⟩, ?_, (HB1.out.mono hlw).trans (hs.2.drew.mono (Nat.le_trans hlw HB1.out.size)), (Keeps.of_below HB1.out).trans (Keeps.of_below hs.2.drew)⟩
    · rw [HI.out]; exact own_base hs.1 HB1.out.size
    · rw [HES.out]
      exact BookAt.later ⟨_, b, HK1.out, by rw [HN.out]; exact HK2.out, by rw [HN.out]; exact HK3.out, hlg, hlb, HOK.out⟩ hs.2.drew
  · have HLK : Hid (∀ w', w'.ownsMap (H := Unit) Tryd.prog 101 (plainElem Tryd.prog 3) b n (bookD es) → (Instr.lookup 92 (.map (some b)) (.agg (entC e).toArray) true).run Tryd.prog w' = .ok (.tuple #[.int .i64 0, .bool false]) w') := fun w' h => by
      have := book_look h HOK.out HE.out
      rw [if_neg hm, show decide (e ∈ es) = false by simpa using hm] at this
      exact this
    have HES : Hid (bookS es e = es ++ [e]) := by show _ = _; rw [bookS, if_neg hm]
    obtain rfl : n = I := by rw [← HI.out, List.idxOf_eq_length hm, HN.out]
    have HNM := Lib.hid hm
    clear hm
    go_enter Tryd.func120, Tryd.ntmps120
    go_upto_region 1 with fail
    rw [HW.out]
    go_wp2_with fail
    refine wp_region_held_drew (S := fun w' => Bk w' w.heap.size 101 (entC e) ∧ Bk w' g 95 [.slice A n c, .map (some b)] ∧ w'.ownsMap (H := Unit) Tryd.prog 101 (plainElem Tryd.prog 3) b n (bookD es)) (by kernel_rfl) ⟨Bk.drew HX.out, Bk.drew HK1.out, HK3.out.drew⟩ (fun hHeld => ?_)
    refine wpAnyH_take (i := 0) (v := ?_) rfl (by kernel_rfl) (by kernel_rfl) (by kernel_rfl) (fun _ _ _ h => h) (Or.inl ⟨by rfl, ?_⟩) (by assumption) ?_
    rotate_left
    · intro w hSw
      (try dsimp only at hSw)
      go_simp
      try with_reducible rfl
    try simp only [Act.put, List.setIfInBounds_toArray, List.set_cons_zero, List.set_cons_succ, List.getElem_toArray, List.getElem_cons_zero]
    refine wpAnyH_take (i := 1) (v := ?_) rfl (by kernel_rfl) (by kernel_rfl) (by kernel_rfl) (fun _ _ _ h => h) (Or.inl ⟨by rfl, ?_⟩) (by assumption) ?_
    rotate_left
    · intro w hSw
      (try dsimp only at hSw)
      go_simp
      try with_reducible rfl
    try simp only [Act.put, List.setIfInBounds_toArray, List.set_cons_zero, List.set_cons_succ, List.getElem_toArray, List.getElem_cons_zero, List.getElem_cons_succ]
    refine wpAnyH_take (i := 2) (v := ?_) rfl (by kernel_rfl) (by kernel_rfl) (by kernel_rfl) (fun _ _ _ h => h) (Or.inl ⟨by rfl, ?_⟩) (by assumption) ?_
    rotate_left
    · intro w hSw
      (try dsimp only at hSw)
      go_simp
      try with_reducible rfl
    try simp only [Act.put, List.setIfInBounds_toArray, List.set_cons_zero, List.set_cons_succ, List.getElem_toArray, List.getElem_cons_zero, List.getElem_cons_succ]
    refine wpAnyH_take (i := 3) (v := ?_) rfl (by kernel_rfl) (by kernel_rfl) (by kernel_rfl) (fun _ _ _ h => h) (Or.inl ⟨by rfl, ?_⟩) (by assumption) ?_
    rotate_left
    · intro w hSw
      have hcell := (bk2 hSw.2.1).2
      clear hSw
      go_simp
      try with_reducible rfl
    try simp only [Act.put, List.setIfInBounds_toArray, List.set_cons_zero, List.set_cons_succ, List.getElem_toArray, List.getElem_cons_zero, List.getElem_cons_succ]
    refine wpAnyH_take (i := 4) (v := .agg (List.toArray (entC e))) rfl (by kernel_rfl) (by kernel_rfl) (by kernel_rfl) (fun _ _ _ h => h) (yieldsIf_load_mid (by rfl) _ _ rfl _ _ rfl (entC e) _ (fun w hSw => (Bk.range (pre := []) (post := []) (by simpa using hSw.1) rfl)) Tryd.underlying101 rfl (HE16.out)) (by assumption) ?_
    try simp only [Act.put, List.setIfInBounds_toArray, List.set_cons_zero, List.set_cons_succ, List.getElem_toArray, List.getElem_cons_zero, List.getElem_cons_succ]
    refine wpAnyH_take (i := 5) (v := ?_) rfl (by kernel_rfl) (by kernel_rfl) (by kernel_rfl) (fun _ _ _ h => h) (Or.inl ⟨by rfl, ?_⟩) (by assumption) ?_
    rotate_left
    · intro w hSw
      have hcell := HLK.out _ hSw.2.2
      clear hSw
      go_simp
      try with_reducible rfl
    try simp only [Act.put, List.setIfInBounds_toArray, List.set_cons_zero, List.set_cons_succ, List.getElem_toArray, List.getElem_cons_zero, List.getElem_cons_succ]
    refine wpAnyH_take (i := 6) (v := ?_) rfl (by kernel_rfl) (by kernel_rfl) (by kernel_rfl) (fun _ _ _ h => h) (Or.inl ⟨by rfl, ?_⟩) (by assumption) ?_
    rotate_left
    · intro w hSw
      (try dsimp only at hSw)
      go_simp
      try with_reducible rfl
    try simp only [Act.put, List.setIfInBounds_toArray, List.set_cons_zero, List.set_cons_succ, List.getElem_toArray, List.getElem_cons_zero, List.getElem_cons_succ]
    refine wpAnyH_take (i := 7) (v := ?_) rfl (by kernel_rfl) (by kernel_rfl) (by kernel_rfl) (fun _ _ _ h => h) (Or.inl ⟨by rfl, ?_⟩) (by assumption) ?_
    rotate_left
    · intro w hSw
      (try dsimp only at hSw)
      go_simp
      try with_reducible rfl
    try simp only [Act.put, List.setIfInBounds_toArray, List.set_cons_zero, List.set_cons_succ, List.getElem_toArray, List.getElem_cons_zero, List.getElem_cons_succ]
    refine wpAnyH_take (i := 8) (v := ?_) rfl (by kernel_rfl) (by kernel_rfl) (by kernel_rfl) (fun _ _ _ h => h) (Or.inl ⟨by rfl, ?_⟩) (by assumption) ?_
    rotate_left
    · intro w hSw
      (try dsimp only at hSw)
      go_simp
      try with_reducible rfl
    try simp only [Act.put, List.setIfInBounds_toArray, List.set_cons_zero, List.set_cons_succ, List.getElem_toArray, List.getElem_cons_zero, List.getElem_cons_succ]
    refine wpAnyH_take (i := 9) (v := ?_) rfl (by kernel_rfl) (by kernel_rfl) (by kernel_rfl) (fun _ _ _ h => h) (Or.inl ⟨by rfl, ?_⟩) (by assumption) ?_
    rotate_left
    · intro w hSw
      (try dsimp only at hSw)
      go_simp
      try with_reducible rfl
    try simp only [Act.put, List.setIfInBounds_toArray, List.set_cons_zero, List.set_cons_succ, List.getElem_toArray, List.getElem_cons_zero, List.getElem_cons_succ]
    refine wpAnyH_take (i := 10) (v := ?_) rfl (by kernel_rfl) (by kernel_rfl) (by kernel_rfl) (fun _ _ _ h => h) (Or.inl ⟨by rfl, ?_⟩) (by assumption) ?_
    rotate_left
    · intro w hSw
      (try dsimp only at hSw)
      go_simp
      try with_reducible rfl
    try simp only [Act.put, List.setIfInBounds_toArray, List.set_cons_zero, List.set_cons_succ, List.getElem_toArray, List.getElem_cons_zero, List.getElem_cons_succ]
    refine wpAnyH_done (by kernel_rfl) ?_ _
    clear hHeld
    have hc0 := (bk2 HK1.out).1
    have hl1 : decide ((65536 : Int) ≤ n) = false := by simp; omega
    go_wp2_with fail
    refine wp_region_held_drew (S := fun w' => Bk w' w.heap.size 101 (entC e)) (by kernel_rfl) (Bk.drew (Bk.drew HX.out)) (fun hHeld => ?_)
    refine wpAnyH_take (i := 0) (v := ?_) rfl (by kernel_rfl) (by kernel_rfl) (by kernel_rfl) (fun _ _ _ h => h) (Or.inl ⟨by rfl, ?_⟩) (by assumption) ?_
    rotate_left
    · intro w hSw
      (try dsimp only at hSw)
      go_simp
      try with_reducible rfl
    try simp only [Act.put, List.setIfInBounds_toArray, List.set_cons_zero, List.set_cons_succ, List.getElem_toArray, List.getElem_cons_zero]
    refine wpAnyH_take (i := 1) (v := ?_) rfl (by kernel_rfl) (by kernel_rfl) (by kernel_rfl) (fun _ _ _ h => h) (Or.inl ⟨by rfl, ?_⟩) (by assumption) ?_
    rotate_left
    · intro w hSw
      (try dsimp only at hSw)
      go_simp
      try with_reducible rfl
    try simp only [Act.put, List.setIfInBounds_toArray, List.set_cons_zero, List.set_cons_succ, List.getElem_toArray, List.getElem_cons_zero, List.getElem_cons_succ]
    refine wpAnyH_take (i := 2) (v := ?_) rfl (by kernel_rfl) (by kernel_rfl) (by kernel_rfl) (fun _ _ _ h => h) (Or.inl ⟨by rfl, ?_⟩) (by assumption) ?_
    rotate_left
    · intro w hSw
      (try dsimp only at hSw)
      go_simp
      try with_reducible rfl
    try simp only [Act.put, List.setIfInBounds_toArray, List.set_cons_zero, List.set_cons_succ, List.getElem_toArray, List.getElem_cons_zero, List.getElem_cons_succ]
    refine wpAnyH_take (i := 3) (v := ?_) rfl (by kernel_rfl) (by kernel_rfl) (by kernel_rfl) (fun _ _ _ h => h) (Or.inl ⟨by rfl, ?_⟩) (by assumption) ?_
    rotate_left
    · intro w hSw
      (try dsimp only at hSw)
      go_simp
      try with_reducible rfl
    try simp only [Act.put, List.setIfInBounds_toArray, List.set_cons_zero, List.set_cons_succ, List.getElem_toArray, List.getElem_cons_zero, List.getElem_cons_succ]
    refine wpAnyH_take (i := 5) (v := .agg (List.toArray (entC e))) rfl (by kernel_rfl) (by kernel_rfl) (by kernel_rfl) (fun _ _ _ h => h) (yieldsIf_load_mid (by rfl) _ _ rfl _ _ rfl (entC e) _ (fun w hSw => (Bk.range (pre := []) (post := []) (by simpa using hSw) rfl)) Tryd.underlying101 rfl (HE16.out)) (by assumption) ?_
    try simp only [Act.put, List.setIfInBounds_toArray, List.set_cons_zero, List.set_cons_succ, List.getElem_toArray, List.getElem_cons_zero, List.getElem_cons_succ]
    refine wpAnyH_ready (rs := [4, 6]) (by kernel_rfl) (by simp) ?_
    refine AllReadyH.cons rfl (fun K hK => ?_) (AllReadyH.cons rfl (fun K hK => ?_) AllReadyH.nil)
    · go_simp
      refine hK.out _ _ hHeld (fun hHeld => ?_)
      clear hK K
      try simp only [Act.put, List.setIfInBounds_toArray, List.set_cons_zero, List.set_cons_succ, List.getElem_toArray, List.getElem_cons_zero, List.getElem_cons_succ]
      refine wpAnyH_ready (rs := [6]) (by kernel_rfl) (by simp) ?_
      refine AllReadyH.cons rfl (fun K hK => ?_) AllReadyH.nil
      rw [if_pos (by rfl)]
      (refine wp_bslice _ 1 _ rfl #[(0, .agg (entC e).toArray)] (by simp [Act.eval]) _ _ (bs_ent HE.out _) ?_)
      refine hK.out _ _ ((hHeld.alloc _)) (fun hHeld => ?_)
      clear hK K
      try simp only [Act.put, List.setIfInBounds_toArray, List.set_cons_zero, List.set_cons_succ, List.getElem_toArray, List.getElem_cons_zero, List.getElem_cons_succ]
      obtain ⟨w2, hw2⟩ : ∃ w2, w1.drew.drew.alloc (.cells (entC e).toArray 101) = w2 := ⟨_, rfl⟩
      rw [hw2] at hHeld ⊢
      have hb2 : Below w1.heap.size w1 w2 := hw2 ▸ ((Below.refl w1.heap.size w1).drew.drew).alloc (Nat.le_refl _) _
      have hsn : Sl w2 w2.heap.size 16 (some ⟨w1.heap.size, 0, none⟩) 1 (entC e) := by
        have := sl_new w1.drew.drew (entC e).toArray 101 16 1 (by simpa using entC_len HE.out) (by omega)
        rw [hw2] at this; simpa using this
      have HSN := Lib.hid hsn
      have HO2 := Lib.hid (own_keep HK2.out hb2); have HX2 := Lib.hid (HX.out.later hb2); have HK12 := Lib.hid (HK1.out.later hb2)
      have HM2 : Hid (w2.ownsMap (H := Unit) Tryd.prog 101 (plainElem Tryd.prog 3) b n (bookD es)) := HK3.out.kept (row := none) ⟨hb2.os, hb2.tape, hb2.output, hb2.size, fun k hk _ => hb2.block k hk⟩ (by simp)
      have HL2 : Hid (lo ≤ w2.heap.size) := Nat.le_trans hlw (Nat.le_trans HB1.out.size hb2.size)
      have HB2 := Lib.hid ((HB1.out.mono hlw).trans (hb2.mono (Nat.le_trans hlw HB1.out.size)))
      have HKP2 := Lib.hid ((Keeps.of_below HB1.out).trans (Keeps.of_below hb2))
      clear hb2 hsn hw2
      refine wpAnyH_ready (rs := [7]) (by kernel_rfl) (by simp) ?_
      refine AllReadyH.cons rfl (fun K hK => ?_) AllReadyH.nil
      rw [if_pos (by rfl)]
      refine wp_app _ (.tmp 30) (.tmp 32) 93 rfl lo 101 i0 z0 16 16 Tryd.underlying93 hi0 hz0 his hib hz1 (by decide) (.slice A n c) n (es.flatMap entC) rfl HO2.out _ _ 1 1 (entC e) rfl HSN.out (entC_one e) (by unfold maxLen; omega) (by omega) HL2.out ?_
      intro v3 w3 hown hg hat
      obtain ⟨A3, c3, rfl⟩ := own_form hown
      have HO3 := Lib.hid hown
      have HX3 := Lib.hid (HX2.out.grown hg (fun h => by have := HRB.out _ h.symm; omega))
      have HK3' := Lib.hid (HK12.out.grown hg (Ne.symm (own_bk_ne HO2.out HK12.out (by decide))))
      have HM3 := Lib.hid (HM2.out.kept hg (map_apart HM2.out HO2.out))
      have HB3 := Lib.hid (grown_below HB2.out HO2.out hg (Nat.le_refl _) HL2.out)
      have HKP3 := Lib.hid (HKP2.out.trans (keeps_own HO2.out hg))
      clear hown hg hat
      refine hK.out _ _ HX3.out (fun hHeld => ?_)
      clear hK K
      try simp only [Act.put, List.setIfInBounds_toArray, List.set_cons_zero, List.set_cons_succ, List.getElem_toArray, List.getElem_cons_zero, List.getElem_cons_succ]
      refine wpAnyH_take (i := 8) (v := ?_) rfl (by kernel_rfl) (by kernel_rfl) (by kernel_rfl) (fun _ _ _ h => h) (Or.inl ⟨by rfl, ?_⟩) (by assumption) ?_
      rotate_left
      · intro w hSw
        (try dsimp only at hSw)
        go_simp
        try with_reducible rfl
      try simp only [Act.put, List.setIfInBounds_toArray, List.set_cons_zero, List.set_cons_succ, List.getElem_toArray, List.getElem_cons_zero, List.getElem_cons_succ]
      refine wpAnyH_take (i := 9) (v := ?_) rfl (by kernel_rfl) (by kernel_rfl) (by kernel_rfl) (fun _ _ _ h => h) (Or.inl ⟨by rfl, ?_⟩) (by assumption) ?_
      rotate_left
      · intro w hSw
        (try dsimp only at hSw)
        go_simp
        try with_reducible rfl
      try simp only [Act.put, List.setIfInBounds_toArray, List.set_cons_zero, List.set_cons_succ, List.getElem_toArray, List.getElem_cons_zero, List.getElem_cons_succ]
      refine wpAnyH_ready (rs := [10]) (by kernel_rfl) (by simp) ?_
      refine AllReadyH.cons rfl (fun K hK => ?_) AllReadyH.nil
      rw [if_pos (by rfl)]
      refine wp_store_part _ _ _ rfl g 0 _ ([.slice A3 (n + 1) c3]) rfl rfl rfl _ ([]) ([.slice A n c]) ([.map (some b)]) HK3'.out rfl rfl (by kernel_rfl) (by simp [Value.oneCell']) ?_
      intro w4 hp4
      refine hK.out _ _ (hHeld.grown hp4.only (by intro h; injection h with h; omega)) (fun hHeld => ?_)
      clear hK K
      try simp only [Act.put, List.getElem_toArray, List.getElem_cons_zero, List.getElem_cons_succ]
      refine wpAnyH_done (by kernel_rfl) ?_ _
      clear hHeld
      have HX4 := Lib.hid (HX3.out.grown hp4.only (by intro h; injection h with h; omega))
      have HK4 : Hid (Bk w4 g 95 [.slice A3 (n + 1) c3, .map (some b)]) := hp4.bk
      have HO4 := Lib.hid (own_only HO3.out hp4.only (own_bk_ne HO3.out HK3'.out (by decide)))
      have HM4 := Lib.hid (HM3.out.kept hp4.only (by intro h; injection h with h; exact map_ne HM3.out HK3'.out h))
      have HB4 := Lib.hid (HB3.out.grown hp4.only (Nat.le_trans hlw HKP3.out.size) (fun q hq => by injection hq with hq; omega))
      have HKP4 := Lib.hid (HKP3.out.trans (Keeps.of_grown hp4.only HK3'.out (.inl rfl)))
      clear hp4
      go_wp2_with fail
      refine wp_region_held_drew (S := fun w' => Bk w' w.heap.size 101 (entC e) ∧ Bk w' g 95 [.slice A3 (n + 1) c3, .map (some b)]) (by kernel_rfl) ⟨Bk.drew HX4.out, Bk.drew HK4.out⟩ (fun hHeld => ?_)
      refine wpAnyH_take (i := 0) (v := ?_) rfl (by kernel_rfl) (by kernel_rfl) (by kernel_rfl) (fun _ _ _ h => h) (Or.inl ⟨by rfl, ?_⟩) (by assumption) ?_
      rotate_left
      · intro w hSw
        (try dsimp only at hSw)
        go_simp
        try with_reducible rfl
      try simp only [Act.put, List.setIfInBounds_toArray, List.set_cons_zero, List.set_cons_succ, List.getElem_toArray, List.getElem_cons_zero]
      refine wpAnyH_take (i := 1) (v := ?_) rfl (by kernel_rfl) (by kernel_rfl) (by kernel_rfl) (fun _ _ _ h => h) (Or.inl ⟨by rfl, ?_⟩) (by assumption) ?_
      rotate_left
      · intro w hSw
        (try dsimp only at hSw)
        go_simp
        try with_reducible rfl
      try simp only [Act.put, List.setIfInBounds_toArray, List.set_cons_zero, List.set_cons_succ, List.getElem_toArray, List.getElem_cons_zero, List.getElem_cons_succ]
      refine wpAnyH_take (i := 2) (v := ?_) rfl (by kernel_rfl) (by kernel_rfl) (by kernel_rfl) (fun _ _ _ h => h) (Or.inl ⟨by rfl, ?_⟩) (by assumption) ?_
      rotate_left
      · intro w hSw
        (try dsimp only at hSw)
        go_simp
        try with_reducible rfl
      try simp only [Act.put, List.setIfInBounds_toArray, List.set_cons_zero, List.set_cons_succ, List.getElem_toArray, List.getElem_cons_zero, List.getElem_cons_succ]
      refine wpAnyH_take (i := 3) (v := ?_) rfl (by kernel_rfl) (by kernel_rfl) (by kernel_rfl) (fun _ _ _ h => h) (Or.inl ⟨by rfl, ?_⟩) (by assumption) ?_
      rotate_left
      · intro w hSw
        have hcell := (bk2 hSw.2).2
        clear hSw
        go_simp
        try with_reducible rfl
      try simp only [Act.put, List.setIfInBounds_toArray, List.set_cons_zero, List.set_cons_succ, List.getElem_toArray, List.getElem_cons_zero, List.getElem_cons_succ]
      refine wpAnyH_take (i := 4) (v := .agg (List.toArray (entC e))) rfl (by kernel_rfl) (by kernel_rfl) (by kernel_rfl) (fun _ _ _ h => h) (yieldsIf_load_mid (by rfl) _ _ rfl _ _ rfl (entC e) _ (fun w hSw => (Bk.range (pre := []) (post := []) (by simpa using hSw.1) rfl)) Tryd.underlying101 rfl (HE16.out)) (by assumption) ?_
      try simp only [Act.put, List.setIfInBounds_toArray, List.set_cons_zero, List.set_cons_succ, List.getElem_toArray, List.getElem_cons_zero, List.getElem_cons_succ]
      refine wpAnyH_take (i := 5) (v := ?_) rfl (by kernel_rfl) (by kernel_rfl) (by kernel_rfl) (fun _ _ _ h => h) (Or.inl ⟨by rfl, ?_⟩) (by assumption) ?_
      rotate_left
      · intro w hSw
        (try dsimp only at hSw)
        go_simp
        try with_reducible rfl
      try simp only [Act.put, List.setIfInBounds_toArray, List.set_cons_zero, List.set_cons_succ, List.getElem_toArray, List.getElem_cons_zero, List.getElem_cons_succ]
      have hst := book_store (w := w4.drew) (b := b) (es := es) (e := e) (by rw [HN.out]; exact HM4.out.drew) HE.out (by rw [HN.out]; omega)
      rw [HN.out] at hst
      obtain ⟨w5, hrun, hm5, hg5⟩ := hst
      refine wpAnyH_ready (rs := [6]) (by kernel_rfl) (by simp) ?_
      refine AllReadyH.cons rfl (fun K hK => ?_) AllReadyH.nil
      rw [if_pos (by rfl)]
      (refine wp_mapU _ _ _ _ rfl _ _ _ rfl rfl rfl w5 hrun ?_)
      refine hK.out _ _ (⟨(Bk.drew HX4.out).grown hg5 (by intro h; injection h with h; exact map_ne HM4.out HX4.out h.symm), (Bk.drew HK4.out).grown hg5 (by intro h; injection h with h; exact map_ne HM4.out HK4.out h.symm)⟩) (fun hHeld => ?_)
      clear hK K
      try simp only [Act.put, List.getElem_toArray, List.getElem_cons_zero, List.getElem_cons_succ]
      refine wpAnyH_done (by kernel_rfl) ?_ _
      have HO5 : Hid (w5.ownsRow lo 101 16 (.slice A3 (n + 1) c3) (n + 1) (es.flatMap entC ++ entC e)) := World.ownsRow.kept (w := w4.drew) HO4.out hg5 (.inr (Ne.symm (map_apart HM4.out HO4.out)))
      have HK5 := Lib.hid hHeld.2
      have HM5 := Lib.hid hm5
      have HB5 := Lib.hid ((HB4.out.drew).grown hg5 (Nat.le_trans hlw (Nat.le_trans HKP4.out.size (Nat.le_refl _))) (fun q hq => by injection hq with hq; omega))
      have HKP5 := Lib.hid (HKP4.out.trans (Keeps.trans (Keeps.of_below (below_draws w4 _ 1)) (keeps_map HM4.out.drew hg5)))
      clear hHeld hrun hm5 hg5
      go_wp2_with fail
      go_ret2
      have hs := sig_own (w := w5) (i := n) (by omega)
      have hlw5 : lo ≤ w5.heap.size := Nat.le_trans hlw HKP5.out.size
      refine ⟨⟨_, _, rfl, ?_⟩, ?_, HB5.out.trans (hs.2.mono hlw5), HKP5.out.trans (Keeps.of_below hs.2)⟩
      · rw [HI.out]; exact own_base hs.1 HKP5.out.size
      · rw [HES.out]
        refine BookAt.later ⟨.slice A3 (n + 1) c3, b, HK5.out, ?_, HM5.out, hlg, hlb, ?_⟩ hs.2
        · rw [List.length_append, HN.out, List.flatMap_append]; simpa using HO5.out
        · have := bookS_ok HOK.out HE.out; rwa [HES.out] at this
    · rw [if_pos (by rfl)]
      refine wp_bslice _ 1 _ rfl #[(0, .agg (entC e).toArray)] (by simp [Act.eval]) _ _ (bs_ent HE.out _) ?_
      refine hK.out _ _ (hHeld.alloc _) (fun hHeld => ?_)
      clear hK K
      try simp only [Act.put, List.setIfInBounds_toArray, List.set_cons_zero, List.set_cons_succ, List.getElem_toArray, List.getElem_cons_zero, List.getElem_cons_succ]
      obtain ⟨w2, hw2⟩ : ∃ w2, w1.drew.drew.alloc (.cells (entC e).toArray 101) = w2 := ⟨_, rfl⟩
      rw [hw2] at hHeld ⊢
      have hcl : w2.cell? ⟨g, 0, none⟩ = some (.slice A n c) := by
        have hb2 : Below w1.heap.size w1 w2 := hw2 ▸ ((Below.refl w1.heap.size w1).drew.drew).alloc (Nat.le_refl _) _
        exact (bk2 (HK1.out.later hb2)).1
      refine wpAnyH_ready (rs := [4]) (by kernel_rfl) (by simp) ?_
      refine AllReadyH.cons rfl (fun K hK => ?_) AllReadyH.nil
      go_simp
      refine hK.out _ _ hHeld (fun hHeld => ?_)
      clear hK K hcl
      try simp only [Act.put, List.setIfInBounds_toArray, List.set_cons_zero, List.set_cons_succ, List.getElem_toArray, List.getElem_cons_zero, List.getElem_cons_succ]
      have hb2 : Below w1.heap.size w1 w2 := hw2 ▸ ((Below.refl w1.heap.size w1).drew.drew).alloc (Nat.le_refl _) _
      have hsn : Sl w2 w2.heap.size 16 (some ⟨w1.heap.size, 0, none⟩) 1 (entC e) := by
        have := sl_new w1.drew.drew (entC e).toArray 101 16 1 (by simpa using entC_len HE.out) (by omega)
        rw [hw2] at this; simpa using this
      have HSN := Lib.hid hsn
      have HO2 := Lib.hid (own_keep HK2.out hb2); have HX2 := Lib.hid (HX.out.later hb2); have HK12 := Lib.hid (HK1.out.later hb2)
      have HM2 : Hid (w2.ownsMap (H := Unit) Tryd.prog 101 (plainElem Tryd.prog 3) b n (bookD es)) := HK3.out.kept (row := none) ⟨hb2.os, hb2.tape, hb2.output, hb2.size, fun k hk _ => hb2.block k hk⟩ (by simp)
      have HL2 : Hid (lo ≤ w2.heap.size) := Nat.le_trans hlw (Nat.le_trans HB1.out.size hb2.size)
      have HB2 := Lib.hid ((HB1.out.mono hlw).trans (hb2.mono (Nat.le_trans hlw HB1.out.size)))
      have HKP2 := Lib.hid ((Keeps.of_below HB1.out).trans (Keeps.of_below hb2))
      clear hb2 hsn hw2
      refine wpAnyH_ready (rs := [7]) (by kernel_rfl) (by simp) ?_
      refine AllReadyH.cons rfl (fun K hK => ?_) AllReadyH.nil
      rw [if_pos (by rfl)]
      refine wp_app _ (.tmp 30) (.tmp 32) 93 rfl lo 101 i0 z0 16 16 Tryd.underlying93 hi0 hz0 his hib hz1 (by decide) (.slice A n c) n (es.flatMap entC) rfl HO2.out _ _ 1 1 (entC e) rfl HSN.out (entC_one e) (by unfold maxLen; omega) (by omega) HL2.out ?_
      intro v3 w3 hown hg hat
      obtain ⟨A3, c3, rfl⟩ := own_form hown
      have HO3 := Lib.hid hown
      have HX3 := Lib.hid (HX2.out.grown hg (fun h => by have := HRB.out _ h.symm; omega))
      have HK3' := Lib.hid (HK12.out.grown hg (Ne.symm (own_bk_ne HO2.out HK12.out (by decide))))
      have HM3 := Lib.hid (HM2.out.kept hg (map_apart HM2.out HO2.out))
      have HB3 := Lib.hid (grown_below HB2.out HO2.out hg (Nat.le_refl _) HL2.out)
      have HKP3 := Lib.hid (HKP2.out.trans (keeps_own HO2.out hg))
      clear hown hg hat
      refine hK.out _ _ HX3.out (fun hHeld => ?_)
      clear hK K
      try simp only [Act.put, List.setIfInBounds_toArray, List.set_cons_zero, List.set_cons_succ, List.getElem_toArray, List.getElem_cons_zero, List.getElem_cons_succ]
      refine wpAnyH_take (i := 8) (v := ?_) rfl (by kernel_rfl) (by kernel_rfl) (by kernel_rfl) (fun _ _ _ h => h) (Or.inl ⟨by rfl, ?_⟩) (by assumption) ?_
      rotate_left
      · intro w hSw
        (try dsimp only at hSw)
        go_simp
        try with_reducible rfl
      try simp only [Act.put, List.setIfInBounds_toArray, List.set_cons_zero, List.set_cons_succ, List.getElem_toArray, List.getElem_cons_zero, List.getElem_cons_succ]
      refine wpAnyH_take (i := 9) (v := ?_) rfl (by kernel_rfl) (by kernel_rfl) (by kernel_rfl) (fun _ _ _ h => h) (Or.inl ⟨by rfl, ?_⟩) (by assumption) ?_
      rotate_left
      · intro w hSw
        (try dsimp only at hSw)
        go_simp
        try with_reducible rfl
      try simp only [Act.put, List.setIfInBounds_toArray, List.set_cons_zero, List.set_cons_succ, List.getElem_toArray, List.getElem_cons_zero, List.getElem_cons_succ]
      refine wpAnyH_ready (rs := [10]) (by kernel_rfl) (by simp) ?_
      refine AllReadyH.cons rfl (fun K hK => ?_) AllReadyH.nil
      rw [if_pos (by rfl)]
      refine wp_store_part _ _ _ rfl g 0 _ ([.slice A3 (n + 1) c3]) rfl rfl rfl _ ([]) ([.slice A n c]) ([.map (some b)]) HK3'.out rfl rfl (by kernel_rfl) (by simp [Value.oneCell']) ?_
      intro w4 hp4
      refine hK.out _ _ (hHeld.grown hp4.only (by intro h; injection h with h; omega)) (fun hHeld => ?_)
      clear hK K
      try simp only [Act.put, List.getElem_toArray, List.getElem_cons_zero, List.getElem_cons_succ]
      refine wpAnyH_done (by kernel_rfl) ?_ _
      clear hHeld
      have HX4 := Lib.hid (HX3.out.grown hp4.only (by intro h; injection h with h; omega))
      have HK4 : Hid (Bk w4 g 95 [.slice A3 (n + 1) c3, .map (some b)]) := hp4.bk
      have HO4 := Lib.hid (own_only HO3.out hp4.only (own_bk_ne HO3.out HK3'.out (by decide)))
      have HM4 := Lib.hid (HM3.out.kept hp4.only (by intro h; injection h with h; exact map_ne HM3.out HK3'.out h))
      have HB4 := Lib.hid (HB3.out.grown hp4.only (Nat.le_trans hlw HKP3.out.size) (fun q hq => by injection hq with hq; omega))
      have HKP4 := Lib.hid (HKP3.out.trans (Keeps.of_grown hp4.only HK3'.out (.inl rfl)))
      clear hp4
      go_wp2_with fail
      refine wp_region_held_drew (S := fun w' => Bk w' w.heap.size 101 (entC e) ∧ Bk w' g 95 [.slice A3 (n + 1) c3, .map (some b)]) (by kernel_rfl) ⟨Bk.drew HX4.out, Bk.drew HK4.out⟩ (fun hHeld => ?_)
      refine wpAnyH_take (i := 0) (v := ?_) rfl (by kernel_rfl) (by kernel_rfl) (by kernel_rfl) (fun _ _ _ h => h) (Or.inl ⟨by rfl, ?_⟩) (by assumption) ?_
      rotate_left
      · intro w hSw
        (try dsimp only at hSw)
        go_simp
        try with_reducible rfl
      try simp only [Act.put, List.setIfInBounds_toArray, List.set_cons_zero, List.set_cons_succ, List.getElem_toArray, List.getElem_cons_zero]
      refine wpAnyH_take (i := 1) (v := ?_) rfl (by kernel_rfl) (by kernel_rfl) (by kernel_rfl) (fun _ _ _ h => h) (Or.inl ⟨by rfl, ?_⟩) (by assumption) ?_
      rotate_left
      · intro w hSw
        (try dsimp only at hSw)
        go_simp
        try with_reducible rfl
      try simp only [Act.put, List.setIfInBounds_toArray, List.set_cons_zero, List.set_cons_succ, List.getElem_toArray, List.getElem_cons_zero, List.getElem_cons_succ]
      refine wpAnyH_take (i := 2) (v := ?_) rfl (by kernel_rfl) (by kernel_rfl) (by kernel_rfl) (fun _ _ _ h => h) (Or.inl ⟨by rfl, ?_⟩) (by assumption) ?_
      rotate_left
      · intro w hSw
        (try dsimp only at hSw)
        go_simp
        try with_reducible rfl
      try simp only [Act.put, List.setIfInBounds_toArray, List.set_cons_zero, List.set_cons_succ, List.getElem_toArray, List.getElem_cons_zero, List.getElem_cons_succ]
      refine wpAnyH_take (i := 3) (v := ?_) rfl (by kernel_rfl) (by kernel_rfl) (by kernel_rfl) (fun _ _ _ h => h) (Or.inl ⟨by rfl, ?_⟩) (by assumption) ?_
      rotate_left
      · intro w hSw
        have hcell := (bk2 hSw.2).2
        clear hSw
        go_simp
        try with_reducible rfl
      try simp only [Act.put, List.setIfInBounds_toArray, List.set_cons_zero, List.set_cons_succ, List.getElem_toArray, List.getElem_cons_zero, List.getElem_cons_succ]
      refine wpAnyH_take (i := 4) (v := .agg (List.toArray (entC e))) rfl (by kernel_rfl) (by kernel_rfl) (by kernel_rfl) (fun _ _ _ h => h) (yieldsIf_load_mid (by rfl) _ _ rfl _ _ rfl (entC e) _ (fun w hSw => (Bk.range (pre := []) (post := []) (by simpa using hSw.1) rfl)) Tryd.underlying101 rfl (HE16.out)) (by assumption) ?_
      try simp only [Act.put, List.setIfInBounds_toArray, List.set_cons_zero, List.set_cons_succ, List.getElem_toArray, List.getElem_cons_zero, List.getElem_cons_succ]
      refine wpAnyH_take (i := 5) (v := ?_) rfl (by kernel_rfl) (by kernel_rfl) (by kernel_rfl) (fun _ _ _ h => h) (Or.inl ⟨by rfl, ?_⟩) (by assumption) ?_
      rotate_left
      · intro w hSw
        (try dsimp only at hSw)
        go_simp
        try with_reducible rfl
      try simp only [Act.put, List.setIfInBounds_toArray, List.set_cons_zero, List.set_cons_succ, List.getElem_toArray, List.getElem_cons_zero, List.getElem_cons_succ]
      have hst := book_store (w := w4.drew) (b := b) (es := es) (e := e) (by rw [HN.out]; exact HM4.out.drew) HE.out (by rw [HN.out]; omega)
      rw [HN.out] at hst
      obtain ⟨w5, hrun, hm5, hg5⟩ := hst
      refine wpAnyH_ready (rs := [6]) (by kernel_rfl) (by simp) ?_
      refine AllReadyH.cons rfl (fun K hK => ?_) AllReadyH.nil
      rw [if_pos (by rfl)]
      (refine wp_mapU _ _ _ _ rfl _ _ _ rfl rfl rfl w5 hrun ?_)
      refine hK.out _ _ (⟨(Bk.drew HX4.out).grown hg5 (by intro h; injection h with h; exact map_ne HM4.out HX4.out h.symm), (Bk.drew HK4.out).grown hg5 (by intro h; injection h with h; exact map_ne HM4.out HK4.out h.symm)⟩) (fun hHeld => ?_)
      clear hK K
      try simp only [Act.put, List.getElem_toArray, List.getElem_cons_zero, List.getElem_cons_succ]
      refine wpAnyH_done (by kernel_rfl) ?_ _
      have HO5 : Hid (w5.ownsRow lo 101 16 (.slice A3 (n + 1) c3) (n + 1) (es.flatMap entC ++ entC e)) := World.ownsRow.kept (w := w4.drew) HO4.out hg5 (.inr (Ne.symm (map_apart HM4.out HO4.out)))
      have HK5 := Lib.hid hHeld.2
      have HM5 := Lib.hid hm5
      have HB5 := Lib.hid ((HB4.out.drew).grown hg5 (Nat.le_trans hlw (Nat.le_trans HKP4.out.size (Nat.le_refl _))) (fun q hq => by injection hq with hq; omega))
      have HKP5 := Lib.hid (HKP4.out.trans (Keeps.trans (Keeps.of_below (below_draws w4 _ 1)) (keeps_map HM4.out.drew hg5)))
      clear hHeld hrun hm5 hg5
      go_wp2_with fail
      go_ret2
      have hs := sig_own (w := w5) (i := n) (by omega)
      have hlw5 : lo ≤ w5.heap.size := Nat.le_trans hlw HKP5.out.size
      refine ⟨⟨_, _, rfl, ?_⟩, ?_, HB5.out.trans (hs.2.mono hlw5), HKP5.out.trans (Keeps.of_below hs.2)⟩
      · rw [HI.out]; exact own_base hs.1 HKP5.out.size
      · rw [HES.out]
        refine BookAt.later ⟨.slice A3 (n + 1) c3, b, HK5.out, ?_, HM5.out, hlg, hlb, ?_⟩ hs.2
        · rw [List.length_append, HN.out, List.flatMap_append]; simpa using HO5.out
        · have := bookS_ok HOK.out HE.out; rwa [HES.out] at this
end Go.Proofs.YtakfdlokgddaoaaDoor

/-! The book: who signs, and whether it was signed. -/
namespace Go.Proofs.YtakfdlokgddaoaaDoor
open Go.RowKit Go.Maps

theorem signer_any (w : World) (g : Nat) (k : List Int) (hk : DgOk k) : Calls Tryd.prog 19 #[.pointer (some ⟨g, 0, none⟩), .agg (dl k).toArray] w fun e w' => e = .returned (.iface 99 (.agg (wrC g k).toArray)) ∧ Below w.heap.size w w' := by
  obtain ⟨X, hX⟩ : ∃ X, (dl k).toArray = X := ⟨_, rfl⟩
  obtain ⟨w1, hw1⟩ : ∃ w1, w.alloc (.cells X 23) = w1 := ⟨_, rfl⟩
  have hb1 : Below w.heap.size w w1 := hw1 ▸ below_new w _
  have kx : Bk w1 w.heap.size 23 (dl k) := hw1 ▸ Bk.new' w _ X (by rw [← hX])
  have HW := Lib.hid hw1; have HB1 := Lib.hid hb1; have HX := Lib.hid kx; have HD := Lib.hid (hdg_size k hk); have HBW := Lib.hid (build_wr hk g)
  rw [hX]
  clear hX hw1 hb1 kx
  go_enter Tryd.func19, Tryd.ntmps19
  go_upto_region 1 with fail
  rw [HW.out]
  go_wp2_with (first
    | (with_reducible refine wpList_load_bk rfl 23 _ rfl w.heap.size rfl (dl k) 23 HX.out _ Tryd.underlying23 rfl HD.out ?_)
    | (with_reducible refine wpList_build rfl 99 _ rfl #[(0, .pointer (some ⟨g, 0, none⟩)), (1, .agg (dl k).toArray)] (by simp [Act.eval, Act.put]) (.agg (wrC g k).toArray) (HBW.out _) ?_))
  go_ret
  exact ⟨rfl, HB1.out⟩

theorem RetSig.of {lo g : Nat} {es : List Ent} {e : Ent} {w w1 w' : World} {en : Ending} (h : RetSig lo g es e w1 en w') (hb : Below w.heap.size w w1) (hl : lo ≤ w.heap.size) : RetSig lo g es e w en w' := by
  obtain ⟨⟨A, c, h1, h2⟩, h3, h4, h5⟩ := h
  exact ⟨⟨A, c, h1, own_base h2 hb.size⟩, h3, (hb.mono hl).trans h4, (Keeps.of_below hb).trans h5⟩
structure WrM (w : World) (q g : Nat) (k : List Int) : Prop where
  c0 : w.cell? ⟨q, 0, none⟩ = some (.pointer (some ⟨g, 0, none⟩))
  r1 : w.rangeAt q 1 (dl k)
theorem wr_mem {w : World} {q g : Nat} {k : List Int} {ty : TypeId} (h : Bk w q ty (wrC g k)) : WrM w q g k := by
  have h1 : Bk w q ty ([] ++ .pointer (some ⟨g, 0, none⟩) :: dl k) := h
  have h2 : Bk w q ty ([.pointer (some ⟨g, 0, none⟩)] ++ (dl k ++ [])) := by simpa [wrC] using h
  exact ⟨h1.at1 rfl, h2.range rfl⟩

set_option maxRecDepth 20000 in
theorem wsign_any (w : World) (lo g : Nat) (es : List Ent) (hbk : BookAt w lo g es) (k m : List Int) (hk : DgOk k) (hm : DgOk m) (hl : es.length < 65536) (hlo : lo ≤ w.heap.size) :
    Calls Tryd.prog 119 #[.agg (wrC g k).toArray, .agg (dl m).toArray] w (RetSig lo g es (k, m) w) := by
  obtain ⟨X, hX⟩ : ∃ X, (wrC g k).toArray = X := ⟨_, rfl⟩
  obtain ⟨Y, hY⟩ : ∃ Y, (dl m).toArray = Y := ⟨_, rfl⟩
  obtain ⟨w1, hw1⟩ : ∃ w1, (w.alloc (.cells X 99)).alloc (.cells Y 23) = w1 := ⟨_, rfl⟩
  have hb1 : Below w.heap.size w w1 := hw1 ▸ (below_new w _).alloc (by simp) _
  have kx : Bk w1 w.heap.size 99 (wrC g k) := hw1 ▸ (Bk.new' w _ X (by rw [← hX])).alloc _
  have ky : Bk w1 (w.heap.size + 1) 23 (dl m) := hw1 ▸ Bk.at_ _ _ Y (by simp) (by rw [← hY])
  have HW := Lib.hid hw1; have HB1 := Lib.hid hb1; have HX := Lib.hid kx; have HY := Lib.hid ky; have HD := Lib.hid (hdg_size k hk); have HDM := Lib.hid (hdg_size m hm); have HBE := Lib.hid (build_ent hk hm)
  have HBK := Lib.hid (hbk.later hb1)
  have HKO := Lib.hid hk; have HMO := Lib.hid hm
  have c0 := (wr_mem kx).c0
  rw [hX, hY]
  clear hX hY hw1 hb1 kx ky hbk hk hm
  go_enter Tryd.func119, Tryd.ntmps119
  go_upto_region 1 with fail
  rw [HW.out]
  go_wp2_with (first
    | (with_reducible refine wpList_load_mid rfl 23 _ rfl w.heap.size 1 rfl (dl k) _ (wr_mem HX.out).r1 Tryd.underlying23 rfl HD.out ?_)
    | (with_reducible refine wpList_load_bk rfl 23 _ rfl (w.heap.size + 1) rfl (dl m) 23 HY.out _ Tryd.underlying23 rfl HDM.out ?_)
    | (with_reducible refine wpList_build rfl 101 _ rfl #[(0, .agg (dl k).toArray), (1, .agg (dl m).toArray)] (by simp [Act.eval, Act.put]) (.agg (entC (k, m)).toArray) (HBE.out _) ?_))
  refine (sign_any w1 lo g es HBK.out (k, m) ⟨HKO.out, HMO.out⟩ hl).mono ?_
  rintro e w2 ⟨⟨A, c, rfl, hown⟩, hbk2, hb2, hk2⟩
  have HR : Hid (RetSig lo g es (k, m) w (.returned (.tuple #[.slice A 2 c, .int .i64 0])) w2) := RetSig.of ⟨⟨A, c, rfl, hown⟩, hbk2, hb2, hk2⟩ HB1.out hlo
  clear hown hbk2 hb2 hk2
  go_wp2_with fail
  go_ret2
  exact HR.out

theorem ver_bytes {I : Nat} (_hI : I < 65536) {x y : Int} (hx : 0 ≤ x ∧ x < 256) (_hy : 0 ≤ y ∧ y < 256) : decide ((I : Int) = x + y * 256) = decide ([x, y] = sigB I) := by
  have : ((I : Int) = x + y * 256) ↔ [x, y] = sigB I := by
    simp only [sigB, List.cons.injEq, and_true]; omega
  simp only [this]

set_option maxRecDepth 20000 in
set_option maxHeartbeats 2000000 in
theorem verify_any (w : World) (lo g : Nat) (es : List Ent) (hbk : BookAt w lo g es) (k m : List Int) (hk : DgOk k) (hm : DgOk m) (hl : es.length ≤ 65536) (A : Option Addr) (N C : Nat) (sig : List Int) (hs : Sl w w.heap.size 1 A N (sig.map (.int .u8))) (hso : ByOk sig) :
    Calls Tryd.prog 21 #[.pointer (some ⟨g, 0, none⟩), .agg (dl k).toArray, .agg (dl m).toArray, .slice A N C] w fun e w' => e = .returned (.bool (verB es (k, m) sig)) ∧ Below w.heap.size w w' := by
  obtain ⟨V, b, k1, k2, k3, hlg, hlb, hok⟩ := hbk
  obtain ⟨n, hn⟩ : ∃ n, es.length = n := ⟨_, rfl⟩
  have HN := Lib.hid hn
  rw [hn] at k2 k3 hl
  obtain ⟨X, hX⟩ : ∃ X, (dl k).toArray = X := ⟨_, rfl⟩
  obtain ⟨Y, hY⟩ : ∃ Y, (dl m).toArray = Y := ⟨_, rfl⟩
  obtain ⟨w1, hw1⟩ : ∃ w1, (w.alloc (.cells X 23)).alloc (.cells Y 23) = w1 := ⟨_, rfl⟩
  have hb1 : Below w.heap.size w w1 := hw1 ▸ (below_new w _).alloc (by simp) _
  have kx : Bk w1 w.heap.size 23 (dl k) := hw1 ▸ (Bk.new' w _ X (by rw [← hX])).alloc _
  have ky : Bk w1 (w.heap.size + 1) 23 (dl m) := hw1 ▸ Bk.at_ _ _ Y (by simp) (by rw [← hY])
  have HW := Lib.hid hw1; have HB1 := Lib.hid hb1; have HX := Lib.hid kx; have HY := Lib.hid ky; have HD := Lib.hid (hdg_size k hk); have HDM := Lib.hid (hdg_size m hm); have HBE := Lib.hid (build_ent hk hm)
  have HE : Hid (EntOk (k, m)) := ⟨hk, hm⟩
  have HK1 := Lib.hid (k1.later hb1)
  have HK3 : Hid (w1.ownsMap (H := Unit) Tryd.prog 101 (plainElem Tryd.prog 3) b n (bookD es)) := k3.kept (row := none) ⟨hb1.os, hb1.tape, hb1.output, hb1.size, fun k hk _ => hb1.block k hk⟩ (by simp)
  have HOK := Lib.hid hok
  have HS := Lib.hid (hs.later hb1); have HSO := Lib.hid hso; have hlen := hs.length
  have HLEN := Lib.hid hlen
  rw [hX, hY]
  clear hX hY hw1 hb1 kx ky k1 k2 k3 hk hm hok hs hso
  by_cases hN : N = 2
  · subst hN
    obtain ⟨I, hI⟩ : ∃ I, es.idxOf (k, m) = I := ⟨_, rfl⟩
    have HI := Lib.hid hI
    obtain ⟨F, hF⟩ : ∃ F, decide ((k, m) ∈ es) = F := ⟨_, rfl⟩
    have HF := Lib.hid hF
    have hIl : F = true → I < 65536 := fun h => by rw [← hI]; have := List.idxOf_lt_length_of_mem (by simpa using hF.trans h : (k, m) ∈ es); omega
    obtain ⟨J, hJ⟩ : ∃ J : Int, (if (k, m) ∈ es then (I : Int) else 0) = J := ⟨_, rfl⟩
    have HJ := Lib.hid hJ
    have HLK : Hid (∀ w', w'.ownsMap (H := Unit) Tryd.prog 101 (plainElem Tryd.prog 3) b n (bookD es) → (Instr.lookup 92 (.map (some b)) (.agg (entC (k, m)).toArray) true).run Tryd.prog w' = .ok (.tuple #[.int .i64 J, .bool F]) w') := fun w' h => by
      have := book_look h HOK.out HE.out
      rw [HI.out, HJ.out, HF.out] at this
      exact this
    clear hI hF hJ
    obtain ⟨bb, o, rfl, _, hcc⟩ := HS.out.spot (by omega) (by omega)
    obtain ⟨x, hx0⟩ : ∃ x, sig[0]? = some x := ⟨sig[0]'(by omega), List.getElem?_eq_getElem _⟩
    obtain ⟨y, hy0⟩ : ∃ y, sig[1]? = some y := ⟨sig[1]'(by omega), List.getElem?_eq_getElem _⟩
    have hx1 : w1.cell? ⟨bb, o, none⟩ = some (.int .u8 x) := hcc 0 _ (by rw [List.getElem?_map, hx0]; rfl)
    have hy1 : w1.cell? ⟨bb, o + 1, none⟩ = some (.int .u8 y) := hcc 1 _ (by rw [List.getElem?_map, hy0]; rfl)
    clear hcc
    have hxo := HSO.out x (List.mem_of_getElem? hx0)
    have hyo := HSO.out y (List.mem_of_getElem? hy0)
    have HSIG : Hid (sig = [x, y]) := by
      show sig = _
      match sig, hlen, hx0, hy0 with
      | [a, b], _, hx0, hy0 => simp at hx0 hy0; rw [hx0, hy0]
    have hsh : IntKind.i64.wrap (y * 256) = y * 256 := IntWalk.i64_in _ (by omega)
    have hor := sig_or hxo hyo
    have hwx : IntKind.i64.wrap x = x := IntWalk.i64_in _ (by omega)
    have hwy : IntKind.i64.wrap y = y := IntWalk.i64_in _ (by omega)
    clear hx0 hy0 hlen
    go_enter Tryd.func21, Tryd.ntmps21
    go_upto_region 1 with fail
    rw [HW.out]
    go_wp2_with fail
    refine wp_region_held_drew (S := fun w' => Bk w' w.heap.size 23 (dl k) ∧ Bk w' (w.heap.size + 1) 23 (dl m) ∧ Bk w' g 95 [V, .map (some b)] ∧ w'.ownsMap (H := Unit) Tryd.prog 101 (plainElem Tryd.prog 3) b n (bookD es)) (by kernel_rfl) ⟨Bk.drew HX.out, Bk.drew HY.out, Bk.drew HK1.out, HK3.out.drew⟩ (fun hHeld => ?_)
    refine wpAnyH_take (i := 0) (v := ?_) rfl (by kernel_rfl) (by kernel_rfl) (by kernel_rfl) (fun _ _ _ h => h) (Or.inl ⟨by rfl, ?_⟩) (by assumption) ?_
    rotate_left
    · intro w hSw
      (try dsimp only at hSw)
      go_simp
      try with_reducible rfl
    try simp only [Act.put, List.setIfInBounds_toArray, List.set_cons_zero, List.set_cons_succ, List.getElem_toArray, List.getElem_cons_zero]
    refine wpAnyH_take (i := 1) (v := ?_) rfl (by kernel_rfl) (by kernel_rfl) (by kernel_rfl) (fun _ _ _ h => h) (Or.inl ⟨by rfl, ?_⟩) (by assumption) ?_
    rotate_left
    · intro w hSw
      (try dsimp only at hSw)
      go_simp
      try with_reducible rfl
    try simp only [Act.put, List.setIfInBounds_toArray, List.set_cons_zero, List.set_cons_succ, List.getElem_toArray, List.getElem_cons_zero, List.getElem_cons_succ]
    refine wpAnyH_take (i := 2) (v := ?_) rfl (by kernel_rfl) (by kernel_rfl) (by kernel_rfl) (fun _ _ _ h => h) (Or.inl ⟨by rfl, ?_⟩) (by assumption) ?_
    rotate_left
    · intro w hSw
      (try dsimp only at hSw)
      go_simp
      try with_reducible rfl
    try simp only [Act.put, List.setIfInBounds_toArray, List.set_cons_zero, List.set_cons_succ, List.getElem_toArray, List.getElem_cons_zero, List.getElem_cons_succ]
    refine wpAnyH_take (i := 3) (v := ?_) rfl (by kernel_rfl) (by kernel_rfl) (by kernel_rfl) (fun _ _ _ h => h) (Or.inl ⟨by rfl, ?_⟩) (by assumption) ?_
    rotate_left
    · intro w hSw
      have hcell := (bk2 hSw.2.2.1).2
      clear hSw
      go_simp
      try with_reducible rfl
    try simp only [Act.put, List.setIfInBounds_toArray, List.set_cons_zero, List.set_cons_succ, List.getElem_toArray, List.getElem_cons_zero, List.getElem_cons_succ]
    refine wpAnyH_take (i := 4) (v := .agg (List.toArray (dl k))) rfl (by kernel_rfl) (by kernel_rfl) (by kernel_rfl) (fun _ _ _ h => h) (yieldsIf_load_mid (by rfl) _ _ rfl _ _ rfl (dl k) _ (fun w hSw => (Bk.range (pre := []) (post := []) (by simpa using hSw.1) rfl)) Tryd.underlying23 rfl (HD.out)) (by assumption) ?_
    try simp only [Act.put, List.setIfInBounds_toArray, List.set_cons_zero, List.set_cons_succ, List.getElem_toArray, List.getElem_cons_zero, List.getElem_cons_succ]
    refine wpAnyH_take (i := 5) (v := .agg (List.toArray (dl m))) rfl (by kernel_rfl) (by kernel_rfl) (by kernel_rfl) (fun _ _ _ h => h) (yieldsIf_load_mid (by rfl) _ _ rfl _ _ rfl (dl m) _ (fun w hSw => (Bk.range (pre := []) (post := []) (by simpa using hSw.2.1) rfl)) Tryd.underlying23 rfl (HDM.out)) (by assumption) ?_
    try simp only [Act.put, List.setIfInBounds_toArray, List.set_cons_zero, List.set_cons_succ, List.getElem_toArray, List.getElem_cons_zero, List.getElem_cons_succ]
    refine wpAnyH_take (i := 6) (v := .agg (List.toArray (entC (k, m)))) rfl (by kernel_rfl) (by kernel_rfl) (by kernel_rfl) (fun _ _ _ h => h) (yieldsIf_build (by rfl) _ _ rfl #[(0, .agg (dl k).toArray), (1, .agg (dl m).toArray)] (by simp [Act.eval]) _ (HBE.out)) (by assumption) ?_
    try simp only [Act.put, List.setIfInBounds_toArray, List.set_cons_zero, List.set_cons_succ, List.getElem_toArray, List.getElem_cons_zero, List.getElem_cons_succ]
    refine wpAnyH_take (i := 7) (v := ?_) rfl (by kernel_rfl) (by kernel_rfl) (by kernel_rfl) (fun _ _ _ h => h) (Or.inl ⟨by rfl, ?_⟩) (by assumption) ?_
    rotate_left
    · intro w hSw
      have hcell := HLK.out _ hSw.2.2.2
      clear hSw
      go_simp
      try with_reducible rfl
    try simp only [Act.put, List.setIfInBounds_toArray, List.set_cons_zero, List.set_cons_succ, List.getElem_toArray, List.getElem_cons_zero, List.getElem_cons_succ]
    refine wpAnyH_take (i := 8) (v := ?_) rfl (by kernel_rfl) (by kernel_rfl) (by kernel_rfl) (fun _ _ _ h => h) (Or.inl ⟨by rfl, ?_⟩) (by assumption) ?_
    rotate_left
    · intro w hSw
      (try dsimp only at hSw)
      go_simp
      try with_reducible rfl
    try simp only [Act.put, List.setIfInBounds_toArray, List.set_cons_zero, List.set_cons_succ, List.getElem_toArray, List.getElem_cons_zero, List.getElem_cons_succ]
    refine wpAnyH_take (i := 9) (v := ?_) rfl (by kernel_rfl) (by kernel_rfl) (by kernel_rfl) (fun _ _ _ h => h) (Or.inl ⟨by rfl, ?_⟩) (by assumption) ?_
    rotate_left
    · intro w hSw
      (try dsimp only at hSw)
      go_simp
      try with_reducible rfl
    try simp only [Act.put, List.setIfInBounds_toArray, List.set_cons_zero, List.set_cons_succ, List.getElem_toArray, List.getElem_cons_zero, List.getElem_cons_succ]
    refine wpAnyH_take (i := 10) (v := ?_) rfl (by kernel_rfl) (by kernel_rfl) (by kernel_rfl) (fun _ _ _ h => h) (Or.inl ⟨by rfl, ?_⟩) (by assumption) ?_
    rotate_left
    · intro w hSw
      (try dsimp only at hSw)
      go_simp
      try with_reducible rfl
    try simp only [Act.put, List.setIfInBounds_toArray, List.set_cons_zero, List.set_cons_succ, List.getElem_toArray, List.getElem_cons_zero, List.getElem_cons_succ]
    refine wpAnyH_take (i := 11) (v := ?_) rfl (by kernel_rfl) (by kernel_rfl) (by kernel_rfl) (fun _ _ _ h => h) (Or.inl ⟨by rfl, ?_⟩) (by assumption) ?_
    rotate_left
    · intro w hSw
      (try dsimp only at hSw)
      go_simp
      try with_reducible rfl
    try simp only [Act.put, List.setIfInBounds_toArray, List.set_cons_zero, List.set_cons_succ, List.getElem_toArray, List.getElem_cons_zero, List.getElem_cons_succ]
    refine wpAnyH_take (i := 12) (v := ?_) rfl (by kernel_rfl) (by kernel_rfl) (by kernel_rfl) (fun _ _ _ h => h) (Or.inl ⟨by rfl, ?_⟩) (by assumption) ?_
    rotate_left
    · intro w hSw
      (try dsimp only at hSw)
      go_simp
      try with_reducible rfl
    try simp only [Act.put, List.setIfInBounds_toArray, List.set_cons_zero, List.set_cons_succ, List.getElem_toArray, List.getElem_cons_zero, List.getElem_cons_succ]
    refine wpAnyH_done (by kernel_rfl) ?_ _
    clear hHeld
    cases F
    · go_wp2_with fail
      refine wp_region_held_drew (S := fun _ => True) (by kernel_rfl) trivial (fun hHeld => ?_)
      refine wpAnyH_take (i := 0) (v := ?_) rfl (by kernel_rfl) (by kernel_rfl) (by kernel_rfl) (fun _ _ _ h => h) (Or.inl ⟨by rfl, ?_⟩) (by assumption) ?_
      rotate_left
      · intro w hSw
        (try dsimp only at hSw)
        go_simp
        try with_reducible rfl
      try simp only [Act.put, List.setIfInBounds_toArray, List.set_cons_zero, List.set_cons_succ, List.getElem_toArray, List.getElem_cons_zero]
      refine wpAnyH_take (i := 1) (v := ?_) rfl (by kernel_rfl) (by kernel_rfl) (by kernel_rfl) (fun _ _ _ h => h) (Or.inl ⟨by rfl, ?_⟩) (by assumption) ?_
      rotate_left
      · intro w hSw
        (try dsimp only at hSw)
        go_simp
        try with_reducible rfl
      try simp only [Act.put, List.setIfInBounds_toArray, List.set_cons_zero, List.set_cons_succ, List.getElem_toArray, List.getElem_cons_zero, List.getElem_cons_succ]
      refine wpAnyH_take (i := 2) (v := undef) rfl (by kernel_rfl) (by kernel_rfl) (by kernel_rfl) (fun _ _ _ h => h) (Or.inr ⟨by rfl, rfl⟩) (by assumption) ?_
      try simp only [Act.put, List.setIfInBounds_toArray, List.set_cons_zero, List.set_cons_succ, List.getElem_toArray, List.getElem_cons_zero, List.getElem_cons_succ]
      refine wpAnyH_take (i := 3) (v := undef) rfl (by kernel_rfl) (by kernel_rfl) (by kernel_rfl) (fun _ _ _ h => h) (Or.inr ⟨by rfl, rfl⟩) (by assumption) ?_
      try simp only [Act.put, List.setIfInBounds_toArray, List.set_cons_zero, List.set_cons_succ, List.getElem_toArray, List.getElem_cons_zero, List.getElem_cons_succ]
      refine wpAnyH_take (i := 4) (v := undef) rfl (by kernel_rfl) (by kernel_rfl) (by kernel_rfl) (fun _ _ _ h => h) (Or.inr ⟨by rfl, rfl⟩) (by assumption) ?_
      try simp only [Act.put, List.setIfInBounds_toArray, List.set_cons_zero, List.set_cons_succ, List.getElem_toArray, List.getElem_cons_zero, List.getElem_cons_succ]
      refine wpAnyH_take (i := 5) (v := undef) rfl (by kernel_rfl) (by kernel_rfl) (by kernel_rfl) (fun _ _ _ h => h) (Or.inr ⟨by rfl, rfl⟩) (by assumption) ?_
      try simp only [Act.put, List.setIfInBounds_toArray, List.set_cons_zero, List.set_cons_succ, List.getElem_toArray, List.getElem_cons_zero, List.getElem_cons_succ]
      refine wpAnyH_take (i := 6) (v := undef) rfl (by kernel_rfl) (by kernel_rfl) (by kernel_rfl) (fun _ _ _ h => h) (Or.inr ⟨by rfl, rfl⟩) (by assumption) ?_
      try simp only [Act.put, List.setIfInBounds_toArray, List.set_cons_zero, List.set_cons_succ, List.getElem_toArray, List.getElem_cons_zero, List.getElem_cons_succ]
      refine wpAnyH_take (i := 7) (v := undef) rfl (by kernel_rfl) (by kernel_rfl) (by kernel_rfl) (fun _ _ _ h => h) (Or.inr ⟨by rfl, rfl⟩) (by assumption) ?_
      try simp only [Act.put, List.setIfInBounds_toArray, List.set_cons_zero, List.set_cons_succ, List.getElem_toArray, List.getElem_cons_zero, List.getElem_cons_succ]
      refine wpAnyH_take (i := 8) (v := undef) rfl (by kernel_rfl) (by kernel_rfl) (by kernel_rfl) (fun _ _ _ h => h) (Or.inr ⟨by rfl, rfl⟩) (by assumption) ?_
      try simp only [Act.put, List.setIfInBounds_toArray, List.set_cons_zero, List.set_cons_succ, List.getElem_toArray, List.getElem_cons_zero, List.getElem_cons_succ]
      refine wpAnyH_take (i := 9) (v := undef) rfl (by kernel_rfl) (by kernel_rfl) (by kernel_rfl) (fun _ _ _ h => h) (Or.inr ⟨by rfl, rfl⟩) (by assumption) ?_
      try simp only [Act.put, List.setIfInBounds_toArray, List.set_cons_zero, List.set_cons_succ, List.getElem_toArray, List.getElem_cons_zero, List.getElem_cons_succ]
      refine wpAnyH_take (i := 10) (v := undef) rfl (by kernel_rfl) (by kernel_rfl) (by kernel_rfl) (fun _ _ _ h => h) (Or.inr ⟨by rfl, rfl⟩) (by assumption) ?_
      try simp only [Act.put, List.setIfInBounds_toArray, List.set_cons_zero, List.set_cons_succ, List.getElem_toArray, List.getElem_cons_zero, List.getElem_cons_succ]
      refine wpAnyH_take (i := 11) (v := undef) rfl (by kernel_rfl) (by kernel_rfl) (by kernel_rfl) (fun _ _ _ h => h) (Or.inr ⟨by rfl, rfl⟩) (by assumption) ?_
      try simp only [Act.put, List.setIfInBounds_toArray, List.set_cons_zero, List.set_cons_succ, List.getElem_toArray, List.getElem_cons_zero, List.getElem_cons_succ]
      refine wpAnyH_take (i := 12) (v := undef) rfl (by kernel_rfl) (by kernel_rfl) (by kernel_rfl) (fun _ _ _ h => h) (Or.inr ⟨by rfl, rfl⟩) (by assumption) ?_
      try simp only [Act.put, List.setIfInBounds_toArray, List.set_cons_zero, List.set_cons_succ, List.getElem_toArray, List.getElem_cons_zero, List.getElem_cons_succ]
      refine wpAnyH_take (i := 13) (v := undef) rfl (by kernel_rfl) (by kernel_rfl) (by kernel_rfl) (fun _ _ _ h => h) (Or.inr ⟨by rfl, rfl⟩) (by assumption) ?_
      try simp only [Act.put, List.setIfInBounds_toArray, List.set_cons_zero, List.set_cons_succ, List.getElem_toArray, List.getElem_cons_zero, List.getElem_cons_succ]
      refine wpAnyH_take (i := 14) (v := ?_) rfl (by kernel_rfl) (by kernel_rfl) (by kernel_rfl) (fun _ _ _ h => h) (Or.inl ⟨by rfl, ?_⟩) (by assumption) ?_
      rotate_left
      · intro w hSw
        (try dsimp only at hSw)
        go_simp
        try with_reducible rfl
      try simp only [Act.put, List.setIfInBounds_toArray, List.set_cons_zero, List.set_cons_succ, List.getElem_toArray, List.getElem_cons_zero, List.getElem_cons_succ]
      refine wpAnyH_take (i := 15) (v := ?_) rfl (by kernel_rfl) (by kernel_rfl) (by kernel_rfl) (fun _ _ _ h => h) (Or.inl ⟨by rfl, ?_⟩) (by assumption) ?_
      rotate_left
      · intro w hSw
        (try dsimp only at hSw)
        go_simp
        try with_reducible rfl
      try simp only [Act.put, List.setIfInBounds_toArray, List.set_cons_zero, List.set_cons_succ, List.getElem_toArray, List.getElem_cons_zero, List.getElem_cons_succ]
      refine wpAnyH_done (by kernel_rfl) ?_ _
      clear hHeld
      go_wp2_with fail
      go_ret
      refine ⟨?_, HB1.out.drew.drew⟩
      have hf := HF.out
      rw [decide_eq_false_iff_not] at hf
      rw [show verB es (k, m) sig = false by rw [verB, decide_eq_false_iff_not]; exact fun h => hf h.1]; rfl
    · have hm : (k, m) ∈ es := by simpa using HF.out
      obtain rfl : (I : Int) = J := by rw [← HJ.out, if_pos hm]
      have HV : Hid (verB es (k, m) sig = decide ((I : Int) = x + y * 256)) := by
        show _ = _
        rw [ver_bytes (hIl rfl) hxo hyo, verB, HI.out, HSIG.out]; simp only [hm, true_and]
      clear hm
      go_wp2_with fail
      refine wp_region_held_drew (S := fun w' => w'.cell? ⟨bb, o, none⟩ = some (.int .u8 x) ∧ w'.cell? ⟨bb, o + 1, none⟩ = some (.int .u8 y)) (by kernel_rfl) ⟨hx1, hy1⟩ (fun hHeld => ?_)
      refine wpAnyH_take (i := 0) (v := ?_) rfl (by kernel_rfl) (by kernel_rfl) (by kernel_rfl) (fun _ _ _ h => h) (Or.inl ⟨by rfl, ?_⟩) (by assumption) ?_
      rotate_left
      · intro w hSw
        (try dsimp only at hSw)
        go_simp
        try with_reducible rfl
      try simp only [Act.put, List.setIfInBounds_toArray, List.set_cons_zero, List.set_cons_succ, List.getElem_toArray, List.getElem_cons_zero]
      refine wpAnyH_take (i := 1) (v := ?_) rfl (by kernel_rfl) (by kernel_rfl) (by kernel_rfl) (fun _ _ _ h => h) (Or.inl ⟨by rfl, ?_⟩) (by assumption) ?_
      rotate_left
      · intro w hSw
        (try dsimp only at hSw)
        go_simp
        try with_reducible rfl
      try simp only [Act.put, List.setIfInBounds_toArray, List.set_cons_zero, List.set_cons_succ, List.getElem_toArray, List.getElem_cons_zero, List.getElem_cons_succ]
      refine wpAnyH_take (i := 2) (v := ?_) rfl (by kernel_rfl) (by kernel_rfl) (by kernel_rfl) (fun _ _ _ h => h) (Or.inl ⟨by rfl, ?_⟩) (by assumption) ?_
      rotate_left
      · intro w hSw
        (try dsimp only at hSw)
        go_simp
        try with_reducible rfl
      try simp only [Act.put, List.setIfInBounds_toArray, List.set_cons_zero, List.set_cons_succ, List.getElem_toArray, List.getElem_cons_zero, List.getElem_cons_succ]
      refine wpAnyH_take (i := 3) (v := ?_) rfl (by kernel_rfl) (by kernel_rfl) (by kernel_rfl) (fun _ _ _ h => h) (Or.inl ⟨by rfl, ?_⟩) (by assumption) ?_
      rotate_left
      · intro w hSw
        (try dsimp only at hSw)
        go_simp
        try with_reducible rfl
      try simp only [Act.put, List.setIfInBounds_toArray, List.set_cons_zero, List.set_cons_succ, List.getElem_toArray, List.getElem_cons_zero, List.getElem_cons_succ]
      refine wpAnyH_take (i := 4) (v := ?_) rfl (by kernel_rfl) (by kernel_rfl) (by kernel_rfl) (fun _ _ _ h => h) (Or.inl ⟨by rfl, ?_⟩) (by assumption) ?_
      rotate_left
      · intro w hSw
        (try dsimp only at hSw)
        go_simp
        try with_reducible rfl
      try simp only [Act.put, List.setIfInBounds_toArray, List.set_cons_zero, List.set_cons_succ, List.getElem_toArray, List.getElem_cons_zero, List.getElem_cons_succ]
      refine wpAnyH_take (i := 5) (v := ?_) rfl (by kernel_rfl) (by kernel_rfl) (by kernel_rfl) (fun _ _ _ h => h) (Or.inl ⟨by rfl, ?_⟩) (by assumption) ?_
      rotate_left
      · intro w hSw
        have hcell := hSw.1
        clear hSw
        go_simp
        try with_reducible rfl
      try simp only [Act.put, List.setIfInBounds_toArray, List.set_cons_zero, List.set_cons_succ, List.getElem_toArray, List.getElem_cons_zero, List.getElem_cons_succ]
      refine wpAnyH_take (i := 6) (v := ?_) rfl (by kernel_rfl) (by kernel_rfl) (by kernel_rfl) (fun _ _ _ h => h) (Or.inl ⟨by rfl, ?_⟩) (by assumption) ?_
      rotate_left
      · intro w hSw
        (try dsimp only at hSw)
        go_simp
        try with_reducible rfl
      try simp only [Act.put, List.setIfInBounds_toArray, List.set_cons_zero, List.set_cons_succ, List.getElem_toArray, List.getElem_cons_zero, List.getElem_cons_succ]
      refine wpAnyH_take (i := 7) (v := ?_) rfl (by kernel_rfl) (by kernel_rfl) (by kernel_rfl) (fun _ _ _ h => h) (Or.inl ⟨by rfl, ?_⟩) (by assumption) ?_
      rotate_left
      · intro w hSw
        (try dsimp only at hSw)
        go_simp
        try with_reducible rfl
      try simp only [Act.put, List.setIfInBounds_toArray, List.set_cons_zero, List.set_cons_succ, List.getElem_toArray, List.getElem_cons_zero, List.getElem_cons_succ]
      refine wpAnyH_take (i := 8) (v := ?_) rfl (by kernel_rfl) (by kernel_rfl) (by kernel_rfl) (fun _ _ _ h => h) (Or.inl ⟨by rfl, ?_⟩) (by assumption) ?_
      rotate_left
      · intro w hSw
        (try dsimp only at hSw)
        go_simp
        try with_reducible rfl
      try simp only [Act.put, List.setIfInBounds_toArray, List.set_cons_zero, List.set_cons_succ, List.getElem_toArray, List.getElem_cons_zero, List.getElem_cons_succ]
      refine wpAnyH_take (i := 9) (v := ?_) rfl (by kernel_rfl) (by kernel_rfl) (by kernel_rfl) (fun _ _ _ h => h) (Or.inl ⟨by rfl, ?_⟩) (by assumption) ?_
      rotate_left
      · intro w hSw
        have hcell := hSw.2
        clear hSw
        go_simp
        try with_reducible rfl
      try simp only [Act.put, List.setIfInBounds_toArray, List.set_cons_zero, List.set_cons_succ, List.getElem_toArray, List.getElem_cons_zero, List.getElem_cons_succ]
      refine wpAnyH_take (i := 10) (v := ?_) rfl (by kernel_rfl) (by kernel_rfl) (by kernel_rfl) (fun _ _ _ h => h) (Or.inl ⟨by rfl, ?_⟩) (by assumption) ?_
      rotate_left
      · intro w hSw
        (try dsimp only at hSw)
        go_simp
        try with_reducible rfl
      try simp only [Act.put, List.setIfInBounds_toArray, List.set_cons_zero, List.set_cons_succ, List.getElem_toArray, List.getElem_cons_zero, List.getElem_cons_succ]
      refine wpAnyH_take (i := 11) (v := ?_) rfl (by kernel_rfl) (by kernel_rfl) (by kernel_rfl) (fun _ _ _ h => h) (Or.inl ⟨by rfl, ?_⟩) (by assumption) ?_
      rotate_left
      · intro w hSw
        (try dsimp only at hSw)
        go_simp
        try with_reducible rfl
      try simp only [Act.put, List.setIfInBounds_toArray, List.set_cons_zero, List.set_cons_succ, List.getElem_toArray, List.getElem_cons_zero, List.getElem_cons_succ]
      refine wpAnyH_take (i := 12) (v := ?_) rfl (by kernel_rfl) (by kernel_rfl) (by kernel_rfl) (fun _ _ _ h => h) (Or.inl ⟨by rfl, ?_⟩) (by assumption) ?_
      rotate_left
      · intro w hSw
        (try dsimp only at hSw)
        go_simp
        try with_reducible rfl
      try simp only [Act.put, List.setIfInBounds_toArray, List.set_cons_zero, List.set_cons_succ, List.getElem_toArray, List.getElem_cons_zero, List.getElem_cons_succ]
      refine wpAnyH_take (i := 13) (v := ?_) rfl (by kernel_rfl) (by kernel_rfl) (by kernel_rfl) (fun _ _ _ h => h) (Or.inl ⟨by rfl, ?_⟩) (by assumption) ?_
      rotate_left
      · intro w hSw
        (try dsimp only at hSw)
        go_simp
        try with_reducible rfl
      try simp only [Act.put, List.setIfInBounds_toArray, List.set_cons_zero, List.set_cons_succ, List.getElem_toArray, List.getElem_cons_zero, List.getElem_cons_succ]
      refine wpAnyH_take (i := 14) (v := ?_) rfl (by kernel_rfl) (by kernel_rfl) (by kernel_rfl) (fun _ _ _ h => h) (Or.inl ⟨by rfl, ?_⟩) (by assumption) ?_
      rotate_left
      · intro w hSw
        (try dsimp only at hSw)
        go_simp
        try with_reducible rfl
      try simp only [Act.put, List.setIfInBounds_toArray, List.set_cons_zero, List.set_cons_succ, List.getElem_toArray, List.getElem_cons_zero, List.getElem_cons_succ]
      refine wpAnyH_take (i := 15) (v := ?_) rfl (by kernel_rfl) (by kernel_rfl) (by kernel_rfl) (fun _ _ _ h => h) (Or.inl ⟨by rfl, ?_⟩) (by assumption) ?_
      rotate_left
      · intro w hSw
        (try dsimp only at hSw)
        go_simp
        try with_reducible rfl
      try simp only [Act.put, List.setIfInBounds_toArray, List.set_cons_zero, List.set_cons_succ, List.getElem_toArray, List.getElem_cons_zero, List.getElem_cons_succ]
      refine wpAnyH_done (by kernel_rfl) ?_ _
      clear hHeld
      go_wp2_with fail
      go_ret
      refine ⟨?_, HB1.out.drew.drew⟩
      rw [HV.out]; rfl
  · have h2 : ((N : Int) != 2) = true := by simp; omega
    have HV : Hid (verB es (k, m) sig = false) := by
      show _ = _
      rw [verB, decide_eq_false_iff_not]
      rintro ⟨_, h⟩
      rw [h] at hlen; exact hN (by rw [← hlen]; rfl)
    go_enter Tryd.func21, Tryd.ntmps21
    go_upto_region 1 with fail
    rw [HW.out]
    go_wp2_with fail
    go_ret
    exact ⟨by rw [HV.out]; rfl, HB1.out⟩
end Go.Proofs.YtakfdlokgddaoaaDoor
