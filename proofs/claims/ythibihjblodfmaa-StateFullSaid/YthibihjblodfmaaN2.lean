/- The book in memory: a new one, and a look into it. -/
import Derived.Test.YthibihjblodfmaaN1
import Derived.Lib.EndianBits
namespace Go.Proofs.Ythibihjblodfmaa
open Go.RowKit Go.Maps

/-- A book: block g; all its blocks lie from lo on. -/
def BookAt (w : World) (lo g : Nat) (es : List Ent) : Prop :=
  ∃ (V : Value) (b : Nat), Bk w g 149 [V, .map (some b)] ∧ w.ownsRow lo 154 16 V es.length (es.flatMap entC) ∧ w.ownsMap (H := Unit) Try.prog 154 (plainElem Try.prog 3) b es.length (bookD es) ∧ lo ≤ g ∧ lo ≤ b ∧ BookOk es
/-- What is no part of a book stays. -/
structure Keeps (w w' : World) : Prop where
  size : w.heap.size ≤ w'.heap.size
  blk : ∀ (i : Nat) (cs : Array Value) (t : TypeId) (fr : Nat × Nat), w.heap[i]? = some (.cells cs t fr) → t ≠ 149 → t ≠ 154 → w'.heap[i]? = w.heap[i]?
theorem Keeps.refl (w : World) : Keeps w w := ⟨Nat.le_refl _, fun _ _ _ _ _ _ _ => rfl⟩
theorem Keeps.trans {a b c : World} (h : Keeps a b) (k : Keeps b c) : Keeps a c :=
  ⟨Nat.le_trans h.size k.size, fun i cs t fr hi h1 h2 => (k.blk i cs t fr ((h.blk i cs t fr hi h1 h2).trans hi) h1 h2).trans (h.blk i cs t fr hi h1 h2)⟩
theorem Keeps.of_below {w w' : World} (h : Below w.heap.size w w') : Keeps w w' :=
  ⟨h.size, fun i _cs _t _fr hi _ _ => h.block i (Array.getElem?_eq_some_iff.1 hi).1⟩
theorem Keeps.of_grown {w w' : World} {q : Nat} {t : TypeId} {cs : Array Value} {fr : Nat × Nat} (h : w.grownBy w' (some q)) (hq : w.heap[q]? = some (.cells cs t fr)) (ht : t = 149 ∨ t = 154) : Keeps w w' :=
  ⟨h.size, fun i cs' t' fr' hi h1 h2 => h.block i (Array.getElem?_eq_some_iff.1 hi).1 (by
    rintro e; injection e with e; subst e; rw [hi] at hq; injection hq with hq; injection hq with _ hq; rcases ht with ht | ht
    · exact h1 (hq.trans ht)
    · exact h2 (hq.trans ht))⟩
theorem Keeps.of_map {w w' : World} {q : Nat} {es : Array MapEntry} {c : Nat} (h : w.grownBy w' (some q)) (hq : w.heap[q]? = some (.map es c)) : Keeps w w' :=
  ⟨h.size, fun i cs' t' fr' hi h1 h2 => h.block i (Array.getElem?_eq_some_iff.1 hi).1 (by rintro e; injection e with e; subst e; rw [hi] at hq; cases hq)⟩
theorem Bk.keeps {w w' : World} {g : Nat} {t : TypeId} {xs : List Value} (h : Bk w g t xs) (hk : Keeps w w') (h1 : t ≠ 149) (h2 : t ≠ 154) : Bk w' g t xs := (hk.blk g _ t _ h h1 h2).trans h
theorem own_keeps {w w' : World} {base size n : Nat} {e : TypeId} {v : Value} {xs : List Value} (h : w.ownsRow base e size v n xs) (hk : Keeps w w') (h1 : e ≠ 149) (h2 : e ≠ 154) : w'.ownsRow base e size v n xs := by
  obtain ⟨hl, h⟩ := h
  refine ⟨hl, h.imp id ?_⟩
  rintro ⟨g', cap, cur, e1, e2, e3, r⟩
  exact ⟨g', cap, cur, e1, e2, (hk.blk g' _ e _ e3 h1 h2).trans e3, r⟩

section
variable {w w' : World} {lo g : Nat} {es : List Ent}
theorem BookAt.lt (h : BookAt w lo g es) : g < w.heap.size := by obtain ⟨V, b, h1, _⟩ := h; exact h1.lt
theorem BookAt.ok (h : BookAt w lo g es) : BookOk es := by obtain ⟨V, b, _, _, _, _, _, h⟩ := h; exact h
theorem BookAt.later (h : BookAt w lo g es) (hb : Below w.heap.size w w') : BookAt w' lo g es := by
  obtain ⟨V, b, h1, h2, h3, h4⟩ := h
  exact ⟨V, b, h1.later hb, own_keep h2 hb, h3.kept (row := none) ⟨hb.os, hb.tape, hb.output, hb.size, fun k hk _ => hb.block k hk⟩ (by simp), h4⟩
/-- Another block turns. -/
theorem BookAt.apart {q : Nat} {t : TypeId} {cs : Array Value} {fr : Nat × Nat} (h : BookAt w lo g es) (hg : w.grownBy w' (some q)) (hq : w.heap[q]? = some (.cells cs t fr)) (h1 : t ≠ 149) (h2 : t ≠ 154) : BookAt w' lo g es := by
  obtain ⟨V, b, k1, k2, k3, k4⟩ := h
  refine ⟨V, b, k1.grown hg ?_, ?_, k3.kept hg ?_, k4⟩
  · rintro e; injection e with e; subst e; unfold Bk at k1; rw [hq] at k1; injection k1 with k1; injection k1 with _ k1; exact h1 k1
  · rcases own_bk k2 with ⟨rfl, _⟩ | ⟨g', cap, zs, rfl, _, hb, _⟩
    · exact k2.kept hg (by simp [Value.ownBlock])
    · refine own_only k2 hg ?_
      intro e
      have e : g' = q := by simpa [Value.ownBlock] using e
      subst e; unfold Bk at hb; rw [hq] at hb; injection hb with hb; injection hb with _ hb; exact h2 hb
  · rintro e; injection e with e; subst e
    obtain ⟨ms, c, hm, _⟩ := k3
    rw [hq] at hm; cases hm
theorem BookAt.own {base size n : Nat} {e : TypeId} {v : Value} {xs : List Value} (h : BookAt w lo g es) (ho : w.ownsRow base e size v n xs) (hg : w.grownBy w' v.ownBlock) (h1 : e ≠ 149) (h2 : e ≠ 154) : BookAt w' lo g es := by
  rcases own_bk ho with ⟨rfl, _⟩ | ⟨q, cap, zs, rfl, _, hb, _⟩
  · obtain ⟨V, b, k1, k2, k3, k4⟩ := h
    exact ⟨V, b, k1.grown hg (by simp [Value.ownBlock]), k2.kept hg (by cases V.ownBlock <;> simp [Value.ownBlock]), k3.kept hg (by simp [Value.ownBlock]), k4⟩
  · exact h.apart hg hb h1 h2
theorem BookAt.put {q : Nat} {t : TypeId} {cs : List Value} (h : BookAt w lo g es) (hp : Put w w' q t cs) {ys : List Value} (hq : Bk w q t ys) (h1 : t ≠ 149) (h2 : t ≠ 154) : BookAt w' lo g es := h.apart hp.only hq h1 h2
end

theorem newBook_any (w : World) : Calls Try.prog 25 #[] w fun e w' => (∃ g, e = .returned (.pointer (some ⟨g, 0, none⟩)) ∧ BookAt w' w.heap.size g []) ∧ Below w.heap.size w w' := by
  have hmm := @run_makeMap Try.prog
  go_enter Try.func25, Try.ntmps25
  go_wp2_with fail
  go_ret
  have hb : Below w.heap.size w ((w.alloc (.map #[] 0)).alloc (.cells #[.slice none 0 0, .map (some w.heap.size)] 149)) := (below_new w _).alloc (by simp) _
  exact ⟨⟨_, rfl, .slice none 0 0, w.heap.size, Bk.at_ _ _ _ (by simp) rfl, World.ownsRow_nil _ _ _ _, (World.ownsMap_made w _ _ _).alloc _, by simp, Nat.le_refl _, ⟨by simp, by simp⟩⟩, hb⟩

/-- A look into the map. -/
theorem zeroInt (w : World) : (zeroValue 3).run Try.prog w = .ok (.int .i64 0) w := by kernel_rfl
theorem book_look {w : World} {b n : Nat} {es : List Ent} {e : Ent} (h : w.ownsMap (H := Unit) Try.prog 154 (plainElem Try.prog 3) b n (bookD es)) (hok : BookOk es) (he : EntOk e) :
    (Instr.lookup 146 (.map (some b)) (.agg (entC e).toArray) true).run Try.prog w = .ok (.tuple #[.int .i64 (if e ∈ es then (es.idxOf e : Int) else 0), .bool (decide (e ∈ es))]) w := by
  obtain ⟨v, ps, hrun, hv⟩ := h.look_ok Try.keyedEnt Try.underlying146 (zeroInt w) (plainElem_int Try.underlying3 (by decide)) (keyOf_ent he)
  obtain ⟨c, rfl, hc, _⟩ := plainElem_int_inv Try.underlying3 hv
  have hc := congrArg Prod.fst hc
  simp only at hc
  obtain ⟨f1, f2⟩ := book_facts es hok e he
  rw [hrun, f1]
  by_cases hm : e ∈ es
  · rw [f2 hm] at hc
    have hc := (Lit.int.inj (DataW.lit.inj hc)).2
    rw [if_pos hm, ← hc]
  · rw [atKey_of_not_has (by rw [f1]; simp [hm])] at hc
    have hc := (Lit.int.inj (DataW.lit.inj hc)).2
    rw [if_neg hm, ← hc]
/-- A new entry. -/
theorem book_store {w : World} {b : Nat} {es : List Ent} {e : Ent} (h : w.ownsMap (H := Unit) Try.prog 154 (plainElem Try.prog 3) b es.length (bookD es)) (he : EntOk e) (hl : es.length ≤ 65536) :
    ∃ w', (Instr.mapUpdate 146 (.map (some b)) (.agg (entC e).toArray) (.int .i64 (es.length : Int))).run Try.prog w = .ok () w' ∧ w'.ownsMap (H := Unit) Try.prog 154 (plainElem Try.prog 3) b (es ++ [e]).length (bookD (es ++ [e])) ∧ w.grownBy w' (some b) := by
  obtain ⟨w', h1, h2, h3⟩ := h.update Try.keyedEnt Try.underlying146 (by unfold maxLen; omega) (keyOf_ent he) (plainElem_int (a := (es.length : Int)) Try.underlying3 (by
    have h1 : IntKind.i64.min = -9223372036854775808 := by decide
    have h2 : IntKind.i64.max = 9223372036854775807 := by decide
    simp only [Lit.wf, h1, h2, Bool.and_eq_true, decide_eq_true_eq]; omega))
  exact ⟨w', h1, by rw [bookD_snoc, List.length_append]; exact h2, h3⟩
theorem bs_ent {e : Ent} (h : EntOk e) (w : World) : (Instr.buildSlice 147 1 #[(0, .agg (entC e).toArray)]).run Try.prog w = .ok (.slice (some ⟨w.heap.size, 0, none⟩) 1 1) (w.alloc (.cells (entC e).toArray 154)) := by
  obtain ⟨x, y⟩ := e
  obtain ⟨x0, x1, x2, x3, x4, x5, x6, x7, rfl⟩ := list8 x h.1.len
  obtain ⟨y0, y1, y2, y3, y4, y5, y6, y7, rfl⟩ := list8 y h.2.len
  kernel_rfl
theorem build_ent {x y : List Int} (hx : DgOk x) (hy : DgOk y) (w : World) : (Instr.build 154 #[(0, .agg (dl x).toArray), (1, .agg (dl y).toArray)]).run Try.prog w = .ok (.agg (entC (x, y)).toArray) w := by
  obtain ⟨x0, x1, x2, x3, x4, x5, x6, x7, rfl⟩ := list8 x hx.len
  obtain ⟨y0, y1, y2, y3, y4, y5, y6, y7, rfl⟩ := list8 y hy.len
  kernel_rfl
def wrC (g : Nat) (k : List Int) : List Value := .pointer (some ⟨g, 0, none⟩) :: dl k
theorem build_wr {k : List Int} (hk : DgOk k) (g : Nat) (w : World) : (Instr.build 151 #[(0, .pointer (some ⟨g, 0, none⟩)), (1, .agg (dl k).toArray)]).run Try.prog w = .ok (.agg (wrC g k).toArray) w := by
  obtain ⟨x0, x1, x2, x3, x4, x5, x6, x7, rfl⟩ := list8 k hk.len
  kernel_rfl
theorem sig_or {x y : Int} (hx : 0 ≤ x ∧ x < 256) (hy : 0 ≤ y ∧ y < 256) : bits .or .i64 x (y * 256) = x + y * 256 :=
  bits_join_low .i64 63 (by decide) (fun n h0 h1 => by rw [IntKind.wrap_i64]; omega) 8 x (y * 256) hx.1 (by omega) (by omega) (by omega) (by omega) (by omega)
end Go.Proofs.Ythibihjblodfmaa
