/- The book of who signed what: plain, and in memory. -/
import Derived.Test.YthibihjblodfmaaS3
import Derived.Maps.OwnSet
import Derived.Maps.OwnOps
import Derived.Maps.Views
import Derived.DeepKeys4
namespace Go.Proofs.Ythibihjblodfmaa
open Go.RowKit Go.Maps

/-- A key, and what it signed. -/
abbrev Ent := List Int × List Int
def EntOk (e : Ent) : Prop := DgOk e.1 ∧ DgOk e.2
def entC (e : Ent) : List Value := dl e.1 ++ dl e.2
theorem entC_len {e : Ent} (h : EntOk e) : (entC e).length = 16 := by simp [entC, dl_len, h.1.len, h.2.len]
theorem entC_one (e : Ent) : ∀ v ∈ entC e, v.oneCell' = true := by
  intro v hv
  rcases List.mem_append.1 hv with hv | hv
  · exact dl_one' _ v hv
  · exact dl_one' _ v hv
theorem dl_inj {a b : List Int} (h : dl a = dl b) : a = b := by
  have : ∀ (a b : List Int), dl a = dl b → a = b := by
    intro a
    induction a with
    | nil => intro b h; cases b with
      | nil => rfl
      | cons y b => simp [dl] at h
    | cons x a ih => intro b h; cases b with
      | nil => simp [dl] at h
      | cons y b =>
        simp only [dl, List.map_cons, List.cons.injEq, Value.int.injEq, true_and] at h
        rw [h.1, ih b h.2]
  exact this a b h
theorem entC_inj {e f : Ent} (he : EntOk e) (hf : EntOk f) (h : entC e = entC f) : e = f := by
  have := List.append_inj h (by rw [dl_len, dl_len, he.1.len, hf.1.len])
  exact Prod.ext (dl_inj this.1) (dl_inj this.2)

/-- What the key of a map of entries reads as. -/
def entK (e : Ent) : Lit := .string (keyBytes ((e.1 ++ e.2).map (Lit.int .u8)))
theorem Try.deepEnt : WideMaps.KeyLaw Try.prog 154 := deep_law_laid (by kernel_rfl) (m := 4) (by omega) (of_decide_eq_true (by kernel_rfl)) (by kernel_rfl) (by kernel_rfl)
theorem Try.keyedEnt : Keyed Try.prog 154 := Keyed.of_law Try.deepEnt
theorem keyType_ent : Try.prog.keyType 154 = true := by kernel_rfl
theorem cells_ent : Try.prog.cellsOf 154 = 16 := by kernel_rfl
theorem wf8 {x : Int} (h : 0 ≤ x ∧ x < 256) : (Lit.int .u8 x).wf = true := by
  have h1 : IntKind.u8.min = 0 := by decide
  have h2 : IntKind.u8.max = 255 := by decide
  simp only [Lit.wf, h1, h2, Bool.and_eq_true, decide_eq_true_eq]; omega
theorem lits_dg {d : Nat} {a : List Int} (h : DgOk a) : Try.prog.keyLits (d + 2) 29 (dl a) = some (a.map (Lit.int .u8)) := by
  obtain ⟨a0, a1, a2, a3, a4, a5, a6, a7, rfl⟩ := list8 a h.len
  have b := h.byt
  have w0 := wf8 (b a0 (by simp)); have w1 := wf8 (b a1 (by simp)); have w2 := wf8 (b a2 (by simp)); have w3 := wf8 (b a3 (by simp))
  have w4 := wf8 (b a4 (by simp)); have w5 := wf8 (b a5 (by simp)); have w6 := wf8 (b a6 (by simp)); have w7 := wf8 (b a7 (by simp))
  have c1 : Try.prog.cellsOf 5 = 1 := by kernel_rfl
  have c8 : Try.prog.cellsOf 29 = 8 := by kernel_rfl
  have hu : ∀ x : Int, (Lit.int .u8 x).wf = true → Try.prog.keyLits (d + 1) 5 [.int .u8 x] = some [.int .u8 x] := fun x hx => by
    unfold Program.keyLits
    simp [Try.underlying5, hx]
  unfold Program.keyLits
  simp only [Try.underlying29]
  rw [if_pos (by rw [c8]; rfl), c1]
  simp [List.range, List.range.loop, dl, hu _ w0, hu _ w1, hu _ w2, hu _ w3, hu _ w4, hu _ w5, hu _ w6, hu _ w7]
theorem keyOf_ent {e : Ent} (h : EntOk e) : keyOf Try.prog 154 (.agg (entC e).toArray) = some (entK e) := by
  have cd : Try.prog.cellsOf 29 = 8 := by kernel_rfl
  have hl := entC_len h
  have hsz : ∃ m, Try.prog.types.size + 1 = m + 3 := ⟨Try.prog.types.size - 2, by have : 2 ≤ Try.prog.types.size := of_decide_eq_true (by kernel_rfl); omega⟩
  obtain ⟨m, hm⟩ := hsz
  have t1 : (entC e).take 8 = dl e.1 := by rw [entC, List.take_append_of_le_length (by rw [dl_len, h.1.len]; omega), List.take_of_length_le (by rw [dl_len, h.1.len]; omega)]
  have t2 : ((entC e).drop 8).take 8 = dl e.2 := by
    rw [entC, List.drop_append, List.drop_of_length_le (by rw [dl_len, h.1.len]; omega), List.nil_append, dl_len, h.1.len, Nat.sub_self, List.drop_zero, List.take_of_length_le (by rw [dl_len, h.2.len]; omega)]
  unfold keyOf
  simp only [Try.underlying154]
  rw [if_pos (by rw [keyType_ent]; simp [Value.formed, Try.underlying154, cells_ent, hl]), hm]
  unfold Program.keyLits
  simp only [Try.underlying154, Value.cells]
  rw [if_pos ⟨by rw [cells_ent]; simpa using hl, by simp⟩]
  simp [cd, t1, t2, lits_dg h.1, lits_dg h.2, entK]
theorem entK_inj {e f : Ent} (he : EntOk e) (hf : EntOk f) (h : entK e = entK f) : e = f := by
  have h2 := keyOf_ent hf
  rw [← h] at h2
  have := Try.keyedEnt.inj (keyOf_ent he) h2
  have := Value.agg.inj this
  exact entC_inj he hf (by simpa using this)
theorem entK_lit (e : Ent) : WideAt.IsKeyLit (entK e) := trivial

/-! The map of a book's entries, as read. -/
def bookF : List Ent → Nat → DataW Unit → DataW Unit
  | [], _, D => D
  | e :: es, i, D => bookF es (i + 1) (D.put (entK e) (.lit (.int .i64 i)))
def bookD (es : List Ent) : DataW Unit := bookF es 0 (.map [])
theorem bookF_snoc : ∀ (es : List Ent) (e : Ent) (i : Nat) (D : DataW Unit), bookF (es ++ [e]) i D = (bookF es i D).put (entK e) (.lit (.int .i64 ((i + es.length : Nat) : Int)))
  | [], e, i, D => by simp [bookF]
  | x :: es, e, i, D => by
    rw [List.cons_append, bookF, bookF_snoc es e (i + 1), bookF, List.length_cons]
    congr 4; omega
theorem bookD_snoc (es : List Ent) (e : Ent) : bookD (es ++ [e]) = (bookD es).put (entK e) (.lit (.int .i64 (es.length : Int))) := by
  have := bookF_snoc es e 0 (.map []); simpa [bookD] using this
theorem bookF_map : ∀ (es : List Ent) (i : Nat) (D : DataW Unit), IsMap D → IsMap (bookF es i D)
  | [], _, _, h => h
  | _e :: es, i, _D, h => bookF_map es (i + 1) _ (h.put _ _)
def BookOk (es : List Ent) : Prop := (∀ e ∈ es, EntOk e) ∧ es.Nodup
theorem bookD_map (es : List Ent) : IsMap (bookD es) := bookF_map es 0 _ isMap_empty
theorem BookOk.init {es : List Ent} {e : Ent} (h : BookOk (es ++ [e])) : BookOk es := ⟨fun x hx => h.1 x (by simp [hx]), (List.nodup_append.1 h.2).1⟩
theorem idx_app_old {es : List Ent} {e : Ent} (h : e ∈ es) (l : List Ent) : (es ++ l).idxOf e = es.idxOf e := by rw [List.idxOf_append, if_pos h]
theorem idx_app_new {es : List Ent} {e : Ent} (h : e ∉ es) : (es ++ [e]).idxOf e = es.length := by rw [List.idxOf_append, if_neg h]; simp
theorem snoc_ind {α : Type} {p : List α → Prop} (h0 : p []) (h1 : ∀ l a, p l → p (l ++ [a])) (l : List α) : p l := by
  have : ∀ l : List α, p l.reverse := fun l => by
    induction l with
    | nil => exact h0
    | cons a l ih => rw [List.reverse_cons]; exact h1 _ a ih
  have := this l.reverse
  rwa [List.reverse_reverse] at this
theorem book_facts (es : List Ent) : BookOk es → ∀ e, EntOk e → Maps.has (bookD es) (entK e) = decide (e ∈ es) ∧ (e ∈ es → ∀ z, (bookD es).atKey (entK e) z = .lit (.int .i64 (es.idxOf e : Int))) := by
  induction es using snoc_ind with
  | h0 => intro _ e _; exact ⟨rfl, fun h => by simp at h⟩
  | h1 es f ih =>
    intro hok e he
    have hf : EntOk f := hok.1 f (by simp)
    have ih' := ih hok.init e he
    have hfn : f ∉ es := by
      intro hm
      have := (List.nodup_append.1 hok.2).2.2
      exact this f hm f (by simp) rfl
    rw [bookD_snoc]
    by_cases h : e = f
    · subst h
      refine ⟨by rw [has_put_same (bookD_map es) (entK_lit e)]; simp, fun _ z => ?_⟩
      rw [atKey_put_same (bookD_map es) (entK_lit e), idx_app_new hfn]
    · have hne : entK e ≠ entK f := fun hk => h (entK_inj he hf hk)
      refine ⟨by rw [has_put_other hne, ih'.1]; simp [h], fun hm z => ?_⟩
      have hm' : e ∈ es := by simpa [h] using hm
      rw [atKey_put_other hne, ih'.2 hm', idx_app_old hm' _]

/-- With one entry more, if it isn't there. -/
def bookS (es : List Ent) (e : Ent) : List Ent := if e ∈ es then es else es ++ [e]
theorem bookS_ok {es : List Ent} {e : Ent} (h : BookOk es) (he : EntOk e) : BookOk (bookS es e) := by
  unfold bookS
  split
  · exact h
  · rename_i hn
    exact ⟨fun x hx => by rcases List.mem_append.1 hx with hx | hx; · exact h.1 x hx
                          · rw [List.mem_singleton] at hx; exact hx ▸ he, List.nodup_append.2 ⟨h.2, by simp, fun a ha b hb => by rw [List.mem_singleton] at hb; subst hb; rintro rfl; exact hn ha⟩⟩
theorem bookS_len (es : List Ent) (e : Ent) : (bookS es e).length ≤ es.length + 1 := by unfold bookS; split <;> simp
theorem idx_le (es : List Ent) (e : Ent) : es.idxOf e ≤ es.length := List.idxOf_le_length
/-- A signature's bytes. -/
def sigB (i : Nat) : List Int := [(i % 256 : Nat), (i / 256 : Nat)]
/-- Has that been signed? -/
def verB (es : List Ent) (e : Ent) (sig : List Int) : Bool := decide (e ∈ es ∧ sig = sigB (es.idxOf e))
end Go.Proofs.Ythibihjblodfmaa
