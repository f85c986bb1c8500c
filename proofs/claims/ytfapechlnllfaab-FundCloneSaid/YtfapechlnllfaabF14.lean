/- The document's fund (baizeref31): Lay, Back, New. -/
import Derived.Test.YtfapechlnllfaabF13
namespace Go.Proofs.Ytfapechlnllfaab
open Go.RowKit

theorem bools_one (zs : List Bool) : ∀ u ∈ zs.map Value.bool, u.oneCell' = true := by
  intro u hu; obtain ⟨z, _, rfl⟩ := List.mem_map.1 hu; rfl

/-- What is left behind a Lay or a Back: another list of truths. -/
def RL (w w' : World) (A2 A2' : Option Addr) (n : Nat) (d' : List Bool) : Prop := Sl w' w'.heap.size 1 A2' n (d'.map .bool) ∧ Below w.heap.size w w' ∧ ∀ ad, A2' = some ad → A2 = some ad ∨ w.heap.size ≤ ad.block

def RRet (w : World) (A : Option Addr) (n c : Nat) (b : Int) (A2 : Option Addr) (d' : List Bool) (mk : Value → Ending) (e : Ending) (w' : World) : Prop :=
  ∃ A2' c2', e = mk (.agg #[.slice A n c, .slice A2' n c2', .int .i64 b]) ∧ RL w w' A2 A2' n d'
theorem own_far {w : World} {base e size n cap g b o : Nat} {xs : List Value} (h : w.ownsRow base e size (.slice (some ⟨g, 0, none⟩) n cap) n xs) (hne : b ≠ g) (u : Value) :
    (w.setCell ⟨b, o, none⟩ u).ownsRow base e size (.slice (some ⟨g, 0, none⟩) n cap) n xs :=
  own_only h (only_set (only_refl w b) o u) (by simp [Value.ownBlock]; exact Ne.symm hne)
theorem three_cells {w : World} {g : Nat} {t : TypeId} {v0 v1 v2 : Value} (h : Bk w g t [v0, v1, v2]) :
    w.cell? ⟨g, 0, none⟩ = some v0 ∧ w.cell? ⟨g, 1, none⟩ = some v1 ∧ w.cell? ⟨g, 2, none⟩ = some v2 ∧ ∀ i, w.frozen? ⟨g, i, none⟩ = false :=
  ⟨h.cell 0, h.cell 1, h.cell 2, h.frozen⟩

set_option maxHeartbeats 800000 in
theorem rlay_any (w : World) (A : Option Addr) (n c : Nat) (zs : List Int) (A2 : Option Addr) (c2 : Nat) (d : List Bool) (b : Int) (h : RF w A n zs A2 d b) (seat amt now : Int) :
    Calls Try.prog 23 #[.agg #[.slice A n c, .slice A2 n c2, .int .i64 b], .int .i64 seat, .int .i64 amt, .int .i64 now] w
      (RRet w A n c b A2 (layD zs d b seat amt now) (fun v => .returned (.tuple #[v, .int .i64 (layE zs d b seat amt now)]))) := by
  have hn := h.s1.le
  have n8 : n ≤ 8 := by have := h.ok.n8; have := h.zl; omega
  have hzl := h.zl
  have hdl := h.dl
  have hb1 := (below_new w (.cells #[.slice A n c, .slice A2 n c2, .int .i64 b] 47)).alloc (by simp) (.cells #[.slice none 0 0, .slice none 0 0, .int .i64 0] 47)
  have s1 := (h.s1.alloc (Nat.le_refl _) (.cells #[.slice A n c, .slice A2 n c2, .int .i64 b] 47)).alloc (by simp) (.cells #[.slice none 0 0, .slice none 0 0, .int .i64 0] 47)
  have s2 := (h.s2.alloc (Nat.le_refl _) (.cells #[.slice A n c, .slice A2 n c2, .int .i64 b] 47)).alloc (by simp) (.cells #[.slice none 0 0, .slice none 0 0, .int .i64 0] 47)
  have hfail : ∀ w', Below w.heap.size w w' → ∀ e, layE zs d b seat amt now = e → e ≠ 0 → RRet w A n c b A2 (layD zs d b seat amt now) (fun v => .returned (.tuple #[v, .int .i64 (layE zs d b seat amt now)])) (.returned (.tuple #[.agg #[.slice A n c, .slice A2 n c2, .int .i64 b], .int .i64 e])) w' := by
    intro w' hb e he hne
    exact ⟨A2, c2, by rw [he], by rw [lay_not (by rw [he]; exact hne)]; exact h.s2.later hb, hb, fun _ h => .inl h⟩
  have HF := Lib.hid hfail; have S1 := Lib.hid s1; have S2 := Lib.hid s2; have HB1 := Lib.hid hb1
  clear h hfail s1 s2 hb1
  have h1 : decide ((n : Int) ≤ seat) = false ∨ (n : Int) ≤ seat := by
    by_cases hx : (n : Int) ≤ seat
    · exact .inr hx
    · exact .inl (by simp; omega)
  by_cases hs : hasB zs seat = true
  · obtain ⟨k, rfl, hi⟩ := has_of hs
    have hkn : k < n := by omega
    have k2 : k < d.length := by omega
    obtain ⟨ad, x, rfl, hb, hx, hc⟩ := S1.out.at_ hkn
    obtain ⟨ad2, y, rfl, hb2, hy, hc2⟩ := S2.out.atg hkn
    have hE : layE zs d b k amt now = if b < now then 19 else if y = true then 7 else if amt ≠ x then 22 else 0 := by
      simp [layE, hs, hx, hy]
    have HE := Lib.hid hE; have HX := Lib.hid hx; have HY := Lib.hid hy
    have h0 : decide ((k : Int) < 0) = false := by simp
    have h1' : decide (n ≤ k) = false := by simp; omega
    clear h1 hE hs hx hy hzl hdl
    by_cases hnow : b < now
    · have HE9 := Lib.hid (show layE zs d b k amt now = 19 by rw [HE.out, if_pos hnow])
      go_enter Try.func23, Try.ntmps23
      go_wp2_with fail
      refine bodyPost_ret (v := .tuple #[.agg #[.slice (some ad) n c, .slice (some ad2) n c2, .int .i64 b], .int .i64 19]) (by simp [results, Try.results23, go_sem]) rfl ?_
      exact HF.out _ (by repeat (first | exact Below.refl _ _ | refine Below.setCell ?_ (by simp) _ | refine Below.alloc ?_ (by simp) _)) 19 HE9.out (by decide)
    have hnow' : decide (b < now) = false := by simp; omega
    cases y
    · have hfr : w.heap.size ≤ w.heap.size + 1 := by omega
      by_cases hax : amt = x
      · subst hax
        have HE9 := Lib.hid (show layE zs d b k amt now = 0 by rw [HE.out, if_neg hnow]; simp)
        have hD : layD zs d b k amt now = d.set k true := by rw [layD, if_pos HE9.out]; rfl
        have HD := Lib.hid hD
        obtain ⟨w1, hw1⟩ : ∃ w1, (w.alloc (.cells #[.slice (some ad) n c, .slice (some ad2) n c2, .int .i64 b] 47)).alloc (.cells #[.slice none 0 0, .slice none 0 0, .int .i64 0] 47) = w1 := ⟨_, rfl⟩
        have hkA : Bk w1 w.heap.size 47 [.slice (some ad) n c, .slice (some ad2) n c2, .int .i64 b] := hw1 ▸ (Bk.new w _ #[.slice (some ad) n c, .slice (some ad2) n c2, .int .i64 b]).alloc _
        have hkB : Bk w1 (w.heap.size + 1) 47 [.slice none 0 0, .slice none 0 0, .int .i64 0] := hw1 ▸ Bk.at_ _ _ #[.slice none 0 0, .slice none 0 0, .int .i64 0] (by simp) rfl
        have hz1 : w1.heap.size = w.heap.size + 1 + 1 := by rw [← hw1]; simp
        have S3 : Hid (Sl (w1.alloc (.cells #[] 4)) w.heap.size 1 (some ad2) n (d.map .bool)) := hw1 ▸ (S2.out.alloc (by simp <;> omega) _)
        have HE : Hid ((w1.alloc (.cells #[] 4)).ownsRow (w.heap.size + 1 + 1) 4 1 (.slice (some ⟨w.heap.size + 1 + 1, 0, none⟩) 0 0) 0 []) := own_empty_at hz1 (Nat.le_refl _)
        have HB2 : Hid (Below w.heap.size w w1) := hw1 ▸ HB1.out
        have HW := Lib.hid hw1; have HKA := Lib.hid hkA; have HKB := Lib.hid hkB; have HZ1 := Lib.hid hz1
        obtain ⟨i0, hi, hz0, hz1', hz2⟩ := info_parts Try.infoBool
        clear hnow hw1 hkA hkB hz1 hD
        go_enter Try.func23, Try.ntmps23
        go_wp2_with (at_builtin; rw [HW.out]; refine wpList_app _ rfl (.tmp 39) (.tmp 41) 45 rfl (w.heap.size + 1 + 1) 4 i0 (.bool false) 1 1 Try.underlying45 hi hz0 hz1' hz2 rfl (by decide) _ _ _ rfl HE.out _ _ n c2 (d.map .bool) rfl S3.out (bools_one _) (by unfold maxLen; omega) (by omega) (by have := HZ1.out; simp <;> omega) ?_; intro v1 w2 hown1 hg1 hat1; rw [Nat.zero_add, List.nil_append] at hown1; obtain ⟨g1, cap1, rfl, hgb1, hglt1⟩ := hown1.form (by omega); have hb2 : Below w1.heap.size w1 w2 := (grown_below (below_new w1 _) HE.out hg1 (by rw [HZ1.out]; exact Nat.le_refl _) (by simp)); clear hg1 hat1; have hst : w2.cell? ⟨g1, k, none⟩ = some (.bool false) := (by rw [hown1.cellAt k (by omega), List.getElem?_map, HY.out]; rfl); have hfs := hown1.frozenAt k; obtain ⟨a0, a1, a2, af⟩ := three_cells (HKA.out.later hb2); obtain ⟨b0, b1, b2, bf⟩ := three_cells (HKB.out.later hb2); have hneA : g1 ≠ w.heap.size := (by omega); have hneB : g1 ≠ w.heap.size + 1 := (by omega); have hneA' : w.heap.size ≠ g1 := (by omega); have hneB' : w.heap.size + 1 ≠ g1 := (by omega); have hlt2 : w.heap.size + 1 < w2.heap.size := (by omega); have HO1 := Lib.hid hown1; have HBB := Lib.hid hb2; clear hown1 hb2)
        refine bodyPost_ret (v := .tuple #[.agg #[.slice (some ad) n c, .slice (some ⟨g1, 0, none⟩) n cap1, .int .i64 b], .int .i64 0]) (by simp [results, Try.results23, go_sem, b0, b1, b2, hneA, hneB, hneA', hneB', hst]) rfl ?_
        refine ⟨some ⟨g1, 0, none⟩, cap1, by rw [HE9.out], ?_, ?_, fun ad h => .inr (by injection h with h; subst h; show _ ≤ g1; omega)⟩
        · rw [HD.out, List.map_set]
          refine Sl.of_own (base := w.heap.size + 1 + 1) (e := 4) (c := cap1) ?_
          exact own_far (own_far (own_far (((own_far HO1.out hneA' _).stored k (.bool true)).1) hneB' _) hneB' _) hneB' _
        · exact (((((HB2.out.trans (HBB.out.mono (by rw [HZ1.out]; omega))).setCell (Nat.le_refl _) _).setCell (p := ⟨g1, k, none⟩) (by show _ ≤ g1; omega) _).setCell (Nat.le_succ _) _).setCell (Nat.le_succ _) _).setCell (Nat.le_succ _) _
      · have hax' : (amt != x) = true := by simpa using hax
        have HE9 := Lib.hid (show layE zs d b k amt now = 22 by rw [HE.out, if_neg hnow]; simp [hax])
        clear hnow
        go_enter Try.func23, Try.ntmps23
        go_wp2_with fail
        refine bodyPost_ret (v := .tuple #[.agg #[.slice (some ad) n c, .slice (some ad2) n c2, .int .i64 b], .int .i64 22]) (by simp [results, Try.results23, go_sem]) rfl ?_
        exact HF.out _ (by repeat (first | exact Below.refl _ _ | refine Below.setCell ?_ (by simp) _ | refine Below.alloc ?_ (by simp) _)) 22 HE9.out (by decide)
    · have HE9 := Lib.hid (show layE zs d b k amt now = 7 by rw [HE.out, if_neg hnow]; rfl)
      clear hnow
      go_enter Try.func23, Try.ntmps23
      go_wp2_with fail
      refine bodyPost_ret (v := .tuple #[.agg #[.slice (some ad) n c, .slice (some ad2) n c2, .int .i64 b], .int .i64 7]) (by simp [results, Try.results23, go_sem]) rfl ?_
      exact HF.out _ (by repeat (first | exact Below.refl _ _ | refine Below.setCell ?_ (by simp) _ | refine Below.alloc ?_ (by simp) _)) 7 HE9.out (by decide)
  · have hs' : hasB zs seat = false := by simpa using hs
    have HE := Lib.hid (show layE zs d b seat amt now = 28 by simp [layE, hs'])
    have hcase : seat < 0 ∨ decide (seat < 0) = false ∧ (n : Int) ≤ seat := by
      simp [hasB] at hs'; by_cases h0 : seat < 0
      · exact .inl h0
      · have := hs' (by omega); exact .inr ⟨by simp; omega, by omega⟩
    clear hs hs' h1 hzl hdl
    rcases hcase with h0 | ⟨h0, h1⟩
    all_goals
      go_enter Try.func23, Try.ntmps23
      go_wp2_with fail
      refine bodyPost_ret (v := .tuple #[.agg #[.slice A n c, .slice A2 n c2, .int .i64 b], .int .i64 28]) (by simp [results, Try.results23, go_sem]) rfl ?_
      exact HF.out _ (by repeat (first | exact Below.refl _ _ | refine Below.setCell ?_ (by simp) _ | refine Below.alloc ?_ (by simp) _)) 28 HE.out (by decide)
end Go.Proofs.Ytfapechlnllfaab
