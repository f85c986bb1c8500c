/- The document's fund (baizeref31): New, where it makes one. -/
import Derived.Test.YtfapechlnllfaabF16
namespace Go.Proofs.Ytfapechlnllfaab
open Go.RowKit

/-- A fund of the document's, just made. -/
def RMade (w : World) (zs : List Int) (n : Nat) (b : Int) (e : Ending) (w' : World) : Prop :=
  ∃ A c A2 c2, e = .returned (.tuple #[.agg #[.slice A n c, .slice A2 n c2, .int .i64 b], .int .i64 0]) ∧ RF w' A n zs A2 (List.replicate n false) b ∧ Below w.heap.size w w' ∧ (∀ ad, A = some ad → w.heap.size ≤ ad.block) ∧ (∀ ad, A2 = some ad → w.heap.size ≤ ad.block)

def RCut (w : World) (zs : List Int) (n : Nat) (b : Int) (s : Value) (wx : World) : Prop :=
  s = .int .i64 0 ∧ ∃ g1 cap1 g2, Bk wx w.heap.size 47 [.slice (some ⟨g1, 0, none⟩) n cap1, .slice (some ⟨g2, 0, none⟩) n n, .int .i64 b] ∧
    wx.ownsRow (w.heap.size + 1) 3 1 (.slice (some ⟨g1, 0, none⟩) n cap1) n (zs.map (.int .i64)) ∧ Bk wx g2 4 ((List.replicate n false).map .bool) ∧ Below w.heap.size w wx ∧ w.heap.size ≤ g1 ∧ w.heap.size ≤ g2

set_option maxHeartbeats 1600000 in
theorem rnew_ok (A : Option Addr) (n c : Nat) (zs : List Int) (b : Int) (w : World) (h : Sl w w.heap.size 1 A n (zs.map (.int .i64))) (hz : newE zs b = 0) :
    Calls Try.prog 21 #[.slice A n c, .int .i64 b] w (RMade w zs n b) := by
  have hn := h.le
  have hl := h.length
  obtain ⟨ok, hs0, _, hs1⟩ := new_ok_of hz
  have n2 := ok.n2
  have n8 := ok.n8
  have bb0 := ok.b0
  have bb1 := ok.b1
  rw [hl] at n2 n8
  have hbad := Lib.hid (badB_ok hz)
  obtain ⟨w1, hw1⟩ : ∃ w1, w.alloc (.cells #[.slice none 0 0, .slice none 0 0, .int .i64 0] 47) = w1 := ⟨_, rfl⟩
  have hb1 : Below w.heap.size w w1 := hw1 ▸ below_new _ _
  have hk1 : Bk w1 w.heap.size 47 [.slice none 0 0, .slice none 0 0, .int .i64 0] := hw1 ▸ Bk.new w _ #[.slice none 0 0, .slice none 0 0, .int .i64 0]
  have hs1' := h.later hb1
  have hz1 : w1.heap.size = w.heap.size + 1 := by rw [← hw1]; simp
  have HW := Lib.hid hw1; have HB := Lib.hid hb1; have HS := Lib.hid hs1'; have HL := Lib.hid hl; have HK := Lib.hid hk1; have HSU := Lib.hid hs0; have HOK := Lib.hid ok; have HZ1 := Lib.hid hz1
  have hd2 : decide ((n : Int) < 2) = false := by simp; omega
  have hd8 : decide ((8 : Int) < n) = false := by simp; omega
  have hd0 : decide (b < 0) = false := by simp; omega
  have hd1 : decide (1099511627776 < b) = false := by simp; omega
  have hmk := run_make_row' (P := Try.prog) 45 4 (.bool false) 1 Try.underlying45 (by kernel_rfl) rfl .i64 .i64 n (by omega) (by omega)
  obtain ⟨i0, hi, hi0, hi1, hi2⟩ := info_parts Try.infoInt
  clear h hw1 hb1 hk1 hs1' hl hs0 hs1 ok hz hz1
  go_enter Try.func21, Try.ntmps21
  go_wp2_with fail
  rw [HW.out]
  go_loop [6] (fun i => ∃ (k : Nat), k ≤ n ∧ i = .int .i64 k ∧ Hid (badB (zs.drop k) = false)) (fun i => n - (intOf i).toNat)
  case atStart => exact ⟨0, Nat.zero_le _, rfl, hbad⟩
  case round =>
    obtain ⟨k, hk, rfl, hs⟩ := hrel
    by_cases hlt : k < n
    · obtain ⟨ad, z, rfl, hb, hz, hc⟩ := HS.out.at_ hlt
      have e1 := hs.out; rw [drop_cons hz] at e1
      simp only [badB, List.any_cons, Bool.or_eq_false_iff, Bool.not_eq_false'] at e1
      obtain ⟨⟨hr, hz0⟩, e2⟩ := e1
      have HR := Lib.hid hr; have E2 := Lib.hid e2
      clear hz hr e2
      go_wp2_with (go_at_call 30; refine (rright_any _ _).mono ?_; rintro e w' ⟨rfl, rfl⟩; rw [HR.out])
      go_round
      case rel => exact ⟨k + 1, by omega, by go_num, E2⟩
      case measure => simp [intOf]; omega
    · obtain rfl : k = n := by omega
      go_wp2_with (go_at_call 25; refine (rsum_any _ _ _ _ _ HS.out).mono ?_; rintro e w' ⟨rfl, rfl⟩; rw [HSU.out])
      go_upto_region 11 with fail
      go_cut [5] (RCut w zs k b)
      case first =>
        have hlt1 : w.heap.size < w1.heap.size := by rw [HZ1.out]; omega
        obtain ⟨k0, k1, k2, kf⟩ := three_cells HK.out
        go_region_law (first
          | (refine step_app _ (by rfl) (.tmp 54) (.tmp 55) 22 (by rfl) (w.heap.size + 1) 3 i0 (.int .i64 0) 1 8 Try.underlying22 hi hi0 hi1 hi2 rfl (by omega) (.slice (some ⟨w1.heap.size, 0, none⟩) 0 0) 0 [] (by rfl) (own_empty_at (w := w1) rfl (by have := HZ1.out; simp <;> omega)) w1.heap.size A k c (zs.map (.int .i64)) (by rfl) (by repeat (first | exact HS.out | apply Sl.drew | refine Sl.alloc ?_ (by simp <;> omega) _)) (ints_one _ _) (by unfold maxLen; omega) (by omega) (by have := HZ1.out; simp <;> omega) ?_; intro v1 w2 hown1 hgrow hat1; obtain ⟨g1, cap1, rfl, hgb1, hglt1⟩ := hown1.form (by omega); simp only [Value.ownBlock] at hgrow; have hb2 : Below w1.heap.size w1 w2 := (by refine below_only ?_ hgrow (by simp <;> omega) (by omega); repeat (first | exact Below.refl _ _ | apply Below.drew | refine Below.alloc ?_ (by simp <;> omega) _)); obtain ⟨q0, q1, q2, qf⟩ := three_cells (HK.out.later hb2); have qlt : w.heap.size < w2.heap.size := Nat.lt_of_lt_of_le hlt1 hb2.size; have QA := Lib.hid (HK.out.later hb2); have QB := Lib.hid hb2; have QO := Lib.hid hown1; have QK : True := trivial; clear hown1 hgrow hb2 hat1)
          | (refine step_app _ (by rfl) (.tmp 54) (.tmp 55) 22 (by rfl) (w.heap.size + 1) 3 i0 (.int .i64 0) 1 8 Try.underlying22 hi hi0 hi1 hi2 rfl (by omega) (.slice (some ⟨w1.heap.size + 1, 0, none⟩) 0 0) 0 [] (by rfl) (own_empty_at (w := w1.alloc (.cells (madeCells #[.bool false] k) 4)) (by simp) (by have := HZ1.out; simp <;> omega)) w1.heap.size A k c (zs.map (.int .i64)) (by rfl) (by repeat (first | exact HS.out | apply Sl.drew | refine Sl.alloc ?_ (by simp <;> omega) _)) (ints_one _ _) (by unfold maxLen; omega) (by omega) (by have := HZ1.out; simp <;> omega) ?_; intro v1 w2 hown1 hgrow hat1; obtain ⟨g1, cap1, rfl, hgb1, hglt1⟩ := hown1.form (by omega); simp only [Value.ownBlock] at hgrow; have hb2 : Below w1.heap.size w1 w2 := (by refine below_only ?_ hgrow (by simp <;> omega) (by omega); repeat (first | exact Below.refl _ _ | apply Below.drew | refine Below.alloc ?_ (by simp <;> omega) _)); obtain ⟨q0, q1, q2, qf⟩ := three_cells (HK.out.later hb2); have qlt : w.heap.size < w2.heap.size := Nat.lt_of_lt_of_le hlt1 hb2.size; have QA := Lib.hid (HK.out.later hb2); have QB := Lib.hid hb2; have QO := Lib.hid hown1; have QK : Hid (Bk w2 w1.heap.size 4 (madeCells #[.bool false] k).toList) := Bk.grown ((Bk.new w1 4 (madeCells #[.bool false] k)).alloc _).drew hgrow (by simp); clear hown1 hgrow hb2 hat1)
          | (refine step_app _ (by rfl) (.tmp 54) (.tmp 55) 22 (by rfl) (w.heap.size + 1) 3 i0 (.int .i64 0) 1 8 Try.underlying22 hi hi0 hi1 hi2 rfl (by omega) (.slice (some ⟨w1.heap.size, 0, none⟩) 0 0) 0 [] (by rfl) ((own_empty_at (w := w1) rfl (by have := HZ1.out; simp <;> omega)).alloc (.cells (madeCells #[.bool false] k) 4)) w1.heap.size A k c (zs.map (.int .i64)) (by rfl) (by repeat (first | exact HS.out | apply Sl.drew | refine Sl.alloc ?_ (by simp <;> omega) _)) (ints_one _ _) (by unfold maxLen; omega) (by omega) (by have := HZ1.out; simp <;> omega) ?_; intro v1 w2 hown1 hgrow hat1; obtain ⟨g1, cap1, rfl, hgb1, hglt1⟩ := hown1.form (by omega); simp only [Value.ownBlock] at hgrow; have hb2 : Below w1.heap.size w1 w2 := (by refine below_only ?_ hgrow (by simp <;> omega) (by omega); repeat (first | exact Below.refl _ _ | apply Below.drew | refine Below.alloc ?_ (by simp <;> omega) _)); obtain ⟨q0, q1, q2, qf⟩ := three_cells (HK.out.later hb2); have qlt : w.heap.size < w2.heap.size := Nat.lt_of_lt_of_le hlt1 hb2.size; have QA := Lib.hid (HK.out.later hb2); have QB := Lib.hid hb2; have QO := Lib.hid hown1; have QK : Hid (Bk w2 (w1.heap.size + 1) 4 (madeCells #[.bool false] k).toList) := Bk.grown (Bk.at_ (w1.alloc (.cells #[] 3)) 4 (madeCells #[.bool false] k) (by simp) rfl).drew hgrow (by simp); clear hown1 hgrow hb2 hat1))
        all_goals
          go_wp2_with fail
          go_meet
          go_light
          rw [Nat.zero_add, List.nil_append] at QO
        · have hm : g1 ≠ w.heap.size := by have := HZ1.out; omega
          refine ⟨rfl, g1, cap1, w2.heap.size, (((QA.out.set_ 0 _).set_ 1 _).set_ 2 _).alloc _, own_keep (own_far (own_far (own_far QO.out (Ne.symm hm) _) (Ne.symm hm) _) (Ne.symm hm) _) (below_new _ _), ?_, ?_⟩
          · rw [List.map_replicate]
            exact Bk.at_ _ _ _ (by simp) toList_made
          · refine ⟨?_, by have := HZ1.out; omega, by have := QB.out.size; have := HZ1.out; omega⟩
            exact ((((HB.out.trans (QB.out.mono HB.out.size)).setCell (Nat.le_refl _) _).setCell (Nat.le_refl _) _).setCell (Nat.le_refl _) _).alloc (by simp; omega) _
        · have hm : g1 ≠ w.heap.size := by have := HZ1.out; omega
          have hk := QK.out
          rw [toList_made] at hk
          refine ⟨rfl, g1, cap1, w1.heap.size + 1, ((QA.out.set_ 0 _).set_ 1 _).set_ 2 _, own_far (own_far (own_far QO.out (Ne.symm hm) _) (Ne.symm hm) _) (Ne.symm hm) _, ?_, ?_⟩
          · rw [List.map_replicate]
            exact ((hk.far (by simp; omega) _).far (by simp; omega) _).far (by simp; omega) _
          · refine ⟨?_, by have := HZ1.out; omega, by have := HZ1.out; omega⟩
            exact (((HB.out.trans (QB.out.mono HB.out.size)).setCell (Nat.le_refl _) _).setCell (Nat.le_refl _) _).setCell (Nat.le_refl _) _
        · have hm : g1 ≠ w.heap.size := by have := HZ1.out; omega
          have hk := QK.out
          rw [toList_made] at hk
          refine ⟨rfl, g1, cap1, w1.heap.size, ((QA.out.set_ 0 _).set_ 1 _).set_ 2 _, own_far (own_far (own_far QO.out (Ne.symm hm) _) (Ne.symm hm) _) (Ne.symm hm) _, ?_, ?_⟩
          · rw [List.map_replicate]
            exact ((hk.far (by simp; omega) _).far (by simp; omega) _).far (by simp; omega) _
          · refine ⟨?_, by have := HZ1.out; omega, by have := HZ1.out; omega⟩
            exact (((HB.out.trans (QB.out.mono HB.out.size)).setCell (Nat.le_refl _) _).setCell (Nat.le_refl _) _).setCell (Nat.le_refl _) _
      obtain ⟨rfl, g1, cap1, g2, hbk, hown, hb2, hbl, hg1, hg2⟩ := hcut
      obtain ⟨f0, f1, f2, ff⟩ := three_cells hbk
      have HO := Lib.hid hown; have HB2 := Lib.hid hb2; have HBL := Lib.hid hbl
      clear hown hb2 hbl hbk
      go_wp2_with fail
      refine bodyPost_ret (v := .tuple #[.agg #[.slice (some ⟨g1, 0, none⟩) k cap1, .slice (some ⟨g2, 0, none⟩) k k, .int .i64 b], .int .i64 0]) (by simp [results, Try.results21, go_sem, f0, f1, f2]) rfl ?_
      refine ⟨_, _, _, _, rfl, ⟨Sl.of_own HO.out, HB2.out.sl (by simp) (by omega) (fun _ _ h => h), ?_, HL.out⟩, HBL.out, fun ad h => by injection h with h; subst h; exact hg1, fun ad h => by injection h with h; subst h; exact hg2⟩
      have := HOK.out
      rw [HL.out] at this
      exact this
end Go.Proofs.Ytfapechlnllfaab
