/- baizeref34.Shares: it gives sharesG. -/
import Derived.Test.YtfapechlnllfaaaP2
namespace Go.Proofs.Ytfapechlnllfaaa
open Go.RowKit

theorem right_no {n : Int} (h : rightB n = false) : n < 0 ∨ (0 ≤ n ∧ 1125899906842624 < n) := by
  simp [rightB] at h; omega

set_option maxHeartbeats 800000 in
theorem rshares_any (bond who : Int) (A : Option Addr) (n c : Nat) (gone : List Bool) (w : World) (h : Sl w w.heap.size 1 A n (gone.map .bool)) :
    Calls Try.prog 13 #[.int .i64 bond, .int .i64 who, .slice A n c] w fun e w' => ∃ v, e = .returned (.tuple #[v, .int .i64 (sharesG bond who gone).2]) ∧
      w'.ownsRow w.heap.size 3 1 v (sharesG bond who gone).1.length ((sharesG bond who gone).1.map (.int .i64)) ∧ Below w.heap.size w w' := by
  have hn := h.le
  have hl := h.length
  have H := Lib.hid h; clear h
  have HL := Lib.hid hl; clear hl
  have nil_post : ∀ k : Int, sharesG bond who gone = ([], k) → ∃ v, Ending.returned (.tuple #[.slice none 0 0, .int .i64 k]) = .returned (.tuple #[v, .int .i64 (sharesG bond who gone).2]) ∧
      w.ownsRow w.heap.size 3 1 v (sharesG bond who gone).1.length ((sharesG bond who gone).1.map (.int .i64)) ∧ Below w.heap.size w w := by
    intro k e; rw [e]; exact ⟨_, rfl, World.ownsRow_nil _ _ _ _, Below.refl _ _⟩
  have NP := Lib.hid nil_post; clear nil_post
  by_cases ht' : rightB bond = false
  · have e := Lib.hid (shares_bad bond who gone ht')
    rcases right_no ht' with hr | ⟨hr0, hr⟩
    · go_enter Try.func13, Try.ntmps13
      go_wp2_with fail
      go_ret2
      exact NP.out _ e.out
    go_enter Try.func13, Try.ntmps13
    go_wp2_with fail
    go_ret2
    exact NP.out _ e.out
  have ht : rightB bond = true := by simpa using ht'
  clear ht'
  obtain ⟨hb0, hb1⟩ := right_of ht
  have hdb : decide (bond < 0) = false := by simp; omega
  by_cases h8 : n < 2 ∨ 8 < n
  · have e := Lib.hid (shares_len bond who gone ht (by rw [HL.out]; exact h8))
    by_cases h2 : n < 2
    · have h2' : (n : Int) < 2 := by omega
      go_enter Try.func13, Try.ntmps13
      go_wp2_with fail
      go_ret2
      exact NP.out _ e.out
    · have h2' : ¬ (n : Int) < 2 := by omega
      have h3' : (8 : Int) < n := by omega
      go_enter Try.func13, Try.ntmps13
      go_wp2_with fail
      go_ret2
      exact NP.out _ e.out
  have h2' : (2 : Int) ≤ n := by omega
  have h3' : (n : Int) ≤ 8 := by omega
  by_cases hw : who < 0 ∨ (n : Int) ≤ who
  · have e := Lib.hid (shares_seat bond who gone ht (by rw [HL.out]; exact h8) (by rw [HL.out]; exact hw))
    rcases Int.lt_or_le who 0 with h0 | h0
    · go_enter Try.func13, Try.ntmps13
      go_wp2_with fail
      go_ret2
      exact NP.out _ e.out
    · have h1 : (n : Int) ≤ who := by omega
      have hd : decide (who < 0) = false := by simp; omega
      clear hw
      go_enter Try.func13, Try.ntmps13
      go_wp2_with fail
      go_ret2
      exact NP.out _ e.out
  have hw0 : 0 ≤ who := by omega
  have hw1 : who < n := by omega
  obtain ⟨i, rfl⟩ := Int.eq_ofNat_of_zero_le hw0
  have H8 := Lib.hid h8; have HW := Lib.hid hw; clear h8 hw
  have hmk := run_make_row' (P := Try.prog) 24 3 (.int .i64 0) 8 Try.underlying24 (by kernel_rfl) rfl .i64 .i64 n (by omega) (by omega)
  have hbk0 := Bk.new' w 3 (madeCells #[.int .i64 0] n) (xs := (List.replicate n (0 : Int)).map (.int .i64)) (by rw [toList_made, List.map_replicate])
  have hbl0 := below_new w (.cells (madeCells #[.int .i64 0] n) 3)
  have hin : i < n := by omega
  have hd2 : decide ((n : Int) < 2) = false := by simp; omega
  have hdi : decide ((i : Int) < 0) = false := by simp
  have hdn : decide (n ≤ i) = false := by simp; omega
  go_enter Try.func13, Try.ntmps13
  go_wp2_with fail
  generalize hw1' : w.alloc (.cells (madeCells #[.int .i64 0] n) 3) = w1 at *
  clear hw1'
  go_loop [9, 10] (fun a ix => ∃ (k : Nat) (cv : Int), k ≤ n ∧ ix = .int .i64 k ∧ a = .int .i64 cv ∧ 0 ≤ cv ∧ cv ≤ k ∧ Hid (cv + cnt (eligG i k (gone.drop k)) = cnt (eligG i 0 gone))) (fun _ ix => n - (intOf ix).toNat)
  case atStart => exact ⟨0, 0, Nat.zero_le _, rfl, rfl, by omega, by omega, by simp [Hid]⟩
  case round =>
    obtain ⟨k, cv, hk, rfl, rfl, hcv0, hcv1, hcv⟩ := hrel
    by_cases hlt : k < n
    · obtain ⟨ad, g, rfl, hb, hz', hc⟩ := (H.out.below hbl0).atg hlt
      have HZ := Lib.hid hz'; clear hz'
      have e1 := hcv.out
      rw [drop_cons HZ.out, elig_cons] at e1
      have HC := Lib.hid e1; clear e1
      by_cases hki : k = i
      · subst hki
        have hne : ((k : Int) != (k : Int)) = false := by simp
        go_wp2_with fail
        go_round
        case rel => exact ⟨k + 1, cv, by omega, by go_num, rfl, by omega, by omega, by show _ = _; rw [← HC.out]; simp [cnt]⟩
        case measure => simp [intOf]; omega
      · have hne : ((k : Int) != (i : Int)) = true := by simp; omega
        have hne' : ((k : Int) == (i : Int)) = false := by simp; omega
        rw [hne'] at HC
        cases g
        · go_wp2_with fail
          go_round
          case rel => exact ⟨k + 1, cv + 1, by omega, by go_num, rfl, by omega, by omega, by show _ = _; rw [← HC.out]; simp [cnt]; omega⟩
          case measure => simp [intOf]; omega
        · go_wp2_with fail
          go_round
          case rel => exact ⟨k + 1, cv, by omega, by go_num, rfl, by omega, by omega, by show _ = _; rw [← HC.out]; simp [cnt]⟩
          case measure => simp [intOf]; omega
    · obtain rfl : k = n := by omega
      have e1 := hcv.out
      rw [List.drop_eq_nil_of_le (by rw [HL.out]; exact Nat.le_refl _)] at e1
      have e1' : cnt (eligG i 0 gone) = cv := by rw [← e1]; simp [eligG, cnt]
      have HC := Lib.hid e1'; clear e1 hcv e1'
      have hgl := HL.out
      by_cases h0 : cv = 0
      · subst h0
        have HX := Lib.hid (shares_alone bond i gone ht (by rw [hgl]; exact H8.out) (by rw [hgl]; exact HW.out) HC.out)
        have HGL := Lib.hid hgl; clear hgl
        have hst : w1.cell? ⟨w.heap.size, i, none⟩ = some (.int .i64 0) := by rw [hbk0.cell]; simp [hin]
        have hfr := hbk0.frozen i
        go_wp2_with fail
        go_ret2
        go_light
        rw [HX.out, HGL.out]
        have hb2 := hbk0.set_ i (.int .i64 bond)
        rw [← List.map_set] at hb2
        refine ⟨_, rfl, ?_, hbl0.setCell (p := ⟨w.heap.size, i, none⟩) (Nat.le_refl _) _⟩
        simp only [List.length_set, List.length_replicate]
        exact bk_own hb2 (Nat.le_refl _) (by simp) hn
      · have hcne : (cv == 0) = false := by simp [h0]
        have hcpos : 0 < cv := by omega
        have HX := Lib.hid (shares_some bond i gone ht (by rw [hgl]; exact H8.out) (by rw [hgl]; exact HW.out) (by rw [HC.out]; exact h0))
        rw [HC.out] at HX
        have hm0 := Int.emod_nonneg bond h0
        have hm1 := Int.emod_lt_of_pos bond hcpos
        have hq0 := Int.ediv_nonneg hb0 (Int.le_of_lt hcpos)
        have hq1 : bond / cv ≤ bond := Int.ediv_le_self _ hb0
        have HGL := Lib.hid hgl; clear hgl
        have hdnil : ∀ x, decide ((0 : Int) < x) = decide (0 < x) := fun _ => rfl
        clear hdnil h0
        go_wp2_with fail
        obtain ⟨q, hq⟩ : ∃ q, bond / cv = q := ⟨_, rfl⟩
        rw [hq] at HX hq0 hq1
        obtain ⟨m0, hm⟩ : ∃ m, bond % cv = m := ⟨_, rfl⟩
        rw [hm] at HX hm0 hm1 ⊢
        have HQ := Lib.hid hq; clear hq hm
        go_loopw [11, 12] (fun a ix wr => ∃ (j : Nat) (mv : Int) (xs : List Int), j ≤ k ∧ ix = .int .i64 j ∧ a = .int .i64 mv ∧ 0 ≤ mv ∧ mv ≤ 8 ∧ Bk wr w.heap.size 3 (xs.map (.int .i64)) ∧ Hid (xs.length = k) ∧ Below w.heap.size w wr ∧
            Hid (xs.drop j = (List.replicate k 0).drop j) ∧ Hid (xs.take j ++ shG q mv (eligG i j (gone.drop j)) = shG q m0 (eligG i 0 gone))) (fun _ ix _ => k - (intOf ix).toNat)
        case atStart => exact ⟨0, m0, _, Nat.zero_le _, rfl, rfl, by omega, by omega, hbk0, by simp [Hid], hbl0, rfl, by simp [Hid]⟩
        case round =>
          clear hbk0 hbl0
          obtain ⟨j, mv, xs, hj, rfl, rfl, hmv0, hmv1, hbk, hxl, hbl, hxd, hxt⟩ := hrel
          by_cases hlt : j < k
          · obtain ⟨ad, g, rfl, hb, hz', hc⟩ := (H.out.below hbl).atg hlt
            have HZ := Lib.hid hz'; clear hz'
            have hx0 : (List.replicate k (0 : Int))[j]? = some 0 := by simp [hlt]
            have hxm := drop_getElem hxd.out hx0
            have hst : wr.cell? ⟨w.heap.size, j, none⟩ = some (.int .i64 0) := by rw [hbk.cell]; simp [hxm]
            have hfr := hbk.frozen j
            have HXM := Lib.hid hxm; clear hxm hx0
            have hxd' := drop_step hxd.out
            have HXD := Lib.hid hxd'; clear hxd'
            have e1 := hxt.out
            rw [drop_cons HZ.out, elig_cons] at e1
            have HT := Lib.hid e1; clear e1
            by_cases hki : j = i
            · subst hki
              have hne : ((j : Int) == (j : Int)) = true := by simp
              go_wp2_with fail
              go_roundw
              case rel =>
                refine ⟨j + 1, mv, xs, by omega, by go_num, rfl, by omega, by omega, hbk, hxl, hbl, HXD, ?_⟩
                show _ = _
                rw [← HT.out, take_snoc HXM.out]; simp [shG]
              case measure => simp [intOf]; omega
            · have hne' : ((j : Int) == (i : Int)) = false := by simp; omega
              rw [hne'] at HT
              cases g
              · rcases Int.lt_or_le 0 mv with hmp | hmp
                · have hst2 : ∀ u, (wr.setCell ⟨w.heap.size, j, none⟩ u).cell? ⟨w.heap.size, j, none⟩ = some u := fun u => by rw [(hbk.set_ j u).cell]; simp [hxl.out, hlt]
                  have hqa : 0 ≤ bond / cv := by rw [HQ.out]; exact hq0
                  have hqb : bond / cv ≤ 1125899906842624 := by rw [HQ.out]; omega
                  go_wp2_with fail
                  go_roundw
                  case rel =>
                    have e := HQ.out; subst e
                    refine ⟨j + 1, mv - 1, xs.set j (bond / cv + 1), by omega, by go_num, rfl, by omega, by omega, ?_, ?_, (hbl.setCell (Nat.le_refl _) _).setCell (Nat.le_refl _) _, ?_, ?_⟩
                    · have := (hbk.set_ j (.int .i64 (bond / cv))).set_ j (.int .i64 (bond / cv + 1))
                      rw [List.set_set, ← List.map_set] at this; exact this
                    · have := hxl.out; simpa [Hid] using this
                    · have := HXD.out; simpa [Hid, List.drop_set] using this
                    · show _ = _
                      rw [← HT.out, take_snoc (z := bond / cv + 1) (by rw [List.getElem?_set]; simp [hxl.out, hlt]), List.take_set_of_le (Nat.le_refl _)]
                      simp [shG, hmp]
                  case measure => simp [intOf]; omega
                · obtain rfl : mv = 0 := by omega
                  have hqa : 0 ≤ bond / cv := by rw [HQ.out]; exact hq0
                  have hqb : bond / cv ≤ 1125899906842624 := by rw [HQ.out]; omega
                  go_wp2_with fail
                  go_roundw
                  case rel =>
                    have e := HQ.out; subst e
                    refine ⟨j + 1, 0, xs.set j (bond / cv), by omega, by go_num, rfl, by omega, by omega, ?_, ?_, hbl.setCell (Nat.le_refl _) _, ?_, ?_⟩
                    · rw [List.map_set]; exact hbk.set_ j _
                    · have := hxl.out; simpa [Hid] using this
                    · have := HXD.out; simpa [Hid, List.drop_set] using this
                    · show _ = _
                      rw [← HT.out, take_snoc (z := bond / cv) (by rw [List.getElem?_set]; simp [hxl.out, hlt]), List.take_set_of_le (Nat.le_refl _)]
                      simp [shG]
                  case measure => simp [intOf]; omega
              · go_wp2_with fail
                go_roundw
                case rel =>
                  refine ⟨j + 1, mv, xs, by omega, by go_num, rfl, by omega, by omega, hbk, hxl, hbl, HXD, ?_⟩
                  show _ = _
                  rw [← HT.out, take_snoc HXM.out]; simp [shG]
                case measure => simp [intOf]; omega
          · obtain rfl : j = k := by omega
            go_wp2_with fail
            go_ret2
            go_light
            have hfin : shG q m0 (eligG i 0 gone) = xs := by
              rw [← hxt.out, List.drop_eq_nil_of_le (by rw [HL.out]; exact Nat.le_refl _), List.take_of_length_le (by rw [hxl.out]; exact Nat.le_refl _)]
              simp [eligG, shG]
            rw [HX.out]
            refine ⟨_, rfl, ?_, hbl⟩
            simp only []
            rw [hfin, hxl.out]
            exact bk_own hbk (Nat.le_refl _) (by simp [hxl.out]) hn
end Go.Proofs.Ytfapechlnllfaaa
